/- headgate/headgateref01.Pad, headgate/headgateref01.PutLittle, headgate/headgateref02.step, headgate/headgateref02.More, headgate/headgateref02.Sum, headgate/headgateref02.Digest, headgate/headgateref05.Put, headgate/headgateref05.Sectors, headgate/headgateref05.Get: plain functions, and that the calls come to what they say. No condition. -/
import Derived.Test.YtdcojinnjpihaaaDoorFT
import Derived.Test.YtdcojinnjpihaaaDoorF24
namespace Go.Proofs.YtdcojinnjpihaaaDoor.F
open Go Go.RowKit Go.Proofs.YtdcojinnjpihaaaDoor.X
set_option linter.unusedVariables false
set_option linter.unusedSimpArgs false
/-! ### headgate/headgateref01.Pad: function 25 -/
def headgateref01_Pad.f (a0 : ByteArray) (a1 : Int) : Option ByteArray :=
  if a1 < 1 then (some a0) else (if a1 > 4096 then (some a0) else (asrt (¬ a1 = 0) (if (Int.tmod (a0.size : Int) a1) = 0 then (some a0) else (asrt (0 ≤ (IntKind.wrap .i64 (a1 - (Int.tmod (a0.size : Int) a1)))) (asrt ((IntKind.wrap .i64 (a1 - (Int.tmod (a0.size : Int) a1))) ≤ 281474976710656) (asrt (a0.size + (strOfNums (List.replicate (IntKind.wrap .i64 (a1 - (Int.tmod (a0.size : Int) a1)) : Int).toNat (0 : Int))).size ≤ 9223372036854775807) (some (a0 ++ (strOfNums (List.replicate (IntKind.wrap .i64 (a1 - (Int.tmod (a0.size : Int) a1)) : Int).toNat (0 : Int)))))))))))
set_option maxRecDepth 100000 in
set_option maxHeartbeats 4000000 in
theorem headgateref01_Pad.calls (a0 : ByteArray) (a1 : Int)  (r : ByteArray) (w : World)  (h : headgateref01_Pad.f a0 a1 = some r) :
    Calls Tryd.prog 25 #[.string a0, .int .i64 a1] w (fun e W' => e = .returned (.string r) ∧ Wd w W' [] [] ) := by
  refine sxstart (n := 29) (l := [(0, .string a0), (1, .int .i64 a1)]) Tryd.func25 rfl rfl (Nat.le_of_ble_eq_true KR) (subsA_cons rfl (subsA_cons rfl (subsA_nil _))) ?_
  intro a ha
  have HW := Wd.refl w
  unfold headgateref01_Pad.f at h
  refine wp_seq_k (fun K1328 hK1329 => ?_)
  refine wp_region_lit ?_
  refine stepp ha 4 (.string (⟨#[]⟩ : ByteArray)) KR KR ?_; clear ha a; intro a ha
  refine endl ?_
  refine thenN (hK1329 _ _ ?_); clear hK1329
  refine wp_seq_k (fun K1330 hK1331 => ?_)
  refine wp_seq_k (fun K1332 hK1333 => ?_)
  refine wp_region_lit ?_
  refine stepp ha 5 (.int .i64 a1) KR KR ?_; clear ha a; intro a ha
  refine stepp ha 6 (.bool (decide (a1 < 1))) KR KR ?_; clear ha a; intro a ha
  refine stepp ha 7 (.bool (decide (a1 < 1))) KR KR ?_; clear ha a; intro a ha
  by_cases hp1334 : a1 < 1
  · skip
    replace h := ite_pos' h hp1334
    replace ha := ha.bool 7 KR (decide_eq_true hp1334)
    refine stepo ha 8 KR ?_; clear ha a; intro a ha
    refine stepo ha 9 KR ?_; clear ha a; intro a ha
    refine stepp ha 10 (.bool true) KR KR ?_; clear ha a; intro a ha
    refine stepp ha 11 (.bool true) KR KR ?_; clear ha a; intro a ha
    refine stepo ha 12 KR ?_; clear ha a; intro a ha
    refine stepo ha 13 KR ?_; clear ha a; intro a ha
    refine stepo ha 14 KR ?_; clear ha a; intro a ha
    refine stepo ha 15 KR ?_; clear ha a; intro a ha
    refine stepo ha 16 KR ?_; clear ha a; intro a ha
    refine stepp ha 17 (.bool true) KR KR ?_; clear ha a; intro a ha
    refine endl ?_
    refine thenN (hK1333 _ _ ?_); clear hK1333
    refine condT ha KR KR (t := true) (rfl) ?_
    refine wp_seq_k (fun K1337 hK1338 => ?_)
    refine wp_region_lit ?_
    refine stepp ha 18 (.string a0) KR KR ?_; clear ha a; intro a ha
    refine stepp ha 4 (.string a0) KR KR ?_; clear ha a; intro a ha
    refine endl ?_
    refine thenN (hK1338 _ _ ?_); clear hK1338
    refine wp_ret ?_
    refine thenR ?_
    obtain rfl := Option.some.inj h
    exact finv ha _ _ rfl (.tmp (v := .string a0) KR .nil) (.string a0) rfl ⟨rfl, HW.pick [] [] (by decide) (by decide) rfl KR⟩
  · skip
    replace h := ite_neg' h hp1334
    replace ha := ha.bool 7 KR (decide_eq_false hp1334)
    refine stepp ha 8 (.int .i64 a1) KR KR ?_; clear ha a; intro a ha
    refine stepp ha 9 (.bool (decide (a1 > 4096))) KR KR ?_; clear ha a; intro a ha
    refine stepp ha 10 (.bool (decide (a1 > 4096))) KR KR ?_; clear ha a; intro a ha
    refine stepp ha 11 (.bool (decide (a1 > 4096))) KR KR ?_; clear ha a; intro a ha
    by_cases hp1335 : a1 > 4096
    · skip
      replace h := ite_pos' h hp1335
      replace ha := ha.bool 11 KR (decide_eq_true hp1335)
      refine stepo ha 12 KR ?_; clear ha a; intro a ha
      refine stepo ha 13 KR ?_; clear ha a; intro a ha
      refine stepo ha 14 KR ?_; clear ha a; intro a ha
      refine stepo ha 15 KR ?_; clear ha a; intro a ha
      refine stepo ha 16 KR ?_; clear ha a; intro a ha
      refine stepp ha 17 (.bool true) KR KR ?_; clear ha a; intro a ha
      refine endl ?_
      refine thenN (hK1333 _ _ ?_); clear hK1333
      refine condT ha KR KR (t := true) (rfl) ?_
      refine wp_seq_k (fun K1339 hK1340 => ?_)
      refine wp_region_lit ?_
      refine stepp ha 18 (.string a0) KR KR ?_; clear ha a; intro a ha
      refine stepp ha 4 (.string a0) KR KR ?_; clear ha a; intro a ha
      refine endl ?_
      refine thenN (hK1340 _ _ ?_); clear hK1340
      refine wp_ret ?_
      refine thenR ?_
      obtain rfl := Option.some.inj h
      exact finv ha _ _ rfl (.tmp (v := .string a0) KR .nil) (.string a0) rfl ⟨rfl, HW.pick [] [] (by decide) (by decide) rfl KR⟩
    · skip
      replace h := ite_neg' h hp1335
      replace ha := ha.bool 11 KR (decide_eq_false hp1335)
      refine stepp ha 12 (.string a0) KR KR ?_; clear ha a; intro a ha
      refine stepp ha 13 (.int .i64 (a0.size : Int)) KR KR ?_; clear ha a; intro a ha
      refine stepp ha 14 (.int .i64 a1) KR KR ?_; clear ha a; intro a ha
      obtain ⟨hA1336, h_⟩ := asrt_some h; clear h; have h := h_; clear h_
      refine steprem ha 15 3 3 (.tmp 13) (.tmp 14) .i64 (a0.size : Int) a1 rfl KR KR hA1336 KR ?_; clear ha a; intro a ha
      refine stepp ha 16 (.bool ((Int.tmod (a0.size : Int) a1) == 0)) KR KR ?_; clear ha a; intro a ha
      refine stepp ha 17 (.bool ((Int.tmod (a0.size : Int) a1) == 0)) KR KR ?_; clear ha a; intro a ha
      refine endl ?_
      refine thenN (hK1333 _ _ ?_); clear hK1333
      by_cases hp1341 : (Int.tmod (a0.size : Int) a1) = 0
      · skip
        replace h := ite_pos' h hp1341
        refine condT ha KR KR (t := ((Int.tmod (a0.size : Int) a1) == 0)) (ieq_t hp1341) ?_
        refine wp_seq_k (fun K1342 hK1343 => ?_)
        refine wp_region_lit ?_
        refine stepp ha 18 (.string a0) KR KR ?_; clear ha a; intro a ha
        refine stepp ha 4 (.string a0) KR KR ?_; clear ha a; intro a ha
        refine endl ?_
        refine thenN (hK1343 _ _ ?_); clear hK1343
        refine wp_ret ?_
        refine thenR ?_
        obtain rfl := Option.some.inj h
        exact finv ha _ _ rfl (.tmp (v := .string a0) KR .nil) (.string a0) rfl ⟨rfl, HW.pick [] [] (by decide) (by decide) rfl KR⟩
      · skip
        replace h := ite_neg' h hp1341
        refine condF ha KR KR (t := ((Int.tmod (a0.size : Int) a1) == 0)) (ieq_f hp1341) ?_
        refine wp_skip ?_
        refine thenN (hK1331 _ _ ?_); clear hK1331
        refine wp_seq_k (fun K1344 hK1345 => ?_)
        refine wp_region_lit ?_
        refine stepp ha 19 (.string a0) KR KR ?_; clear ha a; intro a ha
        refine stepp ha 20 (.int .i64 a1) KR KR ?_; clear ha a; intro a ha
        refine stepp ha 21 (.string a0) KR KR ?_; clear ha a; intro a ha
        refine stepp ha 22 (.int .i64 (a0.size : Int)) KR KR ?_; clear ha a; intro a ha
        refine stepp ha 23 (.int .i64 a1) KR KR ?_; clear ha a; intro a ha
        refine steprem ha 24 3 3 (.tmp 22) (.tmp 23) .i64 (a0.size : Int) a1 rfl KR KR hA1336 KR ?_; clear ha a; intro a ha
        refine stepp ha 25 (.int .i64 (IntKind.wrap .i64 (a1 - (Int.tmod (a0.size : Int) a1)))) KR KR ?_; clear ha a; intro a ha
        obtain ⟨hA1346, h_⟩ := asrt_some h; clear h; have h := h_; clear h_
        obtain ⟨hA1347, h_⟩ := asrt_some h; clear h; have h := h_; clear h_
        refine stepmk (encIK .u8) (0 : Int) ha HW 26 40 5 (.tmp 25) (.tmp 25) .i64 .i64 (IntKind.wrap .i64 (a1 - (Int.tmod (a0.size : Int) a1))) (.int .u8 0) 1 rfl KR KR KR KR rfl rfl hA1346 (by have := hA1347; omega) (by have := hA1347; omega) KR ?_; clear ha HW a; intro b1348 a W1349 HW ha
        refine stepbt ha 27 40 9 5 (.tmp 26) (v := .slice (some ⟨b1348, 0, none⟩) (List.replicate (IntKind.wrap .i64 (a1 - (Int.tmod (a0.size : Int) a1)) : Int).toNat (0 : Int)).length ((IntKind.wrap .i64 (a1 - (Int.tmod (a0.size : Int) a1)) : Int).toNat)) (xs := List.replicate (IntKind.wrap .i64 (a1 - (Int.tmod (a0.size : Int) a1)) : Int).toNat (0 : Int)) (HW.rdo (i := 0) (q := ⟨5, 1, .slice (some ⟨b1348, 0, none⟩) (List.replicate (IntKind.wrap .i64 (a1 - (Int.tmod (a0.size : Int) a1)) : Int).toNat (0 : Int)).length ((IntKind.wrap .i64 (a1 - (Int.tmod (a0.size : Int) a1)) : Int).toNat), (List.replicate (IntKind.wrap .i64 (a1 - (Int.tmod (a0.size : Int) a1)) : Int).toNat (0 : Int)).length, encs (encIK .u8) (List.replicate (IntKind.wrap .i64 (a1 - (Int.tmod (a0.size : Int) a1)) : Int).toNat (0 : Int))⟩) KR) rfl KR KR KR KR KR ?_; clear ha a; intro a ha
        obtain ⟨hA1351, h_⟩ := asrt_some h; clear h; have h := h_; clear h_
        refine stepsa ha 28 9 9 (.tmp 19) (.tmp 27) a0 (strOfNums (List.replicate (IntKind.wrap .i64 (a1 - (Int.tmod (a0.size : Int) a1)) : Int).toNat (0 : Int))) rfl KR KR (show (a0).size + (strOfNums (List.replicate (IntKind.wrap .i64 (a1 - (Int.tmod (a0.size : Int) a1)) : Int).toNat (0 : Int))).size ≤ 9223372036854775807 from hA1351) KR ?_; clear ha a; intro a ha
        refine stepp ha 4 (.string (a0 ++ (strOfNums (List.replicate (IntKind.wrap .i64 (a1 - (Int.tmod (a0.size : Int) a1)) : Int).toNat (0 : Int))))) KR KR ?_; clear ha a; intro a ha
        refine endl ?_
        refine thenN (hK1345 _ _ ?_); clear hK1345
        refine wp_ret ?_
        obtain rfl := Option.some.inj h
        exact finv ha _ _ rfl (.tmp (v := .string (a0 ++ (strOfNums (List.replicate (IntKind.wrap .i64 (a1 - (Int.tmod (a0.size : Int) a1)) : Int).toNat (0 : Int))))) KR .nil) (.string (a0 ++ (strOfNums (List.replicate (IntKind.wrap .i64 (a1 - (Int.tmod (a0.size : Int) a1)) : Int).toNat (0 : Int))))) rfl ⟨rfl, HW.pick [] [] (by decide) (by decide) rfl KR⟩
/-! ### headgate/headgateref01.PutLittle: function 36 -/
def headgateref01_PutLittle.b0 (K : Nat) (a1 : Int) (again1410 : Int → (List Int) → Int → Option ByteArray) (x1411 : Int) (x1412 : List Int) (x1416 : Int) : Option ByteArray :=
  if x1416 < a1 then (asrt (0 ≤ x1416) (asrt (x1416 < (x1412.length : Int)) (again1410 (IntKind.wrap .u64 (Int.tdiv x1411 256)) (x1412.set (x1416 : Int).toNat (IntKind.wrap .u8 (Int.tmod x1411 256))) (IntKind.wrap .i64 (x1416 + 1))))) else (some (strOfNums x1412))
def headgateref01_PutLittle.l0 (K : Nat) (a1 : Int) : Nat → Int → (List Int) → Int → Option ByteArray
  | 0, _, _, _ => none
  | k_ + 1, x1411, x1412, x1416 => headgateref01_PutLittle.b0 K a1 (headgateref01_PutLittle.l0 K a1 k_) x1411 x1412 x1416
def headgateref01_PutLittle.f (K : Nat) (a0 : Int) (a1 : Int) : Option ByteArray :=
  if a1 < 1 then (some (⟨#[]⟩ : ByteArray)) else (if a1 > 8 then (some (⟨#[]⟩ : ByteArray)) else (asrt (0 ≤ a1) (asrt (a1 ≤ 281474976710656) (headgateref01_PutLittle.l0 K a1 K a0 (List.replicate (a1 : Int).toNat (0 : Int)) 0))))
set_option maxRecDepth 100000 in
set_option maxHeartbeats 4000000 in
theorem headgateref01_PutLittle.calls (K : Nat) (a0 : Int) (a1 : Int)  (r : ByteArray) (w : World)  (h : headgateref01_PutLittle.f K a0 a1 = some r) :
    Calls Tryd.prog 36 #[.int .u64 a0, .int .i64 a1] w (fun e W' => e = .returned (.string r) ∧ Wd w W' [] [] ) := by
  refine sxstart (n := 30) (l := [(0, .int .u64 a0), (1, .int .i64 a1)]) Tryd.func36 rfl rfl (Nat.le_of_ble_eq_true KR) (subsA_cons rfl (subsA_cons rfl (subsA_nil _))) ?_
  intro a ha
  have HW := Wd.refl w
  unfold headgateref01_PutLittle.f at h
  refine wp_seq_k (fun K1352 hK1353 => ?_)
  refine wp_region_lit ?_
  refine stepp ha 4 (.string (⟨#[]⟩ : ByteArray)) KR KR ?_; clear ha a; intro a ha
  refine endl ?_
  refine thenN (hK1353 _ _ ?_); clear hK1353
  refine wp_seq_k (fun K1354 hK1355 => ?_)
  refine wp_seq_k (fun K1356 hK1357 => ?_)
  refine wp_region_lit ?_
  refine stepp ha 7 (.int .i64 a1) KR KR ?_; clear ha a; intro a ha
  refine stepp ha 8 (.bool (decide (a1 < 1))) KR KR ?_; clear ha a; intro a ha
  refine stepp ha 9 (.bool (decide (a1 < 1))) KR KR ?_; clear ha a; intro a ha
  by_cases hp1358 : a1 < 1
  · skip
    replace h := ite_pos' h hp1358
    replace ha := ha.bool 9 KR (decide_eq_true hp1358)
    refine stepo ha 10 KR ?_; clear ha a; intro a ha
    refine stepo ha 11 KR ?_; clear ha a; intro a ha
    refine stepp ha 12 (.bool true) KR KR ?_; clear ha a; intro a ha
    refine endl ?_
    refine thenN (hK1357 _ _ ?_); clear hK1357
    refine condT ha KR KR (t := true) (rfl) ?_
    refine wp_seq_k (fun K1359 hK1360 => ?_)
    refine wp_region_lit ?_
    refine stepp ha 4 (.string (⟨#[]⟩ : ByteArray)) KR KR ?_; clear ha a; intro a ha
    refine endl ?_
    refine thenN (hK1360 _ _ ?_); clear hK1360
    refine wp_ret ?_
    refine thenR ?_
    obtain rfl := Option.some.inj h
    exact finv ha _ _ rfl (.tmp (v := .string (⟨#[]⟩ : ByteArray)) KR .nil) (.string (⟨#[]⟩ : ByteArray)) rfl ⟨rfl, HW.pick [] [] (by decide) (by decide) rfl KR⟩
  · skip
    replace h := ite_neg' h hp1358
    replace ha := ha.bool 9 KR (decide_eq_false hp1358)
    refine stepp ha 10 (.int .i64 a1) KR KR ?_; clear ha a; intro a ha
    refine stepp ha 11 (.bool (decide (a1 > 8))) KR KR ?_; clear ha a; intro a ha
    refine stepp ha 12 (.bool (decide (a1 > 8))) KR KR ?_; clear ha a; intro a ha
    refine endl ?_
    refine thenN (hK1357 _ _ ?_); clear hK1357
    by_cases hp1361 : a1 > 8
    · skip
      replace h := ite_pos' h hp1361
      refine condT ha KR KR (t := decide (a1 > 8)) (decide_eq_true hp1361) ?_
      refine wp_seq_k (fun K1362 hK1363 => ?_)
      refine wp_region_lit ?_
      refine stepp ha 4 (.string (⟨#[]⟩ : ByteArray)) KR KR ?_; clear ha a; intro a ha
      refine endl ?_
      refine thenN (hK1363 _ _ ?_); clear hK1363
      refine wp_ret ?_
      refine thenR ?_
      obtain rfl := Option.some.inj h
      exact finv ha _ _ rfl (.tmp (v := .string (⟨#[]⟩ : ByteArray)) KR .nil) (.string (⟨#[]⟩ : ByteArray)) rfl ⟨rfl, HW.pick [] [] (by decide) (by decide) rfl KR⟩
    · skip
      replace h := ite_neg' h hp1361
      refine condF ha KR KR (t := decide (a1 > 8)) (decide_eq_false hp1361) ?_
      refine wp_skip ?_
      refine thenN (hK1355 _ _ ?_); clear hK1355
      refine wp_seq_k (fun K1364 hK1365 => ?_)
      refine wp_region_lit ?_
      refine stepp ha 13 (.int .i64 a1) KR KR ?_; clear ha a; intro a ha
      obtain ⟨hA1366, h_⟩ := asrt_some h; clear h; have h := h_; clear h_
      obtain ⟨hA1367, h_⟩ := asrt_some h; clear h; have h := h_; clear h_
      refine stepmk (encIK .u8) (0 : Int) ha HW 14 40 5 (.tmp 13) (.tmp 13) .i64 .i64 a1 (.int .u8 0) 1 rfl KR KR KR KR rfl rfl hA1366 (by have := hA1367; omega) (by have := hA1367; omega) KR ?_; clear ha HW a; intro b1368 a W1369 HW ha
      refine stepp ha 5 (.slice (some ⟨b1368, 0, none⟩) (List.replicate (a1 : Int).toNat (0 : Int)).length ((a1 : Int).toNat)) KR KR ?_; clear ha a; intro a ha
      refine endl ?_
      refine thenN (hK1365 _ _ ?_); clear hK1365
      refine wp_seq_k (fun K1371 hK1372 => ?_)
      refine wp_seq_k (fun K1373 hK1374 => ?_)
      refine wp_region_lit ?_
      refine stepp ha 6 (.int .i64 0) KR KR ?_; clear ha a; intro a ha
      refine endl ?_
      refine thenN (hK1374 _ _ ?_); clear hK1374
      refine wp_block ?_
      refine loopk (fun k => fun a W1417 => ∃ (x1411 : Int), ∃ (x1412 : List Int), ∃ A1413, ∃ c1414, ∃ (x1416 : Int), headgateref01_PutLittle.l0 K a1 k x1411 x1412 x1416 = some r ∧ Has 30 [(0, .int .u64 x1411), (1, .int .i64 a1), (5, .slice A1413 x1412.length c1414), (6, .int .i64 x1416)] a ∧ Wd w W1417 [] [⟨5, 1, .slice A1413 x1412.length c1414, x1412.length, encs (encIK .u8) x1412⟩]) K ?_ ?_
      · skip
        exact ⟨a0, List.replicate (a1 : Int).toNat (0 : Int), some ⟨b1368, 0, none⟩, (a1 : Int).toNat, 0, h, ha.sub (subs_cons KR (subs_cons KR (subs_cons KR (subs_cons KR (subs_nil _))))), HW.pick [] [0] (by decide) (by decide) KR KR⟩
      · skip
        intro k a W1417 hI
        obtain ⟨x1411, x1412, A1413, c1414, x1416, h, ha, HW⟩ := hI
        cases k with
        | zero => exact (none_some (show none = some r from h)).elim
        | succ k1418 =>
          replace h : headgateref01_PutLittle.b0 K a1 (headgateref01_PutLittle.l0 K a1 k1418) x1411 x1412 x1416 = some r := h
          obtain ⟨again1410, hag1419⟩ : ∃ g_, g_ = headgateref01_PutLittle.l0 K a1 k1418 := ⟨_, rfl⟩
          rw [← hag1419] at h
          unfold headgateref01_PutLittle.b0 at h
          refine wp_seq_k (fun K1420 hK1421 => ?_)
          refine wp_seq_k (fun K1422 hK1423 => ?_)
          refine wp_region_lit ?_
          refine stepp ha 15 (.int .i64 x1416) KR KR ?_; clear ha a; intro a ha
          refine stepp ha 16 (.int .i64 a1) KR KR ?_; clear ha a; intro a ha
          refine stepp ha 17 (.bool (decide (x1416 < a1))) KR KR ?_; clear ha a; intro a ha
          refine endl ?_
          refine thenN (hK1423 _ _ ?_); clear hK1423
          by_cases hp1424 : x1416 < a1
          · skip
            replace h := ite_pos' h hp1424
            refine condT ha KR KR (t := decide (x1416 < a1)) (decide_eq_true hp1424) ?_
            refine wp_skip ?_
            refine thenN (hK1421 _ _ ?_); clear hK1421
            refine wp_seq_k (fun K1425 hK1426 => ?_)
            refine wp_block ?_
            refine wp_seq_k (fun K1427 hK1428 => ?_)
            refine wp_region_lit ?_
            refine stepp ha 20 (.slice A1413 x1412.length c1414) KR KR ?_; clear ha a; intro a ha
            refine stepp ha 21 (.int .i64 x1416) KR KR ?_; clear ha a; intro a ha
            refine stepp ha 22 (.int .u64 x1411) KR KR ?_; clear ha a; intro a ha
            refine stepp ha 23 (.int .u64 (Int.tmod x1411 256)) KR KR ?_; clear ha a; intro a ha
            refine stepp ha 24 (.int .u8 (IntKind.wrap .u8 (Int.tmod x1411 256))) KR KR ?_; clear ha a; intro a ha
            obtain ⟨hA1429, h_⟩ := asrt_some h; clear h; have h := h_; clear h_
            obtain ⟨hA1430, h_⟩ := asrt_some h; clear h; have h := h_; clear h_
            refine stepio (encIK .u8) ha HW 25 0 (sz := 1) (e := 5) (v := .slice A1413 x1412.length c1414) (xs := x1412) KR 40 (.tmp 20) (.tmp 21) .i64 x1416 rfl KR KR KR KR hA1429 (show (x1416 : Int) < ((x1412).length : Int) from hA1430) KR ?_; clear ha a; intro b1431 a hb1432 ha
            refine stepos (encIK .u8) (0 : Int) ha HW 0 (sz := 1) (e := 5) (fun _ => rfl) (v := .slice A1413 x1412.length c1414) (xs := x1412) KR hb1432 x1416 hA1429 (show (x1416 : Int) < ((x1412).length : Int) from hA1430) 5 0 (.tmp 25) (.tmp 24) (.int .u8 (IntKind.wrap .u8 (Int.tmod x1411 256))) (IntKind.wrap .u8 (Int.tmod x1411 256)) rfl KR KR KR KR KR KR KR (.slice A1413 (x1412.set (x1416 : Int).toNat (IntKind.wrap .u8 (Int.tmod x1411 256))).length c1414) (by rw [List.length_set]) ?_; clear ha HW a; intro a W1433 HW ha
            replace ha := ha.turn 5 (v := .slice A1413 (x1412.set (x1416 : Int).toNat (IntKind.wrap .u8 (Int.tmod x1411 256))).length c1414) KR (by rw [List.length_set])
            replace ha := ha.turn 20 (v := .slice A1413 (x1412.set (x1416 : Int).toNat (IntKind.wrap .u8 (Int.tmod x1411 256))).length c1414) KR (by rw [List.length_set])
            replace HW : Wd w W1433 [] [⟨5, 1, .slice A1413 (x1412.set (x1416 : Int).toNat (IntKind.wrap .u8 (Int.tmod x1411 256))).length c1414, (x1412.set (x1416 : Int).toNat (IntKind.wrap .u8 (Int.tmod x1411 256))).length, encs (encIK .u8) (x1412.set (x1416 : Int).toNat (IntKind.wrap .u8 (Int.tmod x1411 256)))⟩] := HW
            refine endl ?_
            refine thenN (hK1428 _ _ ?_); clear hK1428
            refine wp_region_lit ?_
            refine stepp ha 26 (.int .u64 x1411) KR KR ?_; clear ha a; intro a ha
            refine stepp ha 27 (.int .u64 (IntKind.wrap .u64 (Int.tdiv x1411 256))) KR KR ?_; clear ha a; intro a ha
            refine stepp ha 0 (.int .u64 (IntKind.wrap .u64 (Int.tdiv x1411 256))) KR KR ?_; clear ha a; intro a ha
            refine endl ?_
            refine blkN ?_
            refine thenN (hK1426 _ _ ?_); clear hK1426
            refine wp_region_lit ?_
            refine stepp ha 18 (.int .i64 x1416) KR KR ?_; clear ha a; intro a ha
            refine stepp ha 19 (.int .i64 (IntKind.wrap .i64 (x1416 + 1))) KR KR ?_; clear ha a; intro a ha
            refine stepp ha 6 (.int .i64 (IntKind.wrap .i64 (x1416 + 1))) KR KR ?_; clear ha a; intro a ha
            refine endl ?_
            exact thenN ⟨k1418, Nat.lt_succ_self k1418, IntKind.wrap .u64 (Int.tdiv x1411 256), x1412.set (x1416 : Int).toNat (IntKind.wrap .u8 (Int.tmod x1411 256)), A1413, c1414, IntKind.wrap .i64 (x1416 + 1), (by rw [← hag1419]; exact h), ha.sub (subs_cons KR (subs_cons KR (subs_cons KR (subs_cons KR (subs_nil _))))), HW.pick [] [0] (by decide) (by decide) KR KR⟩
          · skip
            replace h := ite_neg' h hp1424
            refine condF ha KR KR (t := decide (x1416 < a1)) (decide_eq_false hp1424) ?_
            refine wp_exit ?_
            refine thenE ?_
            refine thenE ?_
            refine inBlk ?_
            refine thenN (hK1372 _ _ ?_); clear hK1372
            refine wp_seq_k (fun K1434 hK1435 => ?_)
            refine wp_region_lit ?_
            refine stepp ha 28 (.slice A1413 x1412.length c1414) KR KR ?_; clear ha a; intro a ha
            refine stepbt ha 29 40 9 5 (.tmp 28) (v := .slice A1413 x1412.length c1414) (xs := x1412) (HW.rdo (i := 0) (q := ⟨5, 1, .slice A1413 x1412.length c1414, x1412.length, encs (encIK .u8) x1412⟩) KR) rfl KR KR KR KR KR ?_; clear ha a; intro a ha
            refine stepp ha 4 (.string (strOfNums x1412)) KR KR ?_; clear ha a; intro a ha
            refine endl ?_
            refine thenN (hK1435 _ _ ?_); clear hK1435
            refine wp_ret ?_
            obtain rfl := Option.some.inj h
            exact finv ha _ _ rfl (.tmp (v := .string (strOfNums x1412)) KR .nil) (.string (strOfNums x1412)) rfl ⟨rfl, HW.pick [] [] (by decide) (by decide) rfl KR⟩
/-! ### headgate/headgateref02.step: function 57 -/
def headgateref02_step.b0 (K : Nat) (again1467 : Int → Int → Option Int) (x1468 : Int) (x1469 : Int) : Option Int :=
  if x1469 < 8 then (if (Int.tmod x1468 2) = 1 then (again1467 (bxor .u32 (IntKind.wrap .u32 (Int.tdiv x1468 2)) 2197175160) (IntKind.wrap .i64 (x1469 + 1))) else (again1467 (IntKind.wrap .u32 (Int.tdiv x1468 2)) (IntKind.wrap .i64 (x1469 + 1)))) else (some x1468)
def headgateref02_step.l0 (K : Nat)  : Nat → Int → Int → Option Int
  | 0, _, _ => none
  | k_ + 1, x1468, x1469 => headgateref02_step.b0 K  (headgateref02_step.l0 K  k_) x1468 x1469
def headgateref02_step.f (K : Nat) (a0 : Int) (a1 : Int) : Option Int :=
  headgateref02_step.l0 K  K (bxor .u32 a0 (IntKind.wrap .u32 a1)) 0
set_option maxRecDepth 100000 in
set_option maxHeartbeats 4000000 in
theorem headgateref02_step.calls (K : Nat) (a0 : Int) (a1 : Int)  (r : Int) (w : World)  (h : headgateref02_step.f K a0 a1 = some r) :
    Calls Tryd.prog 57 #[.int .u32 a0, .int .u8 a1] w (fun e W' => e = .returned (.int .u32 r) ∧ Wd w W' [] [] ) := by
  refine sxstart (n := 23) (l := [(0, .int .u32 a0), (1, .int .u8 a1)]) Tryd.func57 rfl rfl (Nat.le_of_ble_eq_true KR) (subsA_cons rfl (subsA_cons rfl (subsA_nil _))) ?_
  intro a ha
  have HW := Wd.refl w
  unfold headgateref02_step.f at h
  refine wp_seq_k (fun K1436 hK1437 => ?_)
  refine wp_region_lit ?_
  refine stepp ha 4 (.int .u32 0) KR KR ?_; clear ha a; intro a ha
  refine endl ?_
  refine thenN (hK1437 _ _ ?_); clear hK1437
  refine wp_seq_k (fun K1438 hK1439 => ?_)
  refine wp_region_lit ?_
  refine stepp ha 6 (.int .u32 a0) KR KR ?_; clear ha a; intro a ha
  refine stepp ha 7 (.int .u8 a1) KR KR ?_; clear ha a; intro a ha
  refine stepp ha 8 (.int .u32 (IntKind.wrap .u32 a1)) KR KR ?_; clear ha a; intro a ha
  refine stepp ha 9 (.int .u32 (bxor .u32 a0 (IntKind.wrap .u32 a1))) KR KR ?_; clear ha a; intro a ha
  refine stepp ha 0 (.int .u32 (bxor .u32 a0 (IntKind.wrap .u32 a1))) KR KR ?_; clear ha a; intro a ha
  refine endl ?_
  refine thenN (hK1439 _ _ ?_); clear hK1439
  refine wp_seq_k (fun K1440 hK1441 => ?_)
  refine wp_seq_k (fun K1442 hK1443 => ?_)
  refine wp_region_lit ?_
  refine stepp ha 5 (.int .i64 0) KR KR ?_; clear ha a; intro a ha
  refine endl ?_
  refine thenN (hK1443 _ _ ?_); clear hK1443
  refine wp_block ?_
  refine loopk (fun k => fun a W1470 => ∃ (x1468 : Int), ∃ (x1469 : Int), headgateref02_step.l0 K  k x1468 x1469 = some r ∧ Has 23 [(0, .int .u32 x1468), (5, .int .i64 x1469)] a ∧ Wd w W1470 [] []) K ?_ ?_
  · skip
    exact ⟨bxor .u32 a0 (IntKind.wrap .u32 a1), 0, h, ha.sub (subs_cons KR (subs_cons KR (subs_nil _))), HW.pick [] [] (by decide) (by decide) KR KR⟩
  · skip
    intro k a W1470 hI
    obtain ⟨x1468, x1469, h, ha, HW⟩ := hI
    cases k with
    | zero => exact (none_some (show none = some r from h)).elim
    | succ k1471 =>
      replace h : headgateref02_step.b0 K  (headgateref02_step.l0 K  k1471) x1468 x1469 = some r := h
      obtain ⟨again1467, hag1472⟩ : ∃ g_, g_ = headgateref02_step.l0 K  k1471 := ⟨_, rfl⟩
      rw [← hag1472] at h
      unfold headgateref02_step.b0 at h
      refine wp_seq_k (fun K1473 hK1474 => ?_)
      refine wp_seq_k (fun K1475 hK1476 => ?_)
      refine wp_region_lit ?_
      refine stepp ha 10 (.int .i64 x1469) KR KR ?_; clear ha a; intro a ha
      refine stepp ha 11 (.bool (decide (x1469 < 8))) KR KR ?_; clear ha a; intro a ha
      refine endl ?_
      refine thenN (hK1476 _ _ ?_); clear hK1476
      by_cases hp1477 : x1469 < 8
      · skip
        replace h := ite_pos' h hp1477
        refine condT ha KR KR (t := decide (x1469 < 8)) (decide_eq_true hp1477) ?_
        refine wp_skip ?_
        refine thenN (hK1474 _ _ ?_); clear hK1474
        refine wp_seq_k (fun K1478 hK1479 => ?_)
        refine wp_block ?_
        refine wp_seq_k (fun K1480 hK1481 => ?_)
        refine wp_region_lit ?_
        refine stepp ha 14 (.int .u32 x1468) KR KR ?_; clear ha a; intro a ha
        refine stepp ha 15 (.int .u32 (Int.tmod x1468 2)) KR KR ?_; clear ha a; intro a ha
        refine stepp ha 16 (.bool ((Int.tmod x1468 2) == 1)) KR KR ?_; clear ha a; intro a ha
        refine endl ?_
        refine thenN (hK1481 _ _ ?_); clear hK1481
        by_cases hp1482 : (Int.tmod x1468 2) = 1
        · skip
          replace h := ite_pos' h hp1482
          refine condT ha KR KR (t := ((Int.tmod x1468 2) == 1)) (ieq_t hp1482) ?_
          refine wp_region_lit ?_
          refine stepp ha 17 (.int .u32 x1468) KR KR ?_; clear ha a; intro a ha
          refine stepp ha 18 (.int .u32 (IntKind.wrap .u32 (Int.tdiv x1468 2))) KR KR ?_; clear ha a; intro a ha
          refine stepp ha 19 (.int .u32 (bxor .u32 (IntKind.wrap .u32 (Int.tdiv x1468 2)) 2197175160)) KR KR ?_; clear ha a; intro a ha
          refine stepp ha 0 (.int .u32 (bxor .u32 (IntKind.wrap .u32 (Int.tdiv x1468 2)) 2197175160)) KR KR ?_; clear ha a; intro a ha
          refine endl ?_
          refine blkN ?_
          refine thenN (hK1479 _ _ ?_); clear hK1479
          refine wp_region_lit ?_
          refine stepp ha 12 (.int .i64 x1469) KR KR ?_; clear ha a; intro a ha
          refine stepp ha 13 (.int .i64 (IntKind.wrap .i64 (x1469 + 1))) KR KR ?_; clear ha a; intro a ha
          refine stepp ha 5 (.int .i64 (IntKind.wrap .i64 (x1469 + 1))) KR KR ?_; clear ha a; intro a ha
          refine endl ?_
          exact thenN ⟨k1471, Nat.lt_succ_self k1471, bxor .u32 (IntKind.wrap .u32 (Int.tdiv x1468 2)) 2197175160, IntKind.wrap .i64 (x1469 + 1), (by rw [← hag1472]; exact h), ha.sub (subs_cons KR (subs_cons KR (subs_nil _))), HW.pick [] [] (by decide) (by decide) KR KR⟩
        · skip
          replace h := ite_neg' h hp1482
          refine condF ha KR KR (t := ((Int.tmod x1468 2) == 1)) (ieq_f hp1482) ?_
          refine wp_region_lit ?_
          refine stepp ha 20 (.int .u32 x1468) KR KR ?_; clear ha a; intro a ha
          refine stepp ha 21 (.int .u32 (IntKind.wrap .u32 (Int.tdiv x1468 2))) KR KR ?_; clear ha a; intro a ha
          refine stepp ha 0 (.int .u32 (IntKind.wrap .u32 (Int.tdiv x1468 2))) KR KR ?_; clear ha a; intro a ha
          refine endl ?_
          refine blkN ?_
          refine thenN (hK1479 _ _ ?_); clear hK1479
          refine wp_region_lit ?_
          refine stepp ha 12 (.int .i64 x1469) KR KR ?_; clear ha a; intro a ha
          refine stepp ha 13 (.int .i64 (IntKind.wrap .i64 (x1469 + 1))) KR KR ?_; clear ha a; intro a ha
          refine stepp ha 5 (.int .i64 (IntKind.wrap .i64 (x1469 + 1))) KR KR ?_; clear ha a; intro a ha
          refine endl ?_
          exact thenN ⟨k1471, Nat.lt_succ_self k1471, IntKind.wrap .u32 (Int.tdiv x1468 2), IntKind.wrap .i64 (x1469 + 1), (by rw [← hag1472]; exact h), ha.sub (subs_cons KR (subs_cons KR (subs_nil _))), HW.pick [] [] (by decide) (by decide) KR KR⟩
      · skip
        replace h := ite_neg' h hp1477
        refine condF ha KR KR (t := decide (x1469 < 8)) (decide_eq_false hp1477) ?_
        refine wp_exit ?_
        refine thenE ?_
        refine thenE ?_
        refine inBlk ?_
        refine thenN (hK1441 _ _ ?_); clear hK1441
        refine wp_seq_k (fun K1483 hK1484 => ?_)
        refine wp_region_lit ?_
        refine stepp ha 22 (.int .u32 x1468) KR KR ?_; clear ha a; intro a ha
        refine stepp ha 4 (.int .u32 x1468) KR KR ?_; clear ha a; intro a ha
        refine endl ?_
        refine thenN (hK1484 _ _ ?_); clear hK1484
        refine wp_ret ?_
        obtain rfl := Option.some.inj h
        exact finv ha _ _ rfl (.tmp (v := .int .u32 x1468) KR .nil) (.int .u32 x1468) rfl ⟨rfl, HW.pick [] [] (by decide) (by decide) rfl KR⟩
/-! ### headgate/headgateref02.More: function 47 -/
def headgateref02_More.b0 (K : Nat) (a1 : ByteArray) (again1521 : Int → Int → Option Int) (x1522 : Int) (x1523 : Int) : Option Int :=
  if x1523 < (a1.size : Int) then (asrt (0 ≤ x1523) ((headgateref02_step.f K x1522 (bt a1 x1523)).bind fun t1535 => (again1521 t1535 (IntKind.wrap .i64 (x1523 + 1))))) else (some (bxor .u32 4294967295 x1522))
def headgateref02_More.l0 (K : Nat) (a1 : ByteArray) : Nat → Int → Int → Option Int
  | 0, _, _ => none
  | k_ + 1, x1522, x1523 => headgateref02_More.b0 K a1 (headgateref02_More.l0 K a1 k_) x1522 x1523
def headgateref02_More.f (K : Nat) (a0 : Int) (a1 : ByteArray) : Option Int :=
  headgateref02_More.l0 K a1 K (bxor .u32 4294967295 a0) 0
set_option maxRecDepth 100000 in
set_option maxHeartbeats 4000000 in
theorem headgateref02_More.calls (K : Nat) (a0 : Int) (a1 : ByteArray)  (r : Int) (w : World)  (h : headgateref02_More.f K a0 a1 = some r) :
    Calls Tryd.prog 47 #[.int .u32 a0, .string a1] w (fun e W' => e = .returned (.int .u32 r) ∧ Wd w W' [] [] ) := by
  refine sxstart (n := 21) (l := [(0, .int .u32 a0), (1, .string a1)]) Tryd.func47 rfl rfl (Nat.le_of_ble_eq_true KR) (subsA_cons rfl (subsA_cons rfl (subsA_nil _))) ?_
  intro a ha
  have HW := Wd.refl w
  unfold headgateref02_More.f at h
  refine wp_seq_k (fun K1485 hK1486 => ?_)
  refine wp_region_lit ?_
  refine stepp ha 4 (.int .u32 0) KR KR ?_; clear ha a; intro a ha
  refine endl ?_
  refine thenN (hK1486 _ _ ?_); clear hK1486
  refine wp_seq_k (fun K1487 hK1488 => ?_)
  refine wp_region_lit ?_
  refine stepp ha 6 (.int .u32 a0) KR KR ?_; clear ha a; intro a ha
  refine stepp ha 7 (.int .u32 (bxor .u32 4294967295 a0)) KR KR ?_; clear ha a; intro a ha
  refine stepp ha 0 (.int .u32 (bxor .u32 4294967295 a0)) KR KR ?_; clear ha a; intro a ha
  refine endl ?_
  refine thenN (hK1488 _ _ ?_); clear hK1488
  refine wp_seq_k (fun K1489 hK1490 => ?_)
  refine wp_seq_k (fun K1491 hK1492 => ?_)
  refine wp_region_lit ?_
  refine stepp ha 5 (.int .i64 0) KR KR ?_; clear ha a; intro a ha
  refine endl ?_
  refine thenN (hK1492 _ _ ?_); clear hK1492
  refine wp_block ?_
  refine loopk (fun k => fun a W1524 => ∃ (x1522 : Int), ∃ (x1523 : Int), headgateref02_More.l0 K a1 k x1522 x1523 = some r ∧ Has 21 [(0, .int .u32 x1522), (1, .string a1), (5, .int .i64 x1523)] a ∧ Wd w W1524 [] []) K ?_ ?_
  · skip
    exact ⟨bxor .u32 4294967295 a0, 0, h, ha.sub (subs_cons KR (subs_cons KR (subs_cons KR (subs_nil _)))), HW.pick [] [] (by decide) (by decide) KR KR⟩
  · skip
    intro k a W1524 hI
    obtain ⟨x1522, x1523, h, ha, HW⟩ := hI
    cases k with
    | zero => exact (none_some (show none = some r from h)).elim
    | succ k1525 =>
      replace h : headgateref02_More.b0 K a1 (headgateref02_More.l0 K a1 k1525) x1522 x1523 = some r := h
      obtain ⟨again1521, hag1526⟩ : ∃ g_, g_ = headgateref02_More.l0 K a1 k1525 := ⟨_, rfl⟩
      rw [← hag1526] at h
      unfold headgateref02_More.b0 at h
      refine wp_seq_k (fun K1527 hK1528 => ?_)
      refine wp_seq_k (fun K1529 hK1530 => ?_)
      refine wp_region_lit ?_
      refine stepp ha 8 (.int .i64 x1523) KR KR ?_; clear ha a; intro a ha
      refine stepp ha 9 (.string a1) KR KR ?_; clear ha a; intro a ha
      refine stepp ha 10 (.int .i64 (a1.size : Int)) KR KR ?_; clear ha a; intro a ha
      refine stepp ha 11 (.bool (decide (x1523 < (a1.size : Int)))) KR KR ?_; clear ha a; intro a ha
      refine endl ?_
      refine thenN (hK1530 _ _ ?_); clear hK1530
      by_cases hp1531 : x1523 < (a1.size : Int)
      · skip
        replace h := ite_pos' h hp1531
        refine condT ha KR KR (t := decide (x1523 < (a1.size : Int))) (decide_eq_true hp1531) ?_
        refine wp_skip ?_
        refine thenN (hK1528 _ _ ?_); clear hK1528
        refine wp_seq_k (fun K1532 hK1533 => ?_)
        refine wp_block ?_
        refine wp_region_lit ?_
        refine stepp ha 14 (.int .u32 x1522) KR KR ?_; clear ha a; intro a ha
        refine stepp ha 15 (.string a1) KR KR ?_; clear ha a; intro a ha
        refine stepp ha 16 (.int .i64 x1523) KR KR ?_; clear ha a; intro a ha
        obtain ⟨hA1534, h_⟩ := asrt_some h; clear h; have h := h_; clear h_
        refine stepsi ha 17 9 (.tmp 15) (.tmp 16) a1 .i64 x1523 rfl KR KR KR hA1534 (show (x1523 : Int) < ((a1).size : Int) from hp1531) KR ?_; clear ha a; intro a ha
        obtain ⟨t1535, ht1536, h_⟩ := bind_some' h; clear h; have h := h_; clear h_
        refine stepc ha 18 KR KR (headgateref02_step.calls K x1522 (bt a1 x1523) t1535 _ ht1536) ?_; clear ha a; rintro e W1537 ⟨rfl, HX1538⟩
        refine ⟨_, rfl, ?_⟩; intro a ha; replace HW := HW.callw HX1538; clear HX1538
        refine stepp ha 0 (.int .u32 t1535) KR KR ?_; clear ha a; intro a ha
        refine endl ?_
        refine blkN ?_
        refine thenN (hK1533 _ _ ?_); clear hK1533
        refine wp_region_lit ?_
        refine stepp ha 12 (.int .i64 x1523) KR KR ?_; clear ha a; intro a ha
        refine stepp ha 13 (.int .i64 (IntKind.wrap .i64 (x1523 + 1))) KR KR ?_; clear ha a; intro a ha
        refine stepp ha 5 (.int .i64 (IntKind.wrap .i64 (x1523 + 1))) KR KR ?_; clear ha a; intro a ha
        refine endl ?_
        exact thenN ⟨k1525, Nat.lt_succ_self k1525, t1535, IntKind.wrap .i64 (x1523 + 1), (by rw [← hag1526]; exact h), ha.sub (subs_cons KR (subs_cons KR (subs_cons KR (subs_nil _)))), HW.pick [] [] (by decide) (by decide) KR KR⟩
      · skip
        replace h := ite_neg' h hp1531
        refine condF ha KR KR (t := decide (x1523 < (a1.size : Int))) (decide_eq_false hp1531) ?_
        refine wp_exit ?_
        refine thenE ?_
        refine thenE ?_
        refine inBlk ?_
        refine thenN (hK1490 _ _ ?_); clear hK1490
        refine wp_seq_k (fun K1539 hK1540 => ?_)
        refine wp_region_lit ?_
        refine stepp ha 19 (.int .u32 x1522) KR KR ?_; clear ha a; intro a ha
        refine stepp ha 20 (.int .u32 (bxor .u32 4294967295 x1522)) KR KR ?_; clear ha a; intro a ha
        refine stepp ha 4 (.int .u32 (bxor .u32 4294967295 x1522)) KR KR ?_; clear ha a; intro a ha
        refine endl ?_
        refine thenN (hK1540 _ _ ?_); clear hK1540
        refine wp_ret ?_
        obtain rfl := Option.some.inj h
        exact finv ha _ _ rfl (.tmp (v := .int .u32 (bxor .u32 4294967295 x1522)) KR .nil) (.int .u32 (bxor .u32 4294967295 x1522)) rfl ⟨rfl, HW.pick [] [] (by decide) (by decide) rfl KR⟩
/-! ### headgate/headgateref02.Sum: function 37 -/
def headgateref02_Sum.f (K : Nat) (a0 : ByteArray) : Option Int :=
  (headgateref02_More.f K 0 a0).bind fun t1545 => (some t1545)
set_option maxRecDepth 100000 in
set_option maxHeartbeats 4000000 in
theorem headgateref02_Sum.calls (K : Nat) (a0 : ByteArray)  (r : Int) (w : World)  (h : headgateref02_Sum.f K a0 = some r) :
    Calls Tryd.prog 37 #[.string a0] w (fun e W' => e = .returned (.int .u32 r) ∧ Wd w W' [] [] ) := by
  refine sxstart (n := 5) (l := [(0, .string a0)]) Tryd.func37 rfl rfl (Nat.le_of_ble_eq_true KR) (subsA_cons rfl (subsA_nil _)) ?_
  intro a ha
  have HW := Wd.refl w
  unfold headgateref02_Sum.f at h
  refine wp_seq_k (fun K1541 hK1542 => ?_)
  refine wp_region_lit ?_
  refine stepp ha 2 (.int .u32 0) KR KR ?_; clear ha a; intro a ha
  refine endl ?_
  refine thenN (hK1542 _ _ ?_); clear hK1542
  refine wp_seq_k (fun K1543 hK1544 => ?_)
  refine wp_region_lit ?_
  refine stepp ha 3 (.string a0) KR KR ?_; clear ha a; intro a ha
  obtain ⟨t1545, ht1546, h_⟩ := bind_some' h; clear h; have h := h_; clear h_
  refine stepc ha 4 KR KR (headgateref02_More.calls K 0 a0 t1545 _ ht1546) ?_; clear ha a; rintro e W1547 ⟨rfl, HX1548⟩
  refine ⟨_, rfl, ?_⟩; intro a ha; replace HW := HW.callw HX1548; clear HX1548
  refine stepp ha 2 (.int .u32 t1545) KR KR ?_; clear ha a; intro a ha
  refine endl ?_
  refine thenN (hK1544 _ _ ?_); clear hK1544
  refine wp_ret ?_
  obtain rfl := Option.some.inj h
  exact finv ha _ _ rfl (.tmp (v := .int .u32 t1545) KR .nil) (.int .u32 t1545) rfl ⟨rfl, HW.pick [] [] (by decide) (by decide) rfl KR⟩
/-! ### headgate/headgateref02.Digest: function 26 -/
def headgateref02_Digest.f (K : Nat) (a0 : ByteArray) : Option ByteArray :=
  (headgateref02_Sum.f K a0).bind fun t1553 => ((headgateref01_PutLittle.f K (IntKind.wrap .u64 t1553) 4).bind fun t1557 => (some t1557))
set_option maxRecDepth 100000 in
set_option maxHeartbeats 4000000 in
theorem headgateref02_Digest.calls (K : Nat) (a0 : ByteArray)  (r : ByteArray) (w : World)  (h : headgateref02_Digest.f K a0 = some r) :
    Calls Tryd.prog 26 #[.string a0] w (fun e W' => e = .returned (.string r) ∧ Wd w W' [] [] ) := by
  refine sxstart (n := 7) (l := [(0, .string a0)]) Tryd.func26 rfl rfl (Nat.le_of_ble_eq_true KR) (subsA_cons rfl (subsA_nil _)) ?_
  intro a ha
  have HW := Wd.refl w
  unfold headgateref02_Digest.f at h
  refine wp_seq_k (fun K1549 hK1550 => ?_)
  refine wp_region_lit ?_
  refine stepp ha 2 (.string (⟨#[]⟩ : ByteArray)) KR KR ?_; clear ha a; intro a ha
  refine endl ?_
  refine thenN (hK1550 _ _ ?_); clear hK1550
  refine wp_seq_k (fun K1551 hK1552 => ?_)
  refine wp_region_lit ?_
  refine stepp ha 3 (.string a0) KR KR ?_; clear ha a; intro a ha
  obtain ⟨t1553, ht1554, h_⟩ := bind_some' h; clear h; have h := h_; clear h_
  refine stepc ha 4 KR KR (headgateref02_Sum.calls K a0 t1553 _ ht1554) ?_; clear ha a; rintro e W1555 ⟨rfl, HX1556⟩
  refine ⟨_, rfl, ?_⟩; intro a ha; replace HW := HW.callw HX1556; clear HX1556
  refine stepp ha 5 (.int .u64 (IntKind.wrap .u64 t1553)) KR KR ?_; clear ha a; intro a ha
  obtain ⟨t1557, ht1558, h_⟩ := bind_some' h; clear h; have h := h_; clear h_
  refine stepc ha 6 KR KR (headgateref01_PutLittle.calls K (IntKind.wrap .u64 t1553) 4 t1557 _ ht1558) ?_; clear ha a; rintro e W1559 ⟨rfl, HX1560⟩
  refine ⟨_, rfl, ?_⟩; intro a ha; replace HW := HW.callw HX1560; clear HX1560
  refine stepp ha 2 (.string t1557) KR KR ?_; clear ha a; intro a ha
  refine endl ?_
  refine thenN (hK1552 _ _ ?_); clear hK1552
  refine wp_ret ?_
  obtain rfl := Option.some.inj h
  exact finv ha _ _ rfl (.tmp (v := .string t1557) KR .nil) (.string t1557) rfl ⟨rfl, HW.pick [] [] (by decide) (by decide) rfl KR⟩
/-! ### headgate/headgateref05.Put: function 11 -/
def headgateref05_Put.f (K : Nat) (a0 : Int) (a1 : ByteArray) : Option (ByteArray × Int) :=
  if (a1.size : Int) > 65536 then (some ((⟨#[]⟩ : ByteArray), 2)) else ((headgateref01_PutBig.f K a0 8).bind fun t1572 => (asrt (4 + t1572.size ≤ 9223372036854775807) ((headgateref01_PutBig.f K (IntKind.wrap .u64 (a1.size : Int)) 4).bind fun t1577 => (asrt (((⟨#[72, 71, 70, 82]⟩ : ByteArray) ++ t1572).size + t1577.size ≤ 9223372036854775807) ((headgateref02_Digest.f K (((⟨#[72, 71, 70, 82]⟩ : ByteArray) ++ t1572) ++ t1577)).bind fun t1584 => (asrt ((((⟨#[72, 71, 70, 82]⟩ : ByteArray) ++ t1572) ++ t1577).size + t1584.size ≤ 9223372036854775807) (asrt (((((⟨#[72, 71, 70, 82]⟩ : ByteArray) ++ t1572) ++ t1577) ++ t1584).size + a1.size ≤ 9223372036854775807) ((headgateref02_Digest.f K a1).bind fun t1590 => (asrt ((((((⟨#[72, 71, 70, 82]⟩ : ByteArray) ++ t1572) ++ t1577) ++ t1584) ++ a1).size + t1590.size ≤ 9223372036854775807) ((headgateref01_Pad.f ((((((⟨#[72, 71, 70, 82]⟩ : ByteArray) ++ t1572) ++ t1577) ++ t1584) ++ a1) ++ t1590) 512).bind fun t1595 => (some (t1595, 0))))))))))))
set_option maxRecDepth 100000 in
set_option maxHeartbeats 4000000 in
theorem headgateref05_Put.calls (K : Nat) (a0 : Int) (a1 : ByteArray)  (r : ByteArray × Int) (w : World)  (h : headgateref05_Put.f K a0 a1 = some r) :
    Calls Tryd.prog 11 #[.int .u64 a0, .string a1] w (fun e W' => e = .returned (.tuple #[.string r.1, .int .i64 r.2]) ∧ Wd w W' [] [] ) := by
  refine sxstart (n := 28) (l := [(0, .int .u64 a0), (1, .string a1)]) Tryd.func11 rfl rfl (Nat.le_of_ble_eq_true KR) (subsA_cons rfl (subsA_cons rfl (subsA_nil _))) ?_
  intro a ha
  have HW := Wd.refl w
  unfold headgateref05_Put.f at h
  refine wp_seq_k (fun K1561 hK1562 => ?_)
  refine wp_region_lit ?_
  refine stepp ha 4 (.string (⟨#[]⟩ : ByteArray)) KR KR ?_; clear ha a; intro a ha
  refine stepp ha 5 (.int .i64 0) KR KR ?_; clear ha a; intro a ha
  refine endl ?_
  refine thenN (hK1562 _ _ ?_); clear hK1562
  refine wp_seq_k (fun K1563 hK1564 => ?_)
  refine wp_seq_k (fun K1565 hK1566 => ?_)
  refine wp_region_lit ?_
  refine stepp ha 7 (.string a1) KR KR ?_; clear ha a; intro a ha
  refine stepp ha 8 (.int .i64 (a1.size : Int)) KR KR ?_; clear ha a; intro a ha
  refine stepp ha 9 (.bool (decide ((a1.size : Int) > 65536))) KR KR ?_; clear ha a; intro a ha
  refine endl ?_
  refine thenN (hK1566 _ _ ?_); clear hK1566
  by_cases hp1567 : (a1.size : Int) > 65536
  · skip
    replace h := ite_pos' h hp1567
    refine condT ha KR KR (t := decide ((a1.size : Int) > 65536)) (decide_eq_true hp1567) ?_
    refine wp_seq_k (fun K1568 hK1569 => ?_)
    refine wp_region_lit ?_
    refine stepp ha 4 (.string (⟨#[]⟩ : ByteArray)) KR KR ?_; clear ha a; intro a ha
    refine stepp ha 5 (.int .i64 2) KR KR ?_; clear ha a; intro a ha
    refine endl ?_
    refine thenN (hK1569 _ _ ?_); clear hK1569
    refine wp_ret ?_
    refine thenR ?_
    obtain rfl := Option.some.inj h
    exact finv ha _ _ rfl (.tmp (v := .string (⟨#[]⟩ : ByteArray)) KR (.tmp (v := .int .i64 2) KR .nil)) (.tuple #[.string (⟨#[]⟩ : ByteArray), .int .i64 2]) rfl ⟨rfl, HW.pick [] [] (by decide) (by decide) rfl KR⟩
  · skip
    replace h := ite_neg' h hp1567
    refine condF ha KR KR (t := decide ((a1.size : Int) > 65536)) (decide_eq_false hp1567) ?_
    refine wp_skip ?_
    refine thenN (hK1564 _ _ ?_); clear hK1564
    refine wp_seq_k (fun K1570 hK1571 => ?_)
    refine wp_region_lit ?_
    refine stepp ha 10 (.int .u64 a0) KR KR ?_; clear ha a; intro a ha
    obtain ⟨t1572, ht1573, h_⟩ := bind_some' h; clear h; have h := h_; clear h_
    refine stepc ha 11 KR KR (headgateref01_PutBig.calls K a0 8 t1572 _ ht1573) ?_; clear ha a; rintro e W1574 ⟨rfl, HX1575⟩
    refine ⟨_, rfl, ?_⟩; intro a ha; replace HW := HW.callw HX1575; clear HX1575
    obtain ⟨hA1576, h_⟩ := asrt_some h; clear h; have h := h_; clear h_
    refine stepsa ha 12 9 9 (.const (.string (⟨#[72, 71, 70, 82]⟩ : ByteArray))) (.tmp 11) (⟨#[72, 71, 70, 82]⟩ : ByteArray) t1572 rfl KR KR (show ((⟨#[72, 71, 70, 82]⟩ : ByteArray)).size + (t1572).size ≤ 9223372036854775807 from hA1576) KR ?_; clear ha a; intro a ha
    refine stepp ha 13 (.string a1) KR KR ?_; clear ha a; intro a ha
    refine stepp ha 14 (.int .i64 (a1.size : Int)) KR KR ?_; clear ha a; intro a ha
    refine stepp ha 15 (.int .u64 (IntKind.wrap .u64 (a1.size : Int))) KR KR ?_; clear ha a; intro a ha
    obtain ⟨t1577, ht1578, h_⟩ := bind_some' h; clear h; have h := h_; clear h_
    refine stepc ha 16 KR KR (headgateref01_PutBig.calls K (IntKind.wrap .u64 (a1.size : Int)) 4 t1577 _ ht1578) ?_; clear ha a; rintro e W1579 ⟨rfl, HX1580⟩
    refine ⟨_, rfl, ?_⟩; intro a ha; replace HW := HW.callw HX1580; clear HX1580
    obtain ⟨hA1581, h_⟩ := asrt_some h; clear h; have h := h_; clear h_
    refine stepsa ha 17 9 9 (.tmp 12) (.tmp 16) ((⟨#[72, 71, 70, 82]⟩ : ByteArray) ++ t1572) t1577 rfl KR KR (show ((⟨#[72, 71, 70, 82]⟩ : ByteArray) ++ t1572).size + (t1577).size ≤ 9223372036854775807 from hA1581) KR ?_; clear ha a; intro a ha
    refine stepp ha 6 (.string (((⟨#[72, 71, 70, 82]⟩ : ByteArray) ++ t1572) ++ t1577)) KR KR ?_; clear ha a; intro a ha
    refine endl ?_
    refine thenN (hK1571 _ _ ?_); clear hK1571
    refine wp_seq_k (fun K1582 hK1583 => ?_)
    refine wp_region_lit ?_
    refine stepp ha 18 (.string (((⟨#[72, 71, 70, 82]⟩ : ByteArray) ++ t1572) ++ t1577)) KR KR ?_; clear ha a; intro a ha
    refine stepp ha 19 (.string (((⟨#[72, 71, 70, 82]⟩ : ByteArray) ++ t1572) ++ t1577)) KR KR ?_; clear ha a; intro a ha
    obtain ⟨t1584, ht1585, h_⟩ := bind_some' h; clear h; have h := h_; clear h_
    refine stepc ha 20 KR KR (headgateref02_Digest.calls K (((⟨#[72, 71, 70, 82]⟩ : ByteArray) ++ t1572) ++ t1577) t1584 _ ht1585) ?_; clear ha a; rintro e W1586 ⟨rfl, HX1587⟩
    refine ⟨_, rfl, ?_⟩; intro a ha; replace HW := HW.callw HX1587; clear HX1587
    obtain ⟨hA1588, h_⟩ := asrt_some h; clear h; have h := h_; clear h_
    refine stepsa ha 21 9 9 (.tmp 18) (.tmp 20) (((⟨#[72, 71, 70, 82]⟩ : ByteArray) ++ t1572) ++ t1577) t1584 rfl KR KR (show (((⟨#[72, 71, 70, 82]⟩ : ByteArray) ++ t1572) ++ t1577).size + (t1584).size ≤ 9223372036854775807 from hA1588) KR ?_; clear ha a; intro a ha
    refine stepp ha 22 (.string a1) KR KR ?_; clear ha a; intro a ha
    obtain ⟨hA1589, h_⟩ := asrt_some h; clear h; have h := h_; clear h_
    refine stepsa ha 23 9 9 (.tmp 21) (.tmp 22) ((((⟨#[72, 71, 70, 82]⟩ : ByteArray) ++ t1572) ++ t1577) ++ t1584) a1 rfl KR KR (show ((((⟨#[72, 71, 70, 82]⟩ : ByteArray) ++ t1572) ++ t1577) ++ t1584).size + (a1).size ≤ 9223372036854775807 from hA1589) KR ?_; clear ha a; intro a ha
    refine stepp ha 24 (.string a1) KR KR ?_; clear ha a; intro a ha
    obtain ⟨t1590, ht1591, h_⟩ := bind_some' h; clear h; have h := h_; clear h_
    refine stepc ha 25 KR KR (headgateref02_Digest.calls K a1 t1590 _ ht1591) ?_; clear ha a; rintro e W1592 ⟨rfl, HX1593⟩
    refine ⟨_, rfl, ?_⟩; intro a ha; replace HW := HW.callw HX1593; clear HX1593
    obtain ⟨hA1594, h_⟩ := asrt_some h; clear h; have h := h_; clear h_
    refine stepsa ha 26 9 9 (.tmp 23) (.tmp 25) (((((⟨#[72, 71, 70, 82]⟩ : ByteArray) ++ t1572) ++ t1577) ++ t1584) ++ a1) t1590 rfl KR KR (show (((((⟨#[72, 71, 70, 82]⟩ : ByteArray) ++ t1572) ++ t1577) ++ t1584) ++ a1).size + (t1590).size ≤ 9223372036854775807 from hA1594) KR ?_; clear ha a; intro a ha
    obtain ⟨t1595, ht1596, h_⟩ := bind_some' h; clear h; have h := h_; clear h_
    refine stepc ha 27 KR KR (headgateref01_Pad.calls ((((((⟨#[72, 71, 70, 82]⟩ : ByteArray) ++ t1572) ++ t1577) ++ t1584) ++ a1) ++ t1590) 512 t1595 _ ht1596) ?_; clear ha a; rintro e W1597 ⟨rfl, HX1598⟩
    refine ⟨_, rfl, ?_⟩; intro a ha; replace HW := HW.callw HX1598; clear HX1598
    refine stepp ha 4 (.string t1595) KR KR ?_; clear ha a; intro a ha
    refine stepp ha 5 (.int .i64 0) KR KR ?_; clear ha a; intro a ha
    refine endl ?_
    refine thenN (hK1583 _ _ ?_); clear hK1583
    refine wp_ret ?_
    obtain rfl := Option.some.inj h
    exact finv ha _ _ rfl (.tmp (v := .string t1595) KR (.tmp (v := .int .i64 0) KR .nil)) (.tuple #[.string t1595, .int .i64 0]) rfl ⟨rfl, HW.pick [] [] (by decide) (by decide) rfl KR⟩
/-! ### headgate/headgateref05.Sectors: function 13 -/
def headgateref05_Sectors.f (a0 : Int) : Option Int :=
  if a0 < 0 then (some 0) else (if a0 > 65536 then (some 0) else (some (IntKind.wrap .i64 (Int.tdiv (IntKind.wrap .i64 ((IntKind.wrap .i64 ((IntKind.wrap .i64 (20 + a0)) + 4)) + 511)) 512))))
set_option maxRecDepth 100000 in
set_option maxHeartbeats 4000000 in
theorem headgateref05_Sectors.calls (a0 : Int)  (r : Int) (w : World)  (h : headgateref05_Sectors.f a0 = some r) :
    Calls Tryd.prog 13 #[.int .i64 a0] w (fun e W' => e = .returned (.int .i64 r) ∧ Wd w W' [] [] ) := by
  refine sxstart (n := 14) (l := [(0, .int .i64 a0)]) Tryd.func13 rfl rfl (Nat.le_of_ble_eq_true KR) (subsA_cons rfl (subsA_nil _)) ?_
  intro a ha
  have HW := Wd.refl w
  unfold headgateref05_Sectors.f at h
  refine wp_seq_k (fun K1599 hK1600 => ?_)
  refine wp_region_lit ?_
  refine stepp ha 2 (.int .i64 0) KR KR ?_; clear ha a; intro a ha
  refine endl ?_
  refine thenN (hK1600 _ _ ?_); clear hK1600
  refine wp_seq_k (fun K1601 hK1602 => ?_)
  refine wp_seq_k (fun K1603 hK1604 => ?_)
  refine wp_region_lit ?_
  refine stepp ha 3 (.int .i64 a0) KR KR ?_; clear ha a; intro a ha
  refine stepp ha 4 (.bool (decide (a0 < 0))) KR KR ?_; clear ha a; intro a ha
  refine stepp ha 5 (.bool (decide (a0 < 0))) KR KR ?_; clear ha a; intro a ha
  by_cases hp1605 : a0 < 0
  · skip
    replace h := ite_pos' h hp1605
    replace ha := ha.bool 5 KR (decide_eq_true hp1605)
    refine stepo ha 6 KR ?_; clear ha a; intro a ha
    refine stepo ha 7 KR ?_; clear ha a; intro a ha
    refine stepp ha 8 (.bool true) KR KR ?_; clear ha a; intro a ha
    refine endl ?_
    refine thenN (hK1604 _ _ ?_); clear hK1604
    refine condT ha KR KR (t := true) (rfl) ?_
    refine wp_seq_k (fun K1606 hK1607 => ?_)
    refine wp_region_lit ?_
    refine stepp ha 2 (.int .i64 0) KR KR ?_; clear ha a; intro a ha
    refine endl ?_
    refine thenN (hK1607 _ _ ?_); clear hK1607
    refine wp_ret ?_
    refine thenR ?_
    obtain rfl := Option.some.inj h
    exact finv ha _ _ rfl (.tmp (v := .int .i64 0) KR .nil) (.int .i64 0) rfl ⟨rfl, HW.pick [] [] (by decide) (by decide) rfl KR⟩
  · skip
    replace h := ite_neg' h hp1605
    replace ha := ha.bool 5 KR (decide_eq_false hp1605)
    refine stepp ha 6 (.int .i64 a0) KR KR ?_; clear ha a; intro a ha
    refine stepp ha 7 (.bool (decide (a0 > 65536))) KR KR ?_; clear ha a; intro a ha
    refine stepp ha 8 (.bool (decide (a0 > 65536))) KR KR ?_; clear ha a; intro a ha
    refine endl ?_
    refine thenN (hK1604 _ _ ?_); clear hK1604
    by_cases hp1608 : a0 > 65536
    · skip
      replace h := ite_pos' h hp1608
      refine condT ha KR KR (t := decide (a0 > 65536)) (decide_eq_true hp1608) ?_
      refine wp_seq_k (fun K1609 hK1610 => ?_)
      refine wp_region_lit ?_
      refine stepp ha 2 (.int .i64 0) KR KR ?_; clear ha a; intro a ha
      refine endl ?_
      refine thenN (hK1610 _ _ ?_); clear hK1610
      refine wp_ret ?_
      refine thenR ?_
      obtain rfl := Option.some.inj h
      exact finv ha _ _ rfl (.tmp (v := .int .i64 0) KR .nil) (.int .i64 0) rfl ⟨rfl, HW.pick [] [] (by decide) (by decide) rfl KR⟩
    · skip
      replace h := ite_neg' h hp1608
      refine condF ha KR KR (t := decide (a0 > 65536)) (decide_eq_false hp1608) ?_
      refine wp_skip ?_
      refine thenN (hK1602 _ _ ?_); clear hK1602
      refine wp_seq_k (fun K1611 hK1612 => ?_)
      refine wp_region_lit ?_
      refine stepp ha 9 (.int .i64 a0) KR KR ?_; clear ha a; intro a ha
      refine stepp ha 10 (.int .i64 (IntKind.wrap .i64 (20 + a0))) KR KR ?_; clear ha a; intro a ha
      refine stepp ha 11 (.int .i64 (IntKind.wrap .i64 ((IntKind.wrap .i64 (20 + a0)) + 4))) KR KR ?_; clear ha a; intro a ha
      refine stepp ha 12 (.int .i64 (IntKind.wrap .i64 ((IntKind.wrap .i64 ((IntKind.wrap .i64 (20 + a0)) + 4)) + 511))) KR KR ?_; clear ha a; intro a ha
      refine stepp ha 13 (.int .i64 (IntKind.wrap .i64 (Int.tdiv (IntKind.wrap .i64 ((IntKind.wrap .i64 ((IntKind.wrap .i64 (20 + a0)) + 4)) + 511)) 512))) KR KR ?_; clear ha a; intro a ha
      refine stepp ha 2 (.int .i64 (IntKind.wrap .i64 (Int.tdiv (IntKind.wrap .i64 ((IntKind.wrap .i64 ((IntKind.wrap .i64 (20 + a0)) + 4)) + 511)) 512))) KR KR ?_; clear ha a; intro a ha
      refine endl ?_
      refine thenN (hK1612 _ _ ?_); clear hK1612
      refine wp_ret ?_
      obtain rfl := Option.some.inj h
      exact finv ha _ _ rfl (.tmp (v := .int .i64 (IntKind.wrap .i64 (Int.tdiv (IntKind.wrap .i64 ((IntKind.wrap .i64 ((IntKind.wrap .i64 (20 + a0)) + 4)) + 511)) 512))) KR .nil) (.int .i64 (IntKind.wrap .i64 (Int.tdiv (IntKind.wrap .i64 ((IntKind.wrap .i64 ((IntKind.wrap .i64 (20 + a0)) + 4)) + 511)) 512))) rfl ⟨rfl, HW.pick [] [] (by decide) (by decide) rfl KR⟩
/-! ### headgate/headgateref05.Get: function 15 -/
def headgateref05_Get.b0 (K : Nat) (a0 : ByteArray) (t1760 : Int × Bool) (t1766 : Int × Bool) (t1808 : Int) (again1849 : Int → Option (T_headgateref05_Frame × Int)) (x1850 : Int) : Option (T_headgateref05_Frame × Int) :=
  if x1850 < (IntKind.wrap .i64 (512 * t1808)) then (asrt (0 ≤ x1850) (asrt (x1850 < (a0.size : Int)) (if (bt a0 x1850) = 0 then (again1849 (IntKind.wrap .i64 (x1850 + 1))) else (some ((⟨0, (⟨#[]⟩ : ByteArray), 0⟩ : T_headgateref05_Frame), 50))))) else (some ((⟨t1760.1, a0.extract (20 : Int).toNat (IntKind.wrap .i64 (20 + (IntKind.wrap .i64 t1766.1)) : Int).toNat, IntKind.wrap .i64 (512 * t1808)⟩ : T_headgateref05_Frame), 0))
def headgateref05_Get.l0 (K : Nat) (a0 : ByteArray) (t1760 : Int × Bool) (t1766 : Int × Bool) (t1808 : Int) : Nat → Int → Option (T_headgateref05_Frame × Int)
  | 0, _ => none
  | k_ + 1, x1850 => headgateref05_Get.b0 K a0 t1760 t1766 t1808 (headgateref05_Get.l0 K a0 t1760 t1766 t1808 k_) x1850
def headgateref05_Get.f (K : Nat) (a0 : ByteArray) : Option (T_headgateref05_Frame × Int) :=
  if (a0.size : Int) < 20 then (some ((⟨0, (⟨#[]⟩ : ByteArray), 0⟩ : T_headgateref05_Frame), 50)) else (asrt (4 ≤ (a0.size : Int)) (if (a0.extract 0 (4 : Int).toNat) = (⟨#[72, 71, 70, 82]⟩ : ByteArray) then (asrt (20 ≤ (a0.size : Int)) (asrt (16 ≤ (a0.size : Int)) ((headgateref02_Digest.f K (a0.extract 0 (16 : Int).toNat)).bind fun t1749 => (if (a0.extract (16 : Int).toNat (20 : Int).toNat) = t1749 then ((headgateref01_Big.f K a0 4 8).bind fun t1760 => ((headgateref01_Big.f K a0 12 4).bind fun t1766 => (if t1766.1 > 65536 then (some ((⟨0, (⟨#[]⟩ : ByteArray), 0⟩ : T_headgateref05_Frame), 50)) else ((headgateref05_Sectors.f (IntKind.wrap .i64 t1766.1)).bind fun t1775 => (if (a0.size : Int) < (IntKind.wrap .i64 (512 * t1775)) then (some ((⟨0, (⟨#[]⟩ : ByteArray), 0⟩ : T_headgateref05_Frame), 50)) else (asrt (0 ≤ (IntKind.wrap .i64 (20 + (IntKind.wrap .i64 t1766.1)))) (asrt ((IntKind.wrap .i64 (20 + (IntKind.wrap .i64 t1766.1))) ≤ (IntKind.wrap .i64 ((IntKind.wrap .i64 (20 + (IntKind.wrap .i64 t1766.1))) + 4))) (asrt ((IntKind.wrap .i64 ((IntKind.wrap .i64 (20 + (IntKind.wrap .i64 t1766.1))) + 4)) ≤ (a0.size : Int)) (asrt (20 ≤ (IntKind.wrap .i64 (20 + (IntKind.wrap .i64 t1766.1)))) (asrt ((IntKind.wrap .i64 (20 + (IntKind.wrap .i64 t1766.1))) ≤ (a0.size : Int)) ((headgateref02_Digest.f K (a0.extract (20 : Int).toNat (IntKind.wrap .i64 (20 + (IntKind.wrap .i64 t1766.1)) : Int).toNat)).bind fun t1797 => (if (a0.extract (IntKind.wrap .i64 (20 + (IntKind.wrap .i64 t1766.1)) : Int).toNat (IntKind.wrap .i64 ((IntKind.wrap .i64 (20 + (IntKind.wrap .i64 t1766.1))) + 4) : Int).toNat) = t1797 then ((headgateref05_Sectors.f (IntKind.wrap .i64 t1766.1)).bind fun t1808 => (headgateref05_Get.l0 K a0 t1760 t1766 t1808 K (IntKind.wrap .i64 ((IntKind.wrap .i64 (20 + (IntKind.wrap .i64 t1766.1))) + 4)))) else (some ((⟨0, (⟨#[]⟩ : ByteArray), 0⟩ : T_headgateref05_Frame), 51)))))))))))))) else (some ((⟨0, (⟨#[]⟩ : ByteArray), 0⟩ : T_headgateref05_Frame), 51)))))) else (some ((⟨0, (⟨#[]⟩ : ByteArray), 0⟩ : T_headgateref05_Frame), 50))))
set_option maxRecDepth 100000 in
set_option maxHeartbeats 4000000 in
theorem headgateref05_Get.calls (K : Nat) (a0 : ByteArray)  (r : T_headgateref05_Frame × Int) (w : World)  (h : headgateref05_Get.f K a0 = some r) :
    Calls Tryd.prog 15 #[.string a0] w (fun e W' => e = .returned (.tuple #[.agg #[.int .u64 r.1.f0, .string r.1.f1, .int .i64 r.1.f2], .int .i64 r.2]) ∧ Wd w W' [] [] ) := by
  refine sxstart (n := 85) (l := [(0, .string a0)]) Tryd.func15 rfl rfl (Nat.le_of_ble_eq_true KR) (subsA_cons rfl (subsA_nil _)) ?_
  intro a ha
  have HW := Wd.refl w
  unfold headgateref05_Get.f at h
  refine wp_seq_k (fun K1726 hK1727 => ?_)
  refine wp_region_lit ?_
  refine stepnew ha HW 2 #[.int .u64 0, .string (⟨#[]⟩ : ByteArray), .int .i64 0] 34 KR KR ?_; clear ha HW a; intro b1728 a W1729 HW ha
  refine stepp ha 3 (.int .i64 0) KR KR ?_; clear ha a; intro a ha
  refine endl ?_
  refine thenN (hK1727 _ _ ?_); clear hK1727
  refine wp_seq_k (fun K1730 hK1731 => ?_)
  refine wp_seq_k (fun K1732 hK1733 => ?_)
  refine wp_region_lit ?_
  refine stepp ha 11 (.string a0) KR KR ?_; clear ha a; intro a ha
  refine stepp ha 12 (.int .i64 (a0.size : Int)) KR KR ?_; clear ha a; intro a ha
  refine stepp ha 13 (.bool (decide ((a0.size : Int) < 20))) KR KR ?_; clear ha a; intro a ha
  refine stepp ha 14 (.bool (decide ((a0.size : Int) < 20))) KR KR ?_; clear ha a; intro a ha
  by_cases hp1734 : (a0.size : Int) < 20
  · skip
    replace h := ite_pos' h hp1734
    replace ha := ha.bool 14 KR (decide_eq_true hp1734)
    refine stepo ha 15 KR ?_; clear ha a; intro a ha
    refine stepo ha 16 KR ?_; clear ha a; intro a ha
    refine stepo ha 17 KR ?_; clear ha a; intro a ha
    refine stepp ha 18 (.bool true) KR KR ?_; clear ha a; intro a ha
    refine endl ?_
    refine thenN (hK1733 _ _ ?_); clear hK1733
    refine condT ha KR KR (t := true) (rfl) ?_
    refine wp_seq_k (fun K1736 hK1737 => ?_)
    refine wp_region_lit ?_
    refine stepp ha 19 (.agg #[.int .u64 0, .string (⟨#[]⟩ : ByteArray), .int .i64 0]) KR KR ?_; clear ha a; intro a ha
    refine stepst ha HW 0 (b := b1728) (C := #[.int .u64 0, .string (⟨#[]⟩ : ByteArray), .int .i64 0]) (T := 34) KR 34 0 (.tmp 2) (.tmp 19) (.agg #[.int .u64 0, .string (⟨#[]⟩ : ByteArray), .int .i64 0]) #[.int .u64 0, .string (⟨#[]⟩ : ByteArray), .int .i64 0] rfl KR KR KR KR KR KR KR ?_; clear ha HW a; intro a W1738 HW ha
    refine stepp ha 3 (.int .i64 50) KR KR ?_; clear ha a; intro a ha
    refine endl ?_
    refine thenN (hK1737 _ _ ?_); clear hK1737
    refine wp_ret ?_
    refine thenR ?_
    obtain rfl := Option.some.inj h
    exact finv ha _ _ rfl (.cell (ad := ⟨b1728, 0, none⟩) (v := .agg #[.int .u64 0, .string (⟨#[]⟩ : ByteArray), .int .i64 0]) KR (run_loadVar_ca0 (HW.ca (i := 0) (b := b1728) (C := #[.int .u64 0, .string (⟨#[]⟩ : ByteArray), .int .i64 0]) (T := 34) (fr := (0, 0)) KR) 34 0 (.agg #[.int .u64 0, .string (⟨#[]⟩ : ByteArray), .int .i64 0]) KR) (.tmp (v := .int .i64 50) KR .nil)) (.tuple #[.agg #[.int .u64 0, .string (⟨#[]⟩ : ByteArray), .int .i64 0], .int .i64 50]) rfl ⟨rfl, HW.pick [] [] (by decide) (by decide) rfl KR⟩
  · skip
    replace h := ite_neg' h hp1734
    replace ha := ha.bool 14 KR (decide_eq_false hp1734)
    refine stepp ha 15 (.string a0) KR KR ?_; clear ha a; intro a ha
    obtain ⟨hA1735, h_⟩ := asrt_some h; clear h; have h := h_; clear h_
    refine stepssh ha 16 9 (.tmp 15) (.const (.int .i64 4)) a0 .i64 4 rfl KR KR KR (by decide) (show (4 : Int) ≤ ((a0).size : Int) from hA1735) KR ?_; clear ha a; intro a ha
    refine stepp ha 17 (.bool (!((a0.extract 0 (4 : Int).toNat).toList == (⟨#[72, 71, 70, 82]⟩ : ByteArray).toList))) KR KR ?_; clear ha a; intro a ha
    refine stepp ha 18 (.bool (!((a0.extract 0 (4 : Int).toNat).toList == (⟨#[72, 71, 70, 82]⟩ : ByteArray).toList))) KR KR ?_; clear ha a; intro a ha
    refine endl ?_
    refine thenN (hK1733 _ _ ?_); clear hK1733
    by_cases hp1739 : (a0.extract 0 (4 : Int).toNat) = (⟨#[72, 71, 70, 82]⟩ : ByteArray)
    · skip
      replace h := ite_pos' h hp1739
      refine condF ha KR KR (t := (!((a0.extract 0 (4 : Int).toNat).toList == (⟨#[72, 71, 70, 82]⟩ : ByteArray).toList))) (str_ne_f hp1739) ?_
      refine wp_skip ?_
      refine thenN (hK1731 _ _ ?_); clear hK1731
      refine wp_seq_k (fun K1743 hK1744 => ?_)
      refine wp_seq_k (fun K1745 hK1746 => ?_)
      obtain ⟨hA1747, h_⟩ := asrt_some h; clear h; have h := h_; clear h_
      obtain ⟨hA1748, h_⟩ := asrt_some h; clear h; have h := h_; clear h_
      obtain ⟨t1749, ht1750, h_⟩ := bind_some' h; clear h; have h := h_; clear h_
      refine regionG 6 KR KR ha HW [.fix (.string a0), .fix (.string (a0.extract (16 : Int).toNat (20 : Int).toNat)), .fix (.string a0), .fix (.string (a0.extract 0 (16 : Int).toNat)), .fix (.string t1749), .fix (.bool (!((a0.extract (16 : Int).toNat (20 : Int).toNat).toList == t1749.toList)))] ?_ ?_
      · skip
        refine ⟨?_, ?_, ?_, ?_, ?_, ?_, trivial⟩
        · skip
          intro a wr hn hd HW hs; have ha := hasNil hn hd
          have ha := ha.add (seeE hs 0 (.string a0) KR KR)
          refine yStep ha 20 KR ?_; intro l_ ha HK
          refine stepp ha 20 (.string a0) KR KR ?_; intro ax hax; exact HK _ _ _ hax rfl (Below.refl _ _)
        · skip
          intro a wr hn hd HW hs; have ha := hasNil hn hd
          have ha := ha.add (seeF hs 20 0 (.string a0) KR KR)
          refine yStep ha 21 KR ?_; intro l_ ha HK
          refine stepss ha 21 9 (.tmp 20) (.const (.int .i64 16)) (.const (.int .i64 20)) a0 .i64 .i64 16 20 rfl KR KR KR KR (by decide) (by decide) (show (20 : Int) ≤ ((a0).size : Int) from hA1747) KR ?_; intro ax hax; exact HK _ _ _ hax rfl (Below.refl _ _)
        · skip
          intro a wr hn hd HW hs; have ha := hasNil hn hd
          have ha := ha.add (seeE hs 0 (.string a0) KR KR)
          refine yStep ha 22 KR ?_; intro l_ ha HK
          refine stepp ha 22 (.string a0) KR KR ?_; intro ax hax; exact HK _ _ _ hax rfl (Below.refl _ _)
        · skip
          intro a wr hn hd HW hs; have ha := hasNil hn hd
          have ha := ha.add (seeF hs 22 2 (.string a0) KR KR)
          refine yStep ha 23 KR ?_; intro l_ ha HK
          refine stepssh ha 23 9 (.tmp 22) (.const (.int .i64 16)) a0 .i64 16 rfl KR KR KR (by decide) (show (16 : Int) ≤ ((a0).size : Int) from hA1748) KR ?_; intro ax hax; exact HK _ _ _ hax rfl (Below.refl _ _)
        · skip
          intro a wr hn hd HW hs; have ha := hasNil hn hd
          have ha := ha.add (seeF hs 23 3 (.string (a0.extract 0 (16 : Int).toNat)) KR KR)
          refine yStep ha 24 KR ?_; intro l_ ha HK
          refine stepc ha 24 KR KR (headgateref02_Digest.calls K (a0.extract 0 (16 : Int).toNat) t1749 _ ht1750) ?_; rintro e W1751 ⟨rfl, HX1752⟩
          refine ⟨_, rfl, ?_⟩; intro ax hax; exact HK _ _ _ hax rfl HX1752.below
        · skip
          intro a wr hn hd HW hs; have ha := hasNil hn hd
          have ha := ha.add (seeF hs 21 1 (.string (a0.extract (16 : Int).toNat (20 : Int).toNat)) KR KR)
          have ha := ha.add (seeF hs 24 4 (.string t1749) KR KR)
          refine yStep ha 25 KR ?_; intro l_ ha HK
          refine stepp ha 25 (.bool (!((a0.extract (16 : Int).toNat (20 : Int).toNat).toList == t1749.toList))) KR KR ?_; intro ax hax; exact HK _ _ _ hax rfl (Below.refl _ _)
      · skip
        intro a W1753 ha HW he hf
        replace ha := ha.add (he 0 (.string a0) KR KR)
        replace ha := ha.add (he 2 (.pointer (some ⟨b1728, 0, none⟩)) KR KR)
        replace ha := ha.add (gotF (m := 6) (j := 5) (d := 25) (v := .bool (!((a0.extract (16 : Int).toNat (20 : Int).toNat).toList == t1749.toList))) hf KR KR KR)
        clear he hf
        refine endl ?_
        refine thenN (hK1746 _ _ ?_); clear hK1746
        by_cases hp1754 : (a0.extract (16 : Int).toNat (20 : Int).toNat) = t1749
        · skip
          replace h := ite_pos' h hp1754
          refine condF ha KR KR (t := (!((a0.extract (16 : Int).toNat (20 : Int).toNat).toList == t1749.toList))) (str_ne_f hp1754) ?_
          refine wp_skip ?_
          refine thenN (hK1744 _ _ ?_); clear hK1744
          refine wp_seq_k (fun K1758 hK1759 => ?_)
          refine wp_region_lit ?_
          refine stepp ha 28 (.string a0) KR KR ?_; clear ha a; intro a ha
          obtain ⟨t1760, ht1761, h_⟩ := bind_some' h; clear h; have h := h_; clear h_
          refine stepc ha 29 KR KR (headgateref01_Big.calls K a0 4 8 t1760 _ ht1761) ?_; clear ha a; rintro e W1762 ⟨rfl, HX1763⟩
          refine ⟨_, rfl, ?_⟩; intro a ha; replace HW := HW.callw HX1763; clear HX1763
          refine stepp ha 27 (.tuple #[.int .u64 t1760.1, .bool t1760.2]) KR KR ?_; clear ha a; intro a ha
          refine stepp ha 30 (.int .u64 t1760.1) KR KR ?_; clear ha a; intro a ha
          refine stepp ha 31 (.bool t1760.2) KR KR ?_; clear ha a; intro a ha
          refine stepp ha 4 (.int .u64 t1760.1) KR KR ?_; clear ha a; intro a ha
          refine stepp ha 5 (.bool t1760.2) KR KR ?_; clear ha a; intro a ha
          refine endl ?_
          refine thenN (hK1759 _ _ ?_); clear hK1759
          refine wp_seq_k (fun K1764 hK1765 => ?_)
          refine wp_region_lit ?_
          refine stepp ha 33 (.string a0) KR KR ?_; clear ha a; intro a ha
          obtain ⟨t1766, ht1767, h_⟩ := bind_some' h; clear h; have h := h_; clear h_
          refine stepc ha 34 KR KR (headgateref01_Big.calls K a0 12 4 t1766 _ ht1767) ?_; clear ha a; rintro e W1768 ⟨rfl, HX1769⟩
          refine ⟨_, rfl, ?_⟩; intro a ha; replace HW := HW.callw HX1769; clear HX1769
          refine stepp ha 32 (.tuple #[.int .u64 t1766.1, .bool t1766.2]) KR KR ?_; clear ha a; intro a ha
          refine stepp ha 35 (.int .u64 t1766.1) KR KR ?_; clear ha a; intro a ha
          refine stepp ha 36 (.bool t1766.2) KR KR ?_; clear ha a; intro a ha
          refine stepp ha 6 (.int .u64 t1766.1) KR KR ?_; clear ha a; intro a ha
          refine stepp ha 7 (.bool t1766.2) KR KR ?_; clear ha a; intro a ha
          refine endl ?_
          refine thenN (hK1765 _ _ ?_); clear hK1765
          refine wp_seq_k (fun K1770 hK1771 => ?_)
          refine wp_seq_k (fun K1772 hK1773 => ?_)
          refine wp_region_lit ?_
          refine stepp ha 37 (.int .u64 t1766.1) KR KR ?_; clear ha a; intro a ha
          refine stepp ha 38 (.bool (decide (t1766.1 > 65536))) KR KR ?_; clear ha a; intro a ha
          refine stepp ha 39 (.bool (decide (t1766.1 > 65536))) KR KR ?_; clear ha a; intro a ha
          by_cases hp1774 : t1766.1 > 65536
          · skip
            replace h := ite_pos' h hp1774
            replace ha := ha.bool 39 KR (decide_eq_true hp1774)
            refine stepo ha 40 KR ?_; clear ha a; intro a ha
            refine stepo ha 41 KR ?_; clear ha a; intro a ha
            refine stepo ha 42 KR ?_; clear ha a; intro a ha
            refine stepo ha 43 KR ?_; clear ha a; intro a ha
            refine stepo ha 44 KR ?_; clear ha a; intro a ha
            refine stepo ha 45 KR ?_; clear ha a; intro a ha
            refine stepo ha 46 KR ?_; clear ha a; intro a ha
            refine stepp ha 47 (.bool true) KR KR ?_; clear ha a; intro a ha
            refine endl ?_
            refine thenN (hK1773 _ _ ?_); clear hK1773
            refine condT ha KR KR (t := true) (rfl) ?_
            refine wp_seq_k (fun K1779 hK1780 => ?_)
            refine wp_region_lit ?_
            refine stepp ha 48 (.agg #[.int .u64 0, .string (⟨#[]⟩ : ByteArray), .int .i64 0]) KR KR ?_; clear ha a; intro a ha
            refine stepst ha HW 0 (b := b1728) (C := #[.int .u64 0, .string (⟨#[]⟩ : ByteArray), .int .i64 0]) (T := 34) KR 34 0 (.tmp 2) (.tmp 48) (.agg #[.int .u64 0, .string (⟨#[]⟩ : ByteArray), .int .i64 0]) #[.int .u64 0, .string (⟨#[]⟩ : ByteArray), .int .i64 0] rfl KR KR KR KR KR KR KR ?_; clear ha HW a; intro a W1781 HW ha
            refine stepp ha 3 (.int .i64 50) KR KR ?_; clear ha a; intro a ha
            refine endl ?_
            refine thenN (hK1780 _ _ ?_); clear hK1780
            refine wp_ret ?_
            refine thenR ?_
            obtain rfl := Option.some.inj h
            exact finv ha _ _ rfl (.cell (ad := ⟨b1728, 0, none⟩) (v := .agg #[.int .u64 0, .string (⟨#[]⟩ : ByteArray), .int .i64 0]) KR (run_loadVar_ca0 (HW.ca (i := 0) (b := b1728) (C := #[.int .u64 0, .string (⟨#[]⟩ : ByteArray), .int .i64 0]) (T := 34) (fr := (0, 0)) KR) 34 0 (.agg #[.int .u64 0, .string (⟨#[]⟩ : ByteArray), .int .i64 0]) KR) (.tmp (v := .int .i64 50) KR .nil)) (.tuple #[.agg #[.int .u64 0, .string (⟨#[]⟩ : ByteArray), .int .i64 0], .int .i64 50]) rfl ⟨rfl, HW.pick [] [] (by decide) (by decide) rfl KR⟩
          · skip
            replace h := ite_neg' h hp1774
            replace ha := ha.bool 39 KR (decide_eq_false hp1774)
            refine stepp ha 40 (.string a0) KR KR ?_; clear ha a; intro a ha
            refine stepp ha 41 (.int .i64 (a0.size : Int)) KR KR ?_; clear ha a; intro a ha
            refine stepp ha 42 (.int .u64 t1766.1) KR KR ?_; clear ha a; intro a ha
            refine stepp ha 43 (.int .i64 (IntKind.wrap .i64 t1766.1)) KR KR ?_; clear ha a; intro a ha
            obtain ⟨t1775, ht1776, h_⟩ := bind_some' h; clear h; have h := h_; clear h_
            refine stepc ha 44 KR KR (headgateref05_Sectors.calls (IntKind.wrap .i64 t1766.1) t1775 _ ht1776) ?_; clear ha a; rintro e W1777 ⟨rfl, HX1778⟩
            refine ⟨_, rfl, ?_⟩; intro a ha; replace HW := HW.callw HX1778; clear HX1778
            refine stepp ha 45 (.int .i64 (IntKind.wrap .i64 (512 * t1775))) KR KR ?_; clear ha a; intro a ha
            refine stepp ha 46 (.bool (decide ((a0.size : Int) < (IntKind.wrap .i64 (512 * t1775))))) KR KR ?_; clear ha a; intro a ha
            refine stepp ha 47 (.bool (decide ((a0.size : Int) < (IntKind.wrap .i64 (512 * t1775))))) KR KR ?_; clear ha a; intro a ha
            refine endl ?_
            refine thenN (hK1773 _ _ ?_); clear hK1773
            by_cases hp1782 : (a0.size : Int) < (IntKind.wrap .i64 (512 * t1775))
            · skip
              replace h := ite_pos' h hp1782
              refine condT ha KR KR (t := decide ((a0.size : Int) < (IntKind.wrap .i64 (512 * t1775)))) (decide_eq_true hp1782) ?_
              refine wp_seq_k (fun K1783 hK1784 => ?_)
              refine wp_region_lit ?_
              refine stepp ha 48 (.agg #[.int .u64 0, .string (⟨#[]⟩ : ByteArray), .int .i64 0]) KR KR ?_; clear ha a; intro a ha
              refine stepst ha HW 0 (b := b1728) (C := #[.int .u64 0, .string (⟨#[]⟩ : ByteArray), .int .i64 0]) (T := 34) KR 34 0 (.tmp 2) (.tmp 48) (.agg #[.int .u64 0, .string (⟨#[]⟩ : ByteArray), .int .i64 0]) #[.int .u64 0, .string (⟨#[]⟩ : ByteArray), .int .i64 0] rfl KR KR KR KR KR KR KR ?_; clear ha HW a; intro a W1785 HW ha
              refine stepp ha 3 (.int .i64 50) KR KR ?_; clear ha a; intro a ha
              refine endl ?_
              refine thenN (hK1784 _ _ ?_); clear hK1784
              refine wp_ret ?_
              refine thenR ?_
              obtain rfl := Option.some.inj h
              exact finv ha _ _ rfl (.cell (ad := ⟨b1728, 0, none⟩) (v := .agg #[.int .u64 0, .string (⟨#[]⟩ : ByteArray), .int .i64 0]) KR (run_loadVar_ca0 (HW.ca (i := 0) (b := b1728) (C := #[.int .u64 0, .string (⟨#[]⟩ : ByteArray), .int .i64 0]) (T := 34) (fr := (0, 0)) KR) 34 0 (.agg #[.int .u64 0, .string (⟨#[]⟩ : ByteArray), .int .i64 0]) KR) (.tmp (v := .int .i64 50) KR .nil)) (.tuple #[.agg #[.int .u64 0, .string (⟨#[]⟩ : ByteArray), .int .i64 0], .int .i64 50]) rfl ⟨rfl, HW.pick [] [] (by decide) (by decide) rfl KR⟩
            · skip
              replace h := ite_neg' h hp1782
              refine condF ha KR KR (t := decide ((a0.size : Int) < (IntKind.wrap .i64 (512 * t1775)))) (decide_eq_false hp1782) ?_
              refine wp_skip ?_
              refine thenN (hK1771 _ _ ?_); clear hK1771
              refine wp_seq_k (fun K1786 hK1787 => ?_)
              refine wp_region_lit ?_
              refine stepp ha 49 (.int .u64 t1766.1) KR KR ?_; clear ha a; intro a ha
              refine stepp ha 50 (.int .i64 (IntKind.wrap .i64 t1766.1)) KR KR ?_; clear ha a; intro a ha
              refine stepp ha 51 (.int .i64 (IntKind.wrap .i64 (20 + (IntKind.wrap .i64 t1766.1)))) KR KR ?_; clear ha a; intro a ha
              refine stepp ha 8 (.int .i64 (IntKind.wrap .i64 (20 + (IntKind.wrap .i64 t1766.1)))) KR KR ?_; clear ha a; intro a ha
              refine endl ?_
              refine thenN (hK1787 _ _ ?_); clear hK1787
              refine wp_seq_k (fun K1788 hK1789 => ?_)
              refine wp_seq_k (fun K1790 hK1791 => ?_)
              obtain ⟨hA1792, h_⟩ := asrt_some h; clear h; have h := h_; clear h_
              obtain ⟨hA1793, h_⟩ := asrt_some h; clear h; have h := h_; clear h_
              obtain ⟨hA1794, h_⟩ := asrt_some h; clear h; have h := h_; clear h_
              obtain ⟨hA1795, h_⟩ := asrt_some h; clear h; have h := h_; clear h_
              obtain ⟨hA1796, h_⟩ := asrt_some h; clear h; have h := h_; clear h_
              obtain ⟨t1797, ht1798, h_⟩ := bind_some' h; clear h; have h := h_; clear h_
              refine regionG 10 KR KR ha HW [.fix (.string a0), .fix (.int .i64 (IntKind.wrap .i64 (20 + (IntKind.wrap .i64 t1766.1)))), .fix (.int .i64 (IntKind.wrap .i64 (20 + (IntKind.wrap .i64 t1766.1)))), .fix (.int .i64 (IntKind.wrap .i64 ((IntKind.wrap .i64 (20 + (IntKind.wrap .i64 t1766.1))) + 4))), .fix (.string (a0.extract (IntKind.wrap .i64 (20 + (IntKind.wrap .i64 t1766.1)) : Int).toNat (IntKind.wrap .i64 ((IntKind.wrap .i64 (20 + (IntKind.wrap .i64 t1766.1))) + 4) : Int).toNat)), .fix (.string a0), .fix (.int .i64 (IntKind.wrap .i64 (20 + (IntKind.wrap .i64 t1766.1)))), .fix (.string (a0.extract (20 : Int).toNat (IntKind.wrap .i64 (20 + (IntKind.wrap .i64 t1766.1)) : Int).toNat)), .fix (.string t1797), .fix (.bool (!((a0.extract (IntKind.wrap .i64 (20 + (IntKind.wrap .i64 t1766.1)) : Int).toNat (IntKind.wrap .i64 ((IntKind.wrap .i64 (20 + (IntKind.wrap .i64 t1766.1))) + 4) : Int).toNat).toList == t1797.toList)))] ?_ ?_
              · skip
                refine ⟨?_, ?_, ?_, ?_, ?_, ?_, ?_, ?_, ?_, ?_, trivial⟩
                · skip
                  intro a wr hn hd HW hs; have ha := hasNil hn hd
                  have ha := ha.add (seeE hs 0 (.string a0) KR KR)
                  refine yStep ha 52 KR ?_; intro l_ ha HK
                  refine stepp ha 52 (.string a0) KR KR ?_; intro ax hax; exact HK _ _ _ hax rfl (Below.refl _ _)
                · skip
                  intro a wr hn hd HW hs; have ha := hasNil hn hd
                  have ha := ha.add (seeE hs 8 (.int .i64 (IntKind.wrap .i64 (20 + (IntKind.wrap .i64 t1766.1)))) KR KR)
                  refine yStep ha 53 KR ?_; intro l_ ha HK
                  refine stepp ha 53 (.int .i64 (IntKind.wrap .i64 (20 + (IntKind.wrap .i64 t1766.1)))) KR KR ?_; intro ax hax; exact HK _ _ _ hax rfl (Below.refl _ _)
                · skip
                  intro a wr hn hd HW hs; have ha := hasNil hn hd
                  have ha := ha.add (seeE hs 8 (.int .i64 (IntKind.wrap .i64 (20 + (IntKind.wrap .i64 t1766.1)))) KR KR)
                  refine yStep ha 54 KR ?_; intro l_ ha HK
                  refine stepp ha 54 (.int .i64 (IntKind.wrap .i64 (20 + (IntKind.wrap .i64 t1766.1)))) KR KR ?_; intro ax hax; exact HK _ _ _ hax rfl (Below.refl _ _)
                · skip
                  intro a wr hn hd HW hs; have ha := hasNil hn hd
                  have ha := ha.add (seeF hs 54 2 (.int .i64 (IntKind.wrap .i64 (20 + (IntKind.wrap .i64 t1766.1)))) KR KR)
                  refine yStep ha 55 KR ?_; intro l_ ha HK
                  refine stepp ha 55 (.int .i64 (IntKind.wrap .i64 ((IntKind.wrap .i64 (20 + (IntKind.wrap .i64 t1766.1))) + 4))) KR KR ?_; intro ax hax; exact HK _ _ _ hax rfl (Below.refl _ _)
                · skip
                  intro a wr hn hd HW hs; have ha := hasNil hn hd
                  have ha := ha.add (seeF hs 52 0 (.string a0) KR KR)
                  have ha := ha.add (seeF hs 53 1 (.int .i64 (IntKind.wrap .i64 (20 + (IntKind.wrap .i64 t1766.1)))) KR KR)
                  have ha := ha.add (seeF hs 55 3 (.int .i64 (IntKind.wrap .i64 ((IntKind.wrap .i64 (20 + (IntKind.wrap .i64 t1766.1))) + 4))) KR KR)
                  refine yStep ha 56 KR ?_; intro l_ ha HK
                  refine stepss ha 56 9 (.tmp 52) (.tmp 53) (.tmp 55) a0 .i64 .i64 (IntKind.wrap .i64 (20 + (IntKind.wrap .i64 t1766.1))) (IntKind.wrap .i64 ((IntKind.wrap .i64 (20 + (IntKind.wrap .i64 t1766.1))) + 4)) rfl KR KR KR KR hA1792 hA1793 (show (IntKind.wrap .i64 ((IntKind.wrap .i64 (20 + (IntKind.wrap .i64 t1766.1))) + 4) : Int) ≤ ((a0).size : Int) from hA1794) KR ?_; intro ax hax; exact HK _ _ _ hax rfl (Below.refl _ _)
                · skip
                  intro a wr hn hd HW hs; have ha := hasNil hn hd
                  have ha := ha.add (seeE hs 0 (.string a0) KR KR)
                  refine yStep ha 57 KR ?_; intro l_ ha HK
                  refine stepp ha 57 (.string a0) KR KR ?_; intro ax hax; exact HK _ _ _ hax rfl (Below.refl _ _)
                · skip
                  intro a wr hn hd HW hs; have ha := hasNil hn hd
                  have ha := ha.add (seeE hs 8 (.int .i64 (IntKind.wrap .i64 (20 + (IntKind.wrap .i64 t1766.1)))) KR KR)
                  refine yStep ha 58 KR ?_; intro l_ ha HK
                  refine stepp ha 58 (.int .i64 (IntKind.wrap .i64 (20 + (IntKind.wrap .i64 t1766.1)))) KR KR ?_; intro ax hax; exact HK _ _ _ hax rfl (Below.refl _ _)
                · skip
                  intro a wr hn hd HW hs; have ha := hasNil hn hd
                  have ha := ha.add (seeF hs 57 5 (.string a0) KR KR)
                  have ha := ha.add (seeF hs 58 6 (.int .i64 (IntKind.wrap .i64 (20 + (IntKind.wrap .i64 t1766.1)))) KR KR)
                  refine yStep ha 59 KR ?_; intro l_ ha HK
                  refine stepss ha 59 9 (.tmp 57) (.const (.int .i64 20)) (.tmp 58) a0 .i64 .i64 20 (IntKind.wrap .i64 (20 + (IntKind.wrap .i64 t1766.1))) rfl KR KR KR KR (by decide) hA1795 (show (IntKind.wrap .i64 (20 + (IntKind.wrap .i64 t1766.1)) : Int) ≤ ((a0).size : Int) from hA1796) KR ?_; intro ax hax; exact HK _ _ _ hax rfl (Below.refl _ _)
                · skip
                  intro a wr hn hd HW hs; have ha := hasNil hn hd
                  have ha := ha.add (seeF hs 59 7 (.string (a0.extract (20 : Int).toNat (IntKind.wrap .i64 (20 + (IntKind.wrap .i64 t1766.1)) : Int).toNat)) KR KR)
                  refine yStep ha 60 KR ?_; intro l_ ha HK
                  refine stepc ha 60 KR KR (headgateref02_Digest.calls K (a0.extract (20 : Int).toNat (IntKind.wrap .i64 (20 + (IntKind.wrap .i64 t1766.1)) : Int).toNat) t1797 _ ht1798) ?_; rintro e W1799 ⟨rfl, HX1800⟩
                  refine ⟨_, rfl, ?_⟩; intro ax hax; exact HK _ _ _ hax rfl HX1800.below
                · skip
                  intro a wr hn hd HW hs; have ha := hasNil hn hd
                  have ha := ha.add (seeF hs 56 4 (.string (a0.extract (IntKind.wrap .i64 (20 + (IntKind.wrap .i64 t1766.1)) : Int).toNat (IntKind.wrap .i64 ((IntKind.wrap .i64 (20 + (IntKind.wrap .i64 t1766.1))) + 4) : Int).toNat)) KR KR)
                  have ha := ha.add (seeF hs 60 8 (.string t1797) KR KR)
                  refine yStep ha 61 KR ?_; intro l_ ha HK
                  refine stepp ha 61 (.bool (!((a0.extract (IntKind.wrap .i64 (20 + (IntKind.wrap .i64 t1766.1)) : Int).toNat (IntKind.wrap .i64 ((IntKind.wrap .i64 (20 + (IntKind.wrap .i64 t1766.1))) + 4) : Int).toNat).toList == t1797.toList))) KR KR ?_; intro ax hax; exact HK _ _ _ hax rfl (Below.refl _ _)
              · skip
                intro a W1801 ha HW he hf
                replace ha := ha.add (he 0 (.string a0) KR KR)
                replace ha := ha.add (he 2 (.pointer (some ⟨b1728, 0, none⟩)) KR KR)
                replace ha := ha.add (he 4 (.int .u64 t1760.1) KR KR)
                replace ha := ha.add (he 6 (.int .u64 t1766.1) KR KR)
                replace ha := ha.add (he 8 (.int .i64 (IntKind.wrap .i64 (20 + (IntKind.wrap .i64 t1766.1)))) KR KR)
                replace ha := ha.add (gotF (m := 10) (j := 9) (d := 61) (v := .bool (!((a0.extract (IntKind.wrap .i64 (20 + (IntKind.wrap .i64 t1766.1)) : Int).toNat (IntKind.wrap .i64 ((IntKind.wrap .i64 (20 + (IntKind.wrap .i64 t1766.1))) + 4) : Int).toNat).toList == t1797.toList))) hf KR KR KR)
                clear he hf
                refine endl ?_
                refine thenN (hK1791 _ _ ?_); clear hK1791
                by_cases hp1802 : (a0.extract (IntKind.wrap .i64 (20 + (IntKind.wrap .i64 t1766.1)) : Int).toNat (IntKind.wrap .i64 ((IntKind.wrap .i64 (20 + (IntKind.wrap .i64 t1766.1))) + 4) : Int).toNat) = t1797
                · skip
                  replace h := ite_pos' h hp1802
                  refine condF ha KR KR (t := (!((a0.extract (IntKind.wrap .i64 (20 + (IntKind.wrap .i64 t1766.1)) : Int).toNat (IntKind.wrap .i64 ((IntKind.wrap .i64 (20 + (IntKind.wrap .i64 t1766.1))) + 4) : Int).toNat).toList == t1797.toList))) (str_ne_f hp1802) ?_
                  refine wp_skip ?_
                  refine thenN (hK1789 _ _ ?_); clear hK1789
                  refine wp_seq_k (fun K1806 hK1807 => ?_)
                  refine wp_region_lit ?_
                  refine stepp ha 63 (.int .u64 t1766.1) KR KR ?_; clear ha a; intro a ha
                  refine stepp ha 64 (.int .i64 (IntKind.wrap .i64 t1766.1)) KR KR ?_; clear ha a; intro a ha
                  obtain ⟨t1808, ht1809, h_⟩ := bind_some' h; clear h; have h := h_; clear h_
                  refine stepc ha 65 KR KR (headgateref05_Sectors.calls (IntKind.wrap .i64 t1766.1) t1808 _ ht1809) ?_; clear ha a; rintro e W1810 ⟨rfl, HX1811⟩
                  refine ⟨_, rfl, ?_⟩; intro a ha; replace HW := HW.callw HX1811; clear HX1811
                  refine stepp ha 66 (.int .i64 (IntKind.wrap .i64 (512 * t1808))) KR KR ?_; clear ha a; intro a ha
                  refine stepp ha 9 (.int .i64 (IntKind.wrap .i64 (512 * t1808))) KR KR ?_; clear ha a; intro a ha
                  refine endl ?_
                  refine thenN (hK1807 _ _ ?_); clear hK1807
                  refine wp_seq_k (fun K1812 hK1813 => ?_)
                  refine wp_seq_k (fun K1814 hK1815 => ?_)
                  refine wp_region_lit ?_
                  refine stepp ha 67 (.int .i64 (IntKind.wrap .i64 (20 + (IntKind.wrap .i64 t1766.1)))) KR KR ?_; clear ha a; intro a ha
                  refine stepp ha 68 (.int .i64 (IntKind.wrap .i64 ((IntKind.wrap .i64 (20 + (IntKind.wrap .i64 t1766.1))) + 4))) KR KR ?_; clear ha a; intro a ha
                  refine stepp ha 10 (.int .i64 (IntKind.wrap .i64 ((IntKind.wrap .i64 (20 + (IntKind.wrap .i64 t1766.1))) + 4))) KR KR ?_; clear ha a; intro a ha
                  refine endl ?_
                  refine thenN (hK1815 _ _ ?_); clear hK1815
                  refine wp_block ?_
                  refine loopk (fun k => fun a W1851 => ∃ (x1850 : Int), headgateref05_Get.l0 K a0 t1760 t1766 t1808 k x1850 = some r ∧ Has 85 [(0, .string a0), (2, .pointer (some ⟨b1728, 0, none⟩)), (4, .int .u64 t1760.1), (8, .int .i64 (IntKind.wrap .i64 (20 + (IntKind.wrap .i64 t1766.1)))), (9, .int .i64 (IntKind.wrap .i64 (512 * t1808))), (10, .int .i64 x1850)] a ∧ Wd w W1851 [(b1728, .cells #[.int .u64 0, .string (⟨#[]⟩ : ByteArray), .int .i64 0] 34 (0, 0))] []) K ?_ ?_
                  · skip
                    exact ⟨IntKind.wrap .i64 ((IntKind.wrap .i64 (20 + (IntKind.wrap .i64 t1766.1))) + 4), h, ha.sub (subs_cons KR (subs_cons KR (subs_cons KR (subs_cons KR (subs_cons KR (subs_cons KR (subs_nil _))))))), HW.pick [0] [] (by decide) (by decide) KR KR⟩
                  · skip
                    intro k a W1851 hI
                    obtain ⟨x1850, h, ha, HW⟩ := hI
                    cases k with
                    | zero => exact (none_some (show none = some r from h)).elim
                    | succ k1852 =>
                      replace h : headgateref05_Get.b0 K a0 t1760 t1766 t1808 (headgateref05_Get.l0 K a0 t1760 t1766 t1808 k1852) x1850 = some r := h
                      obtain ⟨again1849, hag1853⟩ : ∃ g_, g_ = headgateref05_Get.l0 K a0 t1760 t1766 t1808 k1852 := ⟨_, rfl⟩
                      rw [← hag1853] at h
                      unfold headgateref05_Get.b0 at h
                      refine wp_seq_k (fun K1854 hK1855 => ?_)
                      refine wp_seq_k (fun K1856 hK1857 => ?_)
                      refine wp_region_lit ?_
                      refine stepp ha 69 (.int .i64 x1850) KR KR ?_; clear ha a; intro a ha
                      refine stepp ha 70 (.int .i64 (IntKind.wrap .i64 (512 * t1808))) KR KR ?_; clear ha a; intro a ha
                      refine stepp ha 71 (.bool (decide (x1850 < (IntKind.wrap .i64 (512 * t1808))))) KR KR ?_; clear ha a; intro a ha
                      refine endl ?_
                      refine thenN (hK1857 _ _ ?_); clear hK1857
                      by_cases hp1858 : x1850 < (IntKind.wrap .i64 (512 * t1808))
                      · skip
                        replace h := ite_pos' h hp1858
                        refine condT ha KR KR (t := decide (x1850 < (IntKind.wrap .i64 (512 * t1808)))) (decide_eq_true hp1858) ?_
                        refine wp_skip ?_
                        refine thenN (hK1855 _ _ ?_); clear hK1855
                        refine wp_seq_k (fun K1859 hK1860 => ?_)
                        refine wp_block ?_
                        refine wp_seq_k (fun K1861 hK1862 => ?_)
                        refine wp_region_lit ?_
                        refine stepp ha 74 (.string a0) KR KR ?_; clear ha a; intro a ha
                        refine stepp ha 75 (.int .i64 x1850) KR KR ?_; clear ha a; intro a ha
                        obtain ⟨hA1863, h_⟩ := asrt_some h; clear h; have h := h_; clear h_
                        obtain ⟨hA1864, h_⟩ := asrt_some h; clear h; have h := h_; clear h_
                        refine stepsi ha 76 9 (.tmp 74) (.tmp 75) a0 .i64 x1850 rfl KR KR KR hA1863 (show (x1850 : Int) < ((a0).size : Int) from hA1864) KR ?_; clear ha a; intro a ha
                        refine stepp ha 77 (.bool ((bt a0 x1850) != 0)) KR KR ?_; clear ha a; intro a ha
                        refine endl ?_
                        refine thenN (hK1862 _ _ ?_); clear hK1862
                        by_cases hp1865 : (bt a0 x1850) = 0
                        · skip
                          replace h := ite_pos' h hp1865
                          refine condF ha KR KR (t := ((bt a0 x1850) != 0)) (ineq_f hp1865) ?_
                          refine wp_skip ?_
                          refine blkN ?_
                          refine thenN (hK1860 _ _ ?_); clear hK1860
                          refine wp_region_lit ?_
                          refine stepp ha 72 (.int .i64 x1850) KR KR ?_; clear ha a; intro a ha
                          refine stepp ha 73 (.int .i64 (IntKind.wrap .i64 (x1850 + 1))) KR KR ?_; clear ha a; intro a ha
                          refine stepp ha 10 (.int .i64 (IntKind.wrap .i64 (x1850 + 1))) KR KR ?_; clear ha a; intro a ha
                          refine endl ?_
                          exact thenN ⟨k1852, Nat.lt_succ_self k1852, IntKind.wrap .i64 (x1850 + 1), (by rw [← hag1853]; exact h), ha.sub (subs_cons KR (subs_cons KR (subs_cons KR (subs_cons KR (subs_cons KR (subs_cons KR (subs_nil _))))))), HW.pick [0] [] (by decide) (by decide) KR KR⟩
                        · skip
                          replace h := ite_neg' h hp1865
                          refine condT ha KR KR (t := ((bt a0 x1850) != 0)) (ineq_t hp1865) ?_
                          refine wp_seq_k (fun K1866 hK1867 => ?_)
                          refine wp_region_lit ?_
                          refine stepp ha 78 (.agg #[.int .u64 0, .string (⟨#[]⟩ : ByteArray), .int .i64 0]) KR KR ?_; clear ha a; intro a ha
                          refine stepst ha HW 0 (b := b1728) (C := #[.int .u64 0, .string (⟨#[]⟩ : ByteArray), .int .i64 0]) (T := 34) KR 34 0 (.tmp 2) (.tmp 78) (.agg #[.int .u64 0, .string (⟨#[]⟩ : ByteArray), .int .i64 0]) #[.int .u64 0, .string (⟨#[]⟩ : ByteArray), .int .i64 0] rfl KR KR KR KR KR KR KR ?_; clear ha HW a; intro a W1868 HW ha
                          refine stepp ha 3 (.int .i64 50) KR KR ?_; clear ha a; intro a ha
                          refine endl ?_
                          refine thenN (hK1867 _ _ ?_); clear hK1867
                          refine wp_ret ?_
                          refine blkR ?_
                          refine thenR ?_
                          refine thenR ?_
                          refine blkR ?_
                          refine thenR ?_
                          obtain rfl := Option.some.inj h
                          exact finv ha _ _ rfl (.cell (ad := ⟨b1728, 0, none⟩) (v := .agg #[.int .u64 0, .string (⟨#[]⟩ : ByteArray), .int .i64 0]) KR (run_loadVar_ca0 (HW.ca (i := 0) (b := b1728) (C := #[.int .u64 0, .string (⟨#[]⟩ : ByteArray), .int .i64 0]) (T := 34) (fr := (0, 0)) KR) 34 0 (.agg #[.int .u64 0, .string (⟨#[]⟩ : ByteArray), .int .i64 0]) KR) (.tmp (v := .int .i64 50) KR .nil)) (.tuple #[.agg #[.int .u64 0, .string (⟨#[]⟩ : ByteArray), .int .i64 0], .int .i64 50]) rfl ⟨rfl, HW.pick [] [] (by decide) (by decide) rfl KR⟩
                      · skip
                        replace h := ite_neg' h hp1858
                        refine condF ha KR KR (t := decide (x1850 < (IntKind.wrap .i64 (512 * t1808)))) (decide_eq_false hp1858) ?_
                        refine wp_exit ?_
                        refine thenE ?_
                        refine thenE ?_
                        refine inBlk ?_
                        refine thenN (hK1813 _ _ ?_); clear hK1813
                        refine wp_seq_k (fun K1869 hK1870 => ?_)
                        refine wp_region_lit ?_
                        refine stepp ha 79 (.int .u64 t1760.1) KR KR ?_; clear ha a; intro a ha
                        refine stepp ha 80 (.string a0) KR KR ?_; clear ha a; intro a ha
                        refine stepp ha 81 (.int .i64 (IntKind.wrap .i64 (20 + (IntKind.wrap .i64 t1766.1)))) KR KR ?_; clear ha a; intro a ha
                        refine stepss ha 82 9 (.tmp 80) (.const (.int .i64 20)) (.tmp 81) a0 .i64 .i64 20 (IntKind.wrap .i64 (20 + (IntKind.wrap .i64 t1766.1))) rfl KR KR KR KR (by decide) hA1795 (show (IntKind.wrap .i64 (20 + (IntKind.wrap .i64 t1766.1)) : Int) ≤ ((a0).size : Int) from hA1796) KR ?_; clear ha a; intro a ha
                        refine stepp ha 83 (.int .i64 (IntKind.wrap .i64 (512 * t1808))) KR KR ?_; clear ha a; intro a ha
                        refine stepp ha 84 (.agg #[.int .u64 t1760.1, .string (a0.extract (20 : Int).toNat (IntKind.wrap .i64 (20 + (IntKind.wrap .i64 t1766.1)) : Int).toNat), .int .i64 (IntKind.wrap .i64 (512 * t1808))]) KR KR ?_; clear ha a; intro a ha
                        refine stepst ha HW 0 (b := b1728) (C := #[.int .u64 0, .string (⟨#[]⟩ : ByteArray), .int .i64 0]) (T := 34) KR 34 0 (.tmp 2) (.tmp 84) (.agg #[.int .u64 t1760.1, .string (a0.extract (20 : Int).toNat (IntKind.wrap .i64 (20 + (IntKind.wrap .i64 t1766.1)) : Int).toNat), .int .i64 (IntKind.wrap .i64 (512 * t1808))]) #[.int .u64 t1760.1, .string (a0.extract (20 : Int).toNat (IntKind.wrap .i64 (20 + (IntKind.wrap .i64 t1766.1)) : Int).toNat), .int .i64 (IntKind.wrap .i64 (512 * t1808))] rfl KR KR KR KR KR KR KR ?_; clear ha HW a; intro a W1871 HW ha
                        refine stepp ha 3 (.int .i64 0) KR KR ?_; clear ha a; intro a ha
                        refine endl ?_
                        refine thenN (hK1870 _ _ ?_); clear hK1870
                        refine wp_ret ?_
                        obtain rfl := Option.some.inj h
                        exact finv ha _ _ rfl (.cell (ad := ⟨b1728, 0, none⟩) (v := .agg #[.int .u64 t1760.1, .string (a0.extract (20 : Int).toNat (IntKind.wrap .i64 (20 + (IntKind.wrap .i64 t1766.1)) : Int).toNat), .int .i64 (IntKind.wrap .i64 (512 * t1808))]) KR (run_loadVar_ca0 (HW.ca (i := 0) (b := b1728) (C := #[.int .u64 t1760.1, .string (a0.extract (20 : Int).toNat (IntKind.wrap .i64 (20 + (IntKind.wrap .i64 t1766.1)) : Int).toNat), .int .i64 (IntKind.wrap .i64 (512 * t1808))]) (T := 34) (fr := (0, 0)) KR) 34 0 (.agg #[.int .u64 t1760.1, .string (a0.extract (20 : Int).toNat (IntKind.wrap .i64 (20 + (IntKind.wrap .i64 t1766.1)) : Int).toNat), .int .i64 (IntKind.wrap .i64 (512 * t1808))]) KR) (.tmp (v := .int .i64 0) KR .nil)) (.tuple #[.agg #[.int .u64 t1760.1, .string (a0.extract (20 : Int).toNat (IntKind.wrap .i64 (20 + (IntKind.wrap .i64 t1766.1)) : Int).toNat), .int .i64 (IntKind.wrap .i64 (512 * t1808))], .int .i64 0]) rfl ⟨rfl, HW.pick [] [] (by decide) (by decide) rfl KR⟩
                · skip
                  replace h := ite_neg' h hp1802
                  refine condT ha KR KR (t := (!((a0.extract (IntKind.wrap .i64 (20 + (IntKind.wrap .i64 t1766.1)) : Int).toNat (IntKind.wrap .i64 ((IntKind.wrap .i64 (20 + (IntKind.wrap .i64 t1766.1))) + 4) : Int).toNat).toList == t1797.toList))) (str_ne_t hp1802) ?_
                  refine wp_seq_k (fun K1803 hK1804 => ?_)
                  refine wp_region_lit ?_
                  refine stepp ha 62 (.agg #[.int .u64 0, .string (⟨#[]⟩ : ByteArray), .int .i64 0]) KR KR ?_; clear ha a; intro a ha
                  refine stepst ha HW 0 (b := b1728) (C := #[.int .u64 0, .string (⟨#[]⟩ : ByteArray), .int .i64 0]) (T := 34) KR 34 0 (.tmp 2) (.tmp 62) (.agg #[.int .u64 0, .string (⟨#[]⟩ : ByteArray), .int .i64 0]) #[.int .u64 0, .string (⟨#[]⟩ : ByteArray), .int .i64 0] rfl KR KR KR KR KR KR KR ?_; clear ha HW a; intro a W1805 HW ha
                  refine stepp ha 3 (.int .i64 51) KR KR ?_; clear ha a; intro a ha
                  refine endl ?_
                  refine thenN (hK1804 _ _ ?_); clear hK1804
                  refine wp_ret ?_
                  refine thenR ?_
                  obtain rfl := Option.some.inj h
                  exact finv ha _ _ rfl (.cell (ad := ⟨b1728, 0, none⟩) (v := .agg #[.int .u64 0, .string (⟨#[]⟩ : ByteArray), .int .i64 0]) KR (run_loadVar_ca0 (HW.ca (i := 0) (b := b1728) (C := #[.int .u64 0, .string (⟨#[]⟩ : ByteArray), .int .i64 0]) (T := 34) (fr := (0, 0)) KR) 34 0 (.agg #[.int .u64 0, .string (⟨#[]⟩ : ByteArray), .int .i64 0]) KR) (.tmp (v := .int .i64 51) KR .nil)) (.tuple #[.agg #[.int .u64 0, .string (⟨#[]⟩ : ByteArray), .int .i64 0], .int .i64 51]) rfl ⟨rfl, HW.pick [] [] (by decide) (by decide) rfl KR⟩
        · skip
          replace h := ite_neg' h hp1754
          refine condT ha KR KR (t := (!((a0.extract (16 : Int).toNat (20 : Int).toNat).toList == t1749.toList))) (str_ne_t hp1754) ?_
          refine wp_seq_k (fun K1755 hK1756 => ?_)
          refine wp_region_lit ?_
          refine stepp ha 26 (.agg #[.int .u64 0, .string (⟨#[]⟩ : ByteArray), .int .i64 0]) KR KR ?_; clear ha a; intro a ha
          refine stepst ha HW 0 (b := b1728) (C := #[.int .u64 0, .string (⟨#[]⟩ : ByteArray), .int .i64 0]) (T := 34) KR 34 0 (.tmp 2) (.tmp 26) (.agg #[.int .u64 0, .string (⟨#[]⟩ : ByteArray), .int .i64 0]) #[.int .u64 0, .string (⟨#[]⟩ : ByteArray), .int .i64 0] rfl KR KR KR KR KR KR KR ?_; clear ha HW a; intro a W1757 HW ha
          refine stepp ha 3 (.int .i64 51) KR KR ?_; clear ha a; intro a ha
          refine endl ?_
          refine thenN (hK1756 _ _ ?_); clear hK1756
          refine wp_ret ?_
          refine thenR ?_
          obtain rfl := Option.some.inj h
          exact finv ha _ _ rfl (.cell (ad := ⟨b1728, 0, none⟩) (v := .agg #[.int .u64 0, .string (⟨#[]⟩ : ByteArray), .int .i64 0]) KR (run_loadVar_ca0 (HW.ca (i := 0) (b := b1728) (C := #[.int .u64 0, .string (⟨#[]⟩ : ByteArray), .int .i64 0]) (T := 34) (fr := (0, 0)) KR) 34 0 (.agg #[.int .u64 0, .string (⟨#[]⟩ : ByteArray), .int .i64 0]) KR) (.tmp (v := .int .i64 51) KR .nil)) (.tuple #[.agg #[.int .u64 0, .string (⟨#[]⟩ : ByteArray), .int .i64 0], .int .i64 51]) rfl ⟨rfl, HW.pick [] [] (by decide) (by decide) rfl KR⟩
    · skip
      replace h := ite_neg' h hp1739
      refine condT ha KR KR (t := (!((a0.extract 0 (4 : Int).toNat).toList == (⟨#[72, 71, 70, 82]⟩ : ByteArray).toList))) (str_ne_t hp1739) ?_
      refine wp_seq_k (fun K1740 hK1741 => ?_)
      refine wp_region_lit ?_
      refine stepp ha 19 (.agg #[.int .u64 0, .string (⟨#[]⟩ : ByteArray), .int .i64 0]) KR KR ?_; clear ha a; intro a ha
      refine stepst ha HW 0 (b := b1728) (C := #[.int .u64 0, .string (⟨#[]⟩ : ByteArray), .int .i64 0]) (T := 34) KR 34 0 (.tmp 2) (.tmp 19) (.agg #[.int .u64 0, .string (⟨#[]⟩ : ByteArray), .int .i64 0]) #[.int .u64 0, .string (⟨#[]⟩ : ByteArray), .int .i64 0] rfl KR KR KR KR KR KR KR ?_; clear ha HW a; intro a W1742 HW ha
      refine stepp ha 3 (.int .i64 50) KR KR ?_; clear ha a; intro a ha
      refine endl ?_
      refine thenN (hK1741 _ _ ?_); clear hK1741
      refine wp_ret ?_
      refine thenR ?_
      obtain rfl := Option.some.inj h
      exact finv ha _ _ rfl (.cell (ad := ⟨b1728, 0, none⟩) (v := .agg #[.int .u64 0, .string (⟨#[]⟩ : ByteArray), .int .i64 0]) KR (run_loadVar_ca0 (HW.ca (i := 0) (b := b1728) (C := #[.int .u64 0, .string (⟨#[]⟩ : ByteArray), .int .i64 0]) (T := 34) (fr := (0, 0)) KR) 34 0 (.agg #[.int .u64 0, .string (⟨#[]⟩ : ByteArray), .int .i64 0]) KR) (.tmp (v := .int .i64 50) KR .nil)) (.tuple #[.agg #[.int .u64 0, .string (⟨#[]⟩ : ByteArray), .int .i64 0], .int .i64 50]) rfl ⟨rfl, HW.pick [] [] (by decide) (by decide) rfl KR⟩
end Go.Proofs.YtdcojinnjpihaaaDoor.F
