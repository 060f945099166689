/- headgate/headgateref01.PutLittle, headgate/headgateref01.there, headgate/headgateref01.Little: plain functions, and that the calls come to what they say. No condition. -/
import Derived.Test.YthjjbkgifelooaaDoorFT
namespace Go.Proofs.YthjjbkgifelooaaDoor.F
open Go Go.RowKit Go.Proofs.YthjjbkgifelooaaDoor.X
set_option linter.unusedVariables false
set_option linter.unusedSimpArgs false
/-! ### headgate/headgateref01.PutLittle: function 51 -/
def headgateref01_PutLittle.b0 (K : Nat) (a1 : Int) (again1400 : Int → (List Int) → Int → Option ByteArray) (x1401 : Int) (x1402 : List Int) (x1406 : Int) : Option ByteArray :=
  if x1406 < a1 then (asrt (0 ≤ x1406) (asrt (x1406 < (x1402.length : Int)) (again1400 (IntKind.wrap .u64 (Int.tdiv x1401 256)) (x1402.set (x1406 : Int).toNat (IntKind.wrap .u8 (Int.tmod x1401 256))) (IntKind.wrap .i64 (x1406 + 1))))) else (some (strOfNums x1402))
def headgateref01_PutLittle.l0 (K : Nat) (a1 : Int) : Nat → Int → (List Int) → Int → Option ByteArray
  | 0, _, _, _ => none
  | k_ + 1, x1401, x1402, x1406 => headgateref01_PutLittle.b0 K a1 (headgateref01_PutLittle.l0 K a1 k_) x1401 x1402 x1406
def headgateref01_PutLittle.f (K : Nat) (a0 : Int) (a1 : Int) : Option ByteArray :=
  if a1 < 1 then (some (⟨#[]⟩ : ByteArray)) else (if a1 > 8 then (some (⟨#[]⟩ : ByteArray)) else (asrt (0 ≤ a1) (asrt (a1 ≤ 281474976710656) (headgateref01_PutLittle.l0 K a1 K a0 (List.replicate (a1 : Int).toNat (0 : Int)) 0))))
set_option maxRecDepth 100000 in
set_option maxHeartbeats 4000000 in
theorem headgateref01_PutLittle.calls (K : Nat) (a0 : Int) (a1 : Int)  (r : ByteArray) (w : World)  (h : headgateref01_PutLittle.f K a0 a1 = some r) :
    Calls Tryd.prog 51 #[.int .u64 a0, .int .i64 a1] w (fun e W' => e = .returned (.string r) ∧ Wd w W' [] [] ) := by
  refine sxstart (n := 30) (l := [(0, .int .u64 a0), (1, .int .i64 a1)]) Tryd.func51 rfl rfl (Nat.le_of_ble_eq_true KR) (subsA_cons rfl (subsA_cons rfl (subsA_nil _))) ?_
  intro a ha
  have HW := Wd.refl w
  unfold headgateref01_PutLittle.f at h
  refine wp_seq_k (fun K1342 hK1343 => ?_)
  refine wp_region_lit ?_
  refine stepp ha 4 (.string (⟨#[]⟩ : ByteArray)) KR KR ?_; clear ha a; intro a ha
  refine endl ?_
  refine thenN (hK1343 _ _ ?_); clear hK1343
  refine wp_seq_k (fun K1344 hK1345 => ?_)
  refine wp_seq_k (fun K1346 hK1347 => ?_)
  refine wp_region_lit ?_
  refine stepp ha 7 (.int .i64 a1) KR KR ?_; clear ha a; intro a ha
  refine stepp ha 8 (.bool (decide (a1 < 1))) KR KR ?_; clear ha a; intro a ha
  refine stepp ha 9 (.bool (decide (a1 < 1))) KR KR ?_; clear ha a; intro a ha
  by_cases hp1348 : a1 < 1
  · skip
    replace h := ite_pos' h hp1348
    replace ha := ha.bool 9 KR (decide_eq_true hp1348)
    refine stepo ha 10 KR ?_; clear ha a; intro a ha
    refine stepo ha 11 KR ?_; clear ha a; intro a ha
    refine stepp ha 12 (.bool true) KR KR ?_; clear ha a; intro a ha
    refine endl ?_
    refine thenN (hK1347 _ _ ?_); clear hK1347
    refine condT ha KR KR (t := true) (rfl) ?_
    refine wp_seq_k (fun K1349 hK1350 => ?_)
    refine wp_region_lit ?_
    refine stepp ha 4 (.string (⟨#[]⟩ : ByteArray)) KR KR ?_; clear ha a; intro a ha
    refine endl ?_
    refine thenN (hK1350 _ _ ?_); clear hK1350
    refine wp_ret ?_
    refine thenR ?_
    obtain rfl := Option.some.inj h
    exact finv ha _ _ rfl (.tmp (v := .string (⟨#[]⟩ : ByteArray)) KR .nil) (.string (⟨#[]⟩ : ByteArray)) rfl ⟨rfl, HW.pick [] [] (by decide) (by decide) rfl KR⟩
  · skip
    replace h := ite_neg' h hp1348
    replace ha := ha.bool 9 KR (decide_eq_false hp1348)
    refine stepp ha 10 (.int .i64 a1) KR KR ?_; clear ha a; intro a ha
    refine stepp ha 11 (.bool (decide (a1 > 8))) KR KR ?_; clear ha a; intro a ha
    refine stepp ha 12 (.bool (decide (a1 > 8))) KR KR ?_; clear ha a; intro a ha
    refine endl ?_
    refine thenN (hK1347 _ _ ?_); clear hK1347
    by_cases hp1351 : a1 > 8
    · skip
      replace h := ite_pos' h hp1351
      refine condT ha KR KR (t := decide (a1 > 8)) (decide_eq_true hp1351) ?_
      refine wp_seq_k (fun K1352 hK1353 => ?_)
      refine wp_region_lit ?_
      refine stepp ha 4 (.string (⟨#[]⟩ : ByteArray)) KR KR ?_; clear ha a; intro a ha
      refine endl ?_
      refine thenN (hK1353 _ _ ?_); clear hK1353
      refine wp_ret ?_
      refine thenR ?_
      obtain rfl := Option.some.inj h
      exact finv ha _ _ rfl (.tmp (v := .string (⟨#[]⟩ : ByteArray)) KR .nil) (.string (⟨#[]⟩ : ByteArray)) rfl ⟨rfl, HW.pick [] [] (by decide) (by decide) rfl KR⟩
    · skip
      replace h := ite_neg' h hp1351
      refine condF ha KR KR (t := decide (a1 > 8)) (decide_eq_false hp1351) ?_
      refine wp_skip ?_
      refine thenN (hK1345 _ _ ?_); clear hK1345
      refine wp_seq_k (fun K1354 hK1355 => ?_)
      refine wp_region_lit ?_
      refine stepp ha 13 (.int .i64 a1) KR KR ?_; clear ha a; intro a ha
      obtain ⟨hA1356, h_⟩ := asrt_some h; clear h; have h := h_; clear h_
      obtain ⟨hA1357, h_⟩ := asrt_some h; clear h; have h := h_; clear h_
      refine stepmk (encI .u8) (0 : Int) ha HW 14 97 5 (.tmp 13) (.tmp 13) .i64 .i64 a1 (.int .u8 0) 1 rfl KR KR KR KR rfl rfl hA1356 (by have := hA1357; omega) (by have := hA1357; omega) KR ?_; clear ha HW a; intro b1358 a W1359 HW ha
      refine stepp ha 5 (.slice (some ⟨b1358, 0, none⟩) (List.replicate (a1 : Int).toNat (0 : Int)).length ((a1 : Int).toNat)) KR KR ?_; clear ha a; intro a ha
      refine endl ?_
      refine thenN (hK1355 _ _ ?_); clear hK1355
      refine wp_seq_k (fun K1361 hK1362 => ?_)
      refine wp_seq_k (fun K1363 hK1364 => ?_)
      refine wp_region_lit ?_
      refine stepp ha 6 (.int .i64 0) KR KR ?_; clear ha a; intro a ha
      refine endl ?_
      refine thenN (hK1364 _ _ ?_); clear hK1364
      refine wp_block ?_
      refine loopk (fun k => fun a W1407 => ∃ (x1401 : Int), ∃ (x1402 : List Int), ∃ A1403, ∃ c1404, ∃ (x1406 : Int), headgateref01_PutLittle.l0 K a1 k x1401 x1402 x1406 = some r ∧ Has 30 [(0, .int .u64 x1401), (1, .int .i64 a1), (5, .slice A1403 x1402.length c1404), (6, .int .i64 x1406)] a ∧ Wd w W1407 [] [⟨5, 1, .slice A1403 x1402.length c1404, x1402.length, encs (encI .u8) x1402⟩]) K ?_ ?_
      · skip
        exact ⟨a0, List.replicate (a1 : Int).toNat (0 : Int), some ⟨b1358, 0, none⟩, (a1 : Int).toNat, 0, h, ha.sub (subs_cons KR (subs_cons KR (subs_cons KR (subs_cons KR (subs_nil _))))), HW.pick [] [0] (by decide) (by decide) KR KR⟩
      · skip
        intro k a W1407 hI
        obtain ⟨x1401, x1402, A1403, c1404, x1406, h, ha, HW⟩ := hI
        cases k with
        | zero => exact (none_some (show none = some r from h)).elim
        | succ k1408 =>
          replace h : headgateref01_PutLittle.b0 K a1 (headgateref01_PutLittle.l0 K a1 k1408) x1401 x1402 x1406 = some r := h
          obtain ⟨again1400, hag1409⟩ : ∃ g_, g_ = headgateref01_PutLittle.l0 K a1 k1408 := ⟨_, rfl⟩
          rw [← hag1409] at h
          unfold headgateref01_PutLittle.b0 at h
          refine wp_seq_k (fun K1410 hK1411 => ?_)
          refine wp_seq_k (fun K1412 hK1413 => ?_)
          refine wp_region_lit ?_
          refine stepp ha 15 (.int .i64 x1406) KR KR ?_; clear ha a; intro a ha
          refine stepp ha 16 (.int .i64 a1) KR KR ?_; clear ha a; intro a ha
          refine stepp ha 17 (.bool (decide (x1406 < a1))) KR KR ?_; clear ha a; intro a ha
          refine endl ?_
          refine thenN (hK1413 _ _ ?_); clear hK1413
          by_cases hp1414 : x1406 < a1
          · skip
            replace h := ite_pos' h hp1414
            refine condT ha KR KR (t := decide (x1406 < a1)) (decide_eq_true hp1414) ?_
            refine wp_skip ?_
            refine thenN (hK1411 _ _ ?_); clear hK1411
            refine wp_seq_k (fun K1415 hK1416 => ?_)
            refine wp_block ?_
            refine wp_seq_k (fun K1417 hK1418 => ?_)
            refine wp_region_lit ?_
            refine stepp ha 20 (.slice A1403 x1402.length c1404) KR KR ?_; clear ha a; intro a ha
            refine stepp ha 21 (.int .i64 x1406) KR KR ?_; clear ha a; intro a ha
            refine stepp ha 22 (.int .u64 x1401) KR KR ?_; clear ha a; intro a ha
            refine stepp ha 23 (.int .u64 (Int.tmod x1401 256)) KR KR ?_; clear ha a; intro a ha
            refine stepp ha 24 (.int .u8 (IntKind.wrap .u8 (Int.tmod x1401 256))) KR KR ?_; clear ha a; intro a ha
            obtain ⟨hA1419, h_⟩ := asrt_some h; clear h; have h := h_; clear h_
            obtain ⟨hA1420, h_⟩ := asrt_some h; clear h; have h := h_; clear h_
            refine stepio (encI .u8) ha HW 25 0 (sz := 1) (e := 5) (v := .slice A1403 x1402.length c1404) (xs := x1402) KR 97 (.tmp 20) (.tmp 21) .i64 x1406 rfl KR KR KR KR hA1419 (show (x1406 : Int) < ((x1402).length : Int) from hA1420) KR ?_; clear ha a; intro b1421 a hb1422 ha
            refine stepos (encI .u8) (0 : Int) ha HW 0 (sz := 1) (e := 5) (fun _ => rfl) (v := .slice A1403 x1402.length c1404) (xs := x1402) KR hb1422 x1406 hA1419 (show (x1406 : Int) < ((x1402).length : Int) from hA1420) 5 0 (.tmp 25) (.tmp 24) (.int .u8 (IntKind.wrap .u8 (Int.tmod x1401 256))) (IntKind.wrap .u8 (Int.tmod x1401 256)) rfl KR KR KR KR KR KR KR (.slice A1403 (x1402.set (x1406 : Int).toNat (IntKind.wrap .u8 (Int.tmod x1401 256))).length c1404) (by rw [List.length_set]) ?_; clear ha HW a; intro a W1423 HW ha
            replace ha := ha.turn 5 (v := .slice A1403 (x1402.set (x1406 : Int).toNat (IntKind.wrap .u8 (Int.tmod x1401 256))).length c1404) KR (by rw [List.length_set])
            replace ha := ha.turn 20 (v := .slice A1403 (x1402.set (x1406 : Int).toNat (IntKind.wrap .u8 (Int.tmod x1401 256))).length c1404) KR (by rw [List.length_set])
            replace HW : Wd w W1423 [] [⟨5, 1, .slice A1403 (x1402.set (x1406 : Int).toNat (IntKind.wrap .u8 (Int.tmod x1401 256))).length c1404, (x1402.set (x1406 : Int).toNat (IntKind.wrap .u8 (Int.tmod x1401 256))).length, encs (encI .u8) (x1402.set (x1406 : Int).toNat (IntKind.wrap .u8 (Int.tmod x1401 256)))⟩] := HW
            refine endl ?_
            refine thenN (hK1418 _ _ ?_); clear hK1418
            refine wp_region_lit ?_
            refine stepp ha 26 (.int .u64 x1401) KR KR ?_; clear ha a; intro a ha
            refine stepp ha 27 (.int .u64 (IntKind.wrap .u64 (Int.tdiv x1401 256))) KR KR ?_; clear ha a; intro a ha
            refine stepp ha 0 (.int .u64 (IntKind.wrap .u64 (Int.tdiv x1401 256))) KR KR ?_; clear ha a; intro a ha
            refine endl ?_
            refine blkN ?_
            refine thenN (hK1416 _ _ ?_); clear hK1416
            refine wp_region_lit ?_
            refine stepp ha 18 (.int .i64 x1406) KR KR ?_; clear ha a; intro a ha
            refine stepp ha 19 (.int .i64 (IntKind.wrap .i64 (x1406 + 1))) KR KR ?_; clear ha a; intro a ha
            refine stepp ha 6 (.int .i64 (IntKind.wrap .i64 (x1406 + 1))) KR KR ?_; clear ha a; intro a ha
            refine endl ?_
            exact thenN ⟨k1408, Nat.lt_succ_self k1408, IntKind.wrap .u64 (Int.tdiv x1401 256), x1402.set (x1406 : Int).toNat (IntKind.wrap .u8 (Int.tmod x1401 256)), A1403, c1404, IntKind.wrap .i64 (x1406 + 1), (by rw [← hag1409]; exact h), ha.sub (subs_cons KR (subs_cons KR (subs_cons KR (subs_cons KR (subs_nil _))))), HW.pick [] [0] (by decide) (by decide) KR KR⟩
          · skip
            replace h := ite_neg' h hp1414
            refine condF ha KR KR (t := decide (x1406 < a1)) (decide_eq_false hp1414) ?_
            refine wp_exit ?_
            refine thenE ?_
            refine thenE ?_
            refine inBlk ?_
            refine thenN (hK1362 _ _ ?_); clear hK1362
            refine wp_seq_k (fun K1424 hK1425 => ?_)
            refine wp_region_lit ?_
            refine stepp ha 28 (.slice A1403 x1402.length c1404) KR KR ?_; clear ha a; intro a ha
            refine stepbt ha 29 97 9 5 (.tmp 28) (v := .slice A1403 x1402.length c1404) (xs := x1402) (HW.rdo (i := 0) (q := ⟨5, 1, .slice A1403 x1402.length c1404, x1402.length, encs (encI .u8) x1402⟩) KR) rfl KR KR KR KR KR ?_; clear ha a; intro a ha
            refine stepp ha 4 (.string (strOfNums x1402)) KR KR ?_; clear ha a; intro a ha
            refine endl ?_
            refine thenN (hK1425 _ _ ?_); clear hK1425
            refine wp_ret ?_
            obtain rfl := Option.some.inj h
            exact finv ha _ _ rfl (.tmp (v := .string (strOfNums x1402)) KR .nil) (.string (strOfNums x1402)) rfl ⟨rfl, HW.pick [] [] (by decide) (by decide) rfl KR⟩
/-! ### headgate/headgateref01.there: function 78 -/
def headgateref01_there.f (a0 : ByteArray) (a1 : Int) (a2 : Int) : Option Bool :=
  if a1 ≥ 0 then (if a2 ≥ 0 then (if a1 ≤ (a0.size : Int) then (some (decide (a2 ≤ (IntKind.wrap .i64 ((a0.size : Int) - a1))))) else (some false)) else (some false)) else (some false)
set_option maxRecDepth 100000 in
set_option maxHeartbeats 4000000 in
theorem headgateref01_there.calls (a0 : ByteArray) (a1 : Int) (a2 : Int)  (r : Bool) (w : World)  (h : headgateref01_there.f a0 a1 a2 = some r) :
    Calls Tryd.prog 78 #[.string a0, .int .i64 a1, .int .i64 a2] w (fun e W' => e = .returned (.bool r) ∧ Wd w W' [] [] ) := by
  refine sxstart (n := 27) (l := [(0, .string a0), (1, .int .i64 a1), (2, .int .i64 a2)]) Tryd.func78 rfl rfl (Nat.le_of_ble_eq_true KR) (subsA_cons rfl (subsA_cons rfl (subsA_cons rfl (subsA_nil _)))) ?_
  intro a ha
  have HW := Wd.refl w
  unfold headgateref01_there.f at h
  refine wp_seq_k (fun K1752 hK1753 => ?_)
  refine wp_region_lit ?_
  refine stepp ha 6 (.bool false) KR KR ?_; clear ha a; intro a ha
  refine endl ?_
  refine thenN (hK1753 _ _ ?_); clear hK1753
  refine wp_seq_k (fun K1754 hK1755 => ?_)
  refine wp_region_lit ?_
  refine stepp ha 7 (.int .i64 a1) KR KR ?_; clear ha a; intro a ha
  refine stepp ha 8 (.bool (decide (a1 ≥ 0))) KR KR ?_; clear ha a; intro a ha
  refine stepp ha 9 (.bool (decide (a1 ≥ 0))) KR KR ?_; clear ha a; intro a ha
  by_cases hp1756 : a1 ≥ 0
  · skip
    replace h := ite_pos' h hp1756
    replace ha := ha.bool 9 KR (decide_eq_true hp1756)
    refine stepp ha 10 (.int .i64 a2) KR KR ?_; clear ha a; intro a ha
    refine stepp ha 11 (.bool (decide (a2 ≥ 0))) KR KR ?_; clear ha a; intro a ha
    refine stepp ha 12 (.bool (decide (a2 ≥ 0))) KR KR ?_; clear ha a; intro a ha
    refine stepp ha 13 (.bool (decide (a2 ≥ 0))) KR KR ?_; clear ha a; intro a ha
    by_cases hp1757 : a2 ≥ 0
    · skip
      replace h := ite_pos' h hp1757
      replace ha := ha.bool 13 KR (decide_eq_true hp1757)
      refine stepp ha 14 (.int .i64 a1) KR KR ?_; clear ha a; intro a ha
      refine stepp ha 15 (.string a0) KR KR ?_; clear ha a; intro a ha
      refine stepp ha 16 (.int .i64 (a0.size : Int)) KR KR ?_; clear ha a; intro a ha
      refine stepp ha 17 (.bool (decide (a1 ≤ (a0.size : Int)))) KR KR ?_; clear ha a; intro a ha
      refine stepp ha 18 (.bool (decide (a1 ≤ (a0.size : Int)))) KR KR ?_; clear ha a; intro a ha
      refine stepp ha 19 (.bool (decide (a1 ≤ (a0.size : Int)))) KR KR ?_; clear ha a; intro a ha
      by_cases hp1758 : a1 ≤ (a0.size : Int)
      · skip
        replace h := ite_pos' h hp1758
        replace ha := ha.bool 19 KR (decide_eq_true hp1758)
        refine stepp ha 20 (.int .i64 a2) KR KR ?_; clear ha a; intro a ha
        refine stepp ha 21 (.string a0) KR KR ?_; clear ha a; intro a ha
        refine stepp ha 22 (.int .i64 (a0.size : Int)) KR KR ?_; clear ha a; intro a ha
        refine stepp ha 23 (.int .i64 a1) KR KR ?_; clear ha a; intro a ha
        refine stepp ha 24 (.int .i64 (IntKind.wrap .i64 ((a0.size : Int) - a1))) KR KR ?_; clear ha a; intro a ha
        refine stepp ha 25 (.bool (decide (a2 ≤ (IntKind.wrap .i64 ((a0.size : Int) - a1))))) KR KR ?_; clear ha a; intro a ha
        refine stepp ha 26 (.bool (decide (a2 ≤ (IntKind.wrap .i64 ((a0.size : Int) - a1))))) KR KR ?_; clear ha a; intro a ha
        refine stepp ha 6 (.bool (decide (a2 ≤ (IntKind.wrap .i64 ((a0.size : Int) - a1))))) KR KR ?_; clear ha a; intro a ha
        refine endl ?_
        refine thenN (hK1755 _ _ ?_); clear hK1755
        refine wp_ret ?_
        obtain rfl := Option.some.inj h
        exact finv ha _ _ rfl (.tmp (v := .bool (decide (a2 ≤ (IntKind.wrap .i64 ((a0.size : Int) - a1))))) KR .nil) (.bool (decide (a2 ≤ (IntKind.wrap .i64 ((a0.size : Int) - a1))))) rfl ⟨rfl, HW.pick [] [] (by decide) (by decide) rfl KR⟩
      · skip
        replace h := ite_neg' h hp1758
        replace ha := ha.bool 19 KR (decide_eq_false hp1758)
        refine stepo ha 20 KR ?_; clear ha a; intro a ha
        refine stepo ha 21 KR ?_; clear ha a; intro a ha
        refine stepo ha 22 KR ?_; clear ha a; intro a ha
        refine stepo ha 23 KR ?_; clear ha a; intro a ha
        refine stepo ha 24 KR ?_; clear ha a; intro a ha
        refine stepo ha 25 KR ?_; clear ha a; intro a ha
        refine stepp ha 26 (.bool false) KR KR ?_; clear ha a; intro a ha
        refine stepp ha 6 (.bool false) KR KR ?_; clear ha a; intro a ha
        refine endl ?_
        refine thenN (hK1755 _ _ ?_); clear hK1755
        refine wp_ret ?_
        obtain rfl := Option.some.inj h
        exact finv ha _ _ rfl (.tmp (v := .bool false) KR .nil) (.bool false) rfl ⟨rfl, HW.pick [] [] (by decide) (by decide) rfl KR⟩
    · skip
      replace h := ite_neg' h hp1757
      replace ha := ha.bool 13 KR (decide_eq_false hp1757)
      refine stepo ha 14 KR ?_; clear ha a; intro a ha
      refine stepo ha 15 KR ?_; clear ha a; intro a ha
      refine stepo ha 16 KR ?_; clear ha a; intro a ha
      refine stepo ha 17 KR ?_; clear ha a; intro a ha
      refine stepp ha 18 (.bool false) KR KR ?_; clear ha a; intro a ha
      refine stepp ha 19 (.bool false) KR KR ?_; clear ha a; intro a ha
      refine stepo ha 20 KR ?_; clear ha a; intro a ha
      refine stepo ha 21 KR ?_; clear ha a; intro a ha
      refine stepo ha 22 KR ?_; clear ha a; intro a ha
      refine stepo ha 23 KR ?_; clear ha a; intro a ha
      refine stepo ha 24 KR ?_; clear ha a; intro a ha
      refine stepo ha 25 KR ?_; clear ha a; intro a ha
      refine stepp ha 26 (.bool false) KR KR ?_; clear ha a; intro a ha
      refine stepp ha 6 (.bool false) KR KR ?_; clear ha a; intro a ha
      refine endl ?_
      refine thenN (hK1755 _ _ ?_); clear hK1755
      refine wp_ret ?_
      obtain rfl := Option.some.inj h
      exact finv ha _ _ rfl (.tmp (v := .bool false) KR .nil) (.bool false) rfl ⟨rfl, HW.pick [] [] (by decide) (by decide) rfl KR⟩
  · skip
    replace h := ite_neg' h hp1756
    replace ha := ha.bool 9 KR (decide_eq_false hp1756)
    refine stepo ha 10 KR ?_; clear ha a; intro a ha
    refine stepo ha 11 KR ?_; clear ha a; intro a ha
    refine stepp ha 12 (.bool false) KR KR ?_; clear ha a; intro a ha
    refine stepp ha 13 (.bool false) KR KR ?_; clear ha a; intro a ha
    refine stepo ha 14 KR ?_; clear ha a; intro a ha
    refine stepo ha 15 KR ?_; clear ha a; intro a ha
    refine stepo ha 16 KR ?_; clear ha a; intro a ha
    refine stepo ha 17 KR ?_; clear ha a; intro a ha
    refine stepp ha 18 (.bool false) KR KR ?_; clear ha a; intro a ha
    refine stepp ha 19 (.bool false) KR KR ?_; clear ha a; intro a ha
    refine stepo ha 20 KR ?_; clear ha a; intro a ha
    refine stepo ha 21 KR ?_; clear ha a; intro a ha
    refine stepo ha 22 KR ?_; clear ha a; intro a ha
    refine stepo ha 23 KR ?_; clear ha a; intro a ha
    refine stepo ha 24 KR ?_; clear ha a; intro a ha
    refine stepo ha 25 KR ?_; clear ha a; intro a ha
    refine stepp ha 26 (.bool false) KR KR ?_; clear ha a; intro a ha
    refine stepp ha 6 (.bool false) KR KR ?_; clear ha a; intro a ha
    refine endl ?_
    refine thenN (hK1755 _ _ ?_); clear hK1755
    refine wp_ret ?_
    obtain rfl := Option.some.inj h
    exact finv ha _ _ rfl (.tmp (v := .bool false) KR .nil) (.bool false) rfl ⟨rfl, HW.pick [] [] (by decide) (by decide) rfl KR⟩
/-! ### headgate/headgateref01.Little: function 47 -/
def headgateref01_Little.b0 (K : Nat) (a0 : ByteArray) (a1 : Int) (again1806 : Int → Int → Option (Int × Bool)) (x1807 : Int) (x1808 : Int) : Option (Int × Bool) :=
  if x1808 ≥ 0 then (asrt (0 ≤ (IntKind.wrap .i64 (a1 + x1808))) (asrt ((IntKind.wrap .i64 (a1 + x1808)) < (a0.size : Int)) (again1806 (IntKind.wrap .u64 ((IntKind.wrap .u64 (x1807 * 256)) + (IntKind.wrap .u64 (bt a0 (IntKind.wrap .i64 (a1 + x1808)))))) (IntKind.wrap .i64 (x1808 - 1))))) else (some (x1807, true))
def headgateref01_Little.l0 (K : Nat) (a0 : ByteArray) (a1 : Int) : Nat → Int → Int → Option (Int × Bool)
  | 0, _, _ => none
  | k_ + 1, x1807, x1808 => headgateref01_Little.b0 K a0 a1 (headgateref01_Little.l0 K a0 a1 k_) x1807 x1808
def headgateref01_Little.f (K : Nat) (a0 : ByteArray) (a1 : Int) (a2 : Int) : Option (Int × Bool) :=
  if a2 < 1 then (some (0, false)) else (if a2 > 8 then (some (0, false)) else ((headgateref01_there.f a0 a1 a2).bind fun t1767 => (if t1767 = true then (headgateref01_Little.l0 K a0 a1 K 0 (IntKind.wrap .i64 (a2 - 1))) else (some (0, false)))))
set_option maxRecDepth 100000 in
set_option maxHeartbeats 4000000 in
theorem headgateref01_Little.calls (K : Nat) (a0 : ByteArray) (a1 : Int) (a2 : Int)  (r : Int × Bool) (w : World)  (h : headgateref01_Little.f K a0 a1 a2 = some r) :
    Calls Tryd.prog 47 #[.string a0, .int .i64 a1, .int .i64 a2] w (fun e W' => e = .returned (.tuple #[.int .u64 r.1, .bool r.2]) ∧ Wd w W' [] [] ) := by
  refine sxstart (n := 39) (l := [(0, .string a0), (1, .int .i64 a1), (2, .int .i64 a2)]) Tryd.func47 rfl rfl (Nat.le_of_ble_eq_true KR) (subsA_cons rfl (subsA_cons rfl (subsA_cons rfl (subsA_nil _)))) ?_
  intro a ha
  have HW := Wd.refl w
  unfold headgateref01_Little.f at h
  refine wp_seq_k (fun K1759 hK1760 => ?_)
  refine wp_region_lit ?_
  refine stepp ha 6 (.int .u64 0) KR KR ?_; clear ha a; intro a ha
  refine stepp ha 7 (.bool false) KR KR ?_; clear ha a; intro a ha
  refine endl ?_
  refine thenN (hK1760 _ _ ?_); clear hK1760
  refine wp_seq_k (fun K1761 hK1762 => ?_)
  refine wp_seq_k (fun K1763 hK1764 => ?_)
  refine wp_region_lit ?_
  refine stepp ha 10 (.int .i64 a2) KR KR ?_; clear ha a; intro a ha
  refine stepp ha 11 (.bool (decide (a2 < 1))) KR KR ?_; clear ha a; intro a ha
  refine stepp ha 12 (.bool (decide (a2 < 1))) KR KR ?_; clear ha a; intro a ha
  by_cases hp1765 : a2 < 1
  · skip
    replace h := ite_pos' h hp1765
    replace ha := ha.bool 12 KR (decide_eq_true hp1765)
    refine stepo ha 13 KR ?_; clear ha a; intro a ha
    refine stepo ha 14 KR ?_; clear ha a; intro a ha
    refine stepp ha 15 (.bool true) KR KR ?_; clear ha a; intro a ha
    refine stepp ha 16 (.bool true) KR KR ?_; clear ha a; intro a ha
    refine stepo ha 17 KR ?_; clear ha a; intro a ha
    refine stepo ha 18 KR ?_; clear ha a; intro a ha
    refine stepo ha 19 KR ?_; clear ha a; intro a ha
    refine stepo ha 20 KR ?_; clear ha a; intro a ha
    refine stepo ha 21 KR ?_; clear ha a; intro a ha
    refine stepp ha 22 (.bool true) KR KR ?_; clear ha a; intro a ha
    refine endl ?_
    refine thenN (hK1764 _ _ ?_); clear hK1764
    refine condT ha KR KR (t := true) (rfl) ?_
    refine wp_seq_k (fun K1771 hK1772 => ?_)
    refine wp_region_lit ?_
    refine stepp ha 6 (.int .u64 0) KR KR ?_; clear ha a; intro a ha
    refine stepp ha 7 (.bool false) KR KR ?_; clear ha a; intro a ha
    refine endl ?_
    refine thenN (hK1772 _ _ ?_); clear hK1772
    refine wp_ret ?_
    refine thenR ?_
    obtain rfl := Option.some.inj h
    exact finv ha _ _ rfl (.tmp (v := .int .u64 0) KR (.tmp (v := .bool false) KR .nil)) (.tuple #[.int .u64 0, .bool false]) rfl ⟨rfl, HW.pick [] [] (by decide) (by decide) rfl KR⟩
  · skip
    replace h := ite_neg' h hp1765
    replace ha := ha.bool 12 KR (decide_eq_false hp1765)
    refine stepp ha 13 (.int .i64 a2) KR KR ?_; clear ha a; intro a ha
    refine stepp ha 14 (.bool (decide (a2 > 8))) KR KR ?_; clear ha a; intro a ha
    refine stepp ha 15 (.bool (decide (a2 > 8))) KR KR ?_; clear ha a; intro a ha
    refine stepp ha 16 (.bool (decide (a2 > 8))) KR KR ?_; clear ha a; intro a ha
    by_cases hp1766 : a2 > 8
    · skip
      replace h := ite_pos' h hp1766
      replace ha := ha.bool 16 KR (decide_eq_true hp1766)
      refine stepo ha 17 KR ?_; clear ha a; intro a ha
      refine stepo ha 18 KR ?_; clear ha a; intro a ha
      refine stepo ha 19 KR ?_; clear ha a; intro a ha
      refine stepo ha 20 KR ?_; clear ha a; intro a ha
      refine stepo ha 21 KR ?_; clear ha a; intro a ha
      refine stepp ha 22 (.bool true) KR KR ?_; clear ha a; intro a ha
      refine endl ?_
      refine thenN (hK1764 _ _ ?_); clear hK1764
      refine condT ha KR KR (t := true) (rfl) ?_
      refine wp_seq_k (fun K1773 hK1774 => ?_)
      refine wp_region_lit ?_
      refine stepp ha 6 (.int .u64 0) KR KR ?_; clear ha a; intro a ha
      refine stepp ha 7 (.bool false) KR KR ?_; clear ha a; intro a ha
      refine endl ?_
      refine thenN (hK1774 _ _ ?_); clear hK1774
      refine wp_ret ?_
      refine thenR ?_
      obtain rfl := Option.some.inj h
      exact finv ha _ _ rfl (.tmp (v := .int .u64 0) KR (.tmp (v := .bool false) KR .nil)) (.tuple #[.int .u64 0, .bool false]) rfl ⟨rfl, HW.pick [] [] (by decide) (by decide) rfl KR⟩
    · skip
      replace h := ite_neg' h hp1766
      replace ha := ha.bool 16 KR (decide_eq_false hp1766)
      refine stepp ha 17 (.string a0) KR KR ?_; clear ha a; intro a ha
      refine stepp ha 18 (.int .i64 a1) KR KR ?_; clear ha a; intro a ha
      refine stepp ha 19 (.int .i64 a2) KR KR ?_; clear ha a; intro a ha
      obtain ⟨t1767, ht1768, h_⟩ := bind_some' h; clear h; have h := h_; clear h_
      refine stepc ha 20 KR KR (headgateref01_there.calls a0 a1 a2 t1767 _ ht1768) ?_; clear ha a; rintro e W1769 ⟨rfl, HX1770⟩
      refine ⟨_, rfl, ?_⟩; intro a ha; replace HW := HW.callw HX1770; clear HX1770
      refine stepp ha 21 (.bool (!t1767)) KR KR ?_; clear ha a; intro a ha
      refine stepp ha 22 (.bool (!t1767)) KR KR ?_; clear ha a; intro a ha
      refine endl ?_
      refine thenN (hK1764 _ _ ?_); clear hK1764
      by_cases hp1775 : t1767 = true
      · skip
        replace h := ite_pos' h hp1775
        refine condF ha KR KR (t := (!t1767)) (not_f (hp1775)) ?_
        refine wp_skip ?_
        refine thenN (hK1762 _ _ ?_); clear hK1762
        refine wp_seq_k (fun K1778 hK1779 => ?_)
        refine wp_region_lit ?_
        refine stepp ha 8 (.int .u64 0) KR KR ?_; clear ha a; intro a ha
        refine endl ?_
        refine thenN (hK1779 _ _ ?_); clear hK1779
        refine wp_seq_k (fun K1780 hK1781 => ?_)
        refine wp_seq_k (fun K1782 hK1783 => ?_)
        refine wp_region_lit ?_
        refine stepp ha 23 (.int .i64 a2) KR KR ?_; clear ha a; intro a ha
        refine stepp ha 24 (.int .i64 (IntKind.wrap .i64 (a2 - 1))) KR KR ?_; clear ha a; intro a ha
        refine stepp ha 9 (.int .i64 (IntKind.wrap .i64 (a2 - 1))) KR KR ?_; clear ha a; intro a ha
        refine endl ?_
        refine thenN (hK1783 _ _ ?_); clear hK1783
        refine wp_block ?_
        refine loopk (fun k => fun a W1809 => ∃ (x1807 : Int), ∃ (x1808 : Int), headgateref01_Little.l0 K a0 a1 k x1807 x1808 = some r ∧ Has 39 [(0, .string a0), (1, .int .i64 a1), (8, .int .u64 x1807), (9, .int .i64 x1808)] a ∧ Wd w W1809 [] []) K ?_ ?_
        · skip
          exact ⟨0, IntKind.wrap .i64 (a2 - 1), h, ha.sub (subs_cons KR (subs_cons KR (subs_cons KR (subs_cons KR (subs_nil _))))), HW.pick [] [] (by decide) (by decide) KR KR⟩
        · skip
          intro k a W1809 hI
          obtain ⟨x1807, x1808, h, ha, HW⟩ := hI
          cases k with
          | zero => exact (none_some (show none = some r from h)).elim
          | succ k1810 =>
            replace h : headgateref01_Little.b0 K a0 a1 (headgateref01_Little.l0 K a0 a1 k1810) x1807 x1808 = some r := h
            obtain ⟨again1806, hag1811⟩ : ∃ g_, g_ = headgateref01_Little.l0 K a0 a1 k1810 := ⟨_, rfl⟩
            rw [← hag1811] at h
            unfold headgateref01_Little.b0 at h
            refine wp_seq_k (fun K1812 hK1813 => ?_)
            refine wp_seq_k (fun K1814 hK1815 => ?_)
            refine wp_region_lit ?_
            refine stepp ha 25 (.int .i64 x1808) KR KR ?_; clear ha a; intro a ha
            refine stepp ha 26 (.bool (decide (x1808 ≥ 0))) KR KR ?_; clear ha a; intro a ha
            refine endl ?_
            refine thenN (hK1815 _ _ ?_); clear hK1815
            by_cases hp1816 : x1808 ≥ 0
            · skip
              replace h := ite_pos' h hp1816
              refine condT ha KR KR (t := decide (x1808 ≥ 0)) (decide_eq_true hp1816) ?_
              refine wp_skip ?_
              refine thenN (hK1813 _ _ ?_); clear hK1813
              refine wp_seq_k (fun K1817 hK1818 => ?_)
              refine wp_block ?_
              refine wp_region_lit ?_
              refine stepp ha 29 (.int .u64 x1807) KR KR ?_; clear ha a; intro a ha
              refine stepp ha 30 (.int .u64 (IntKind.wrap .u64 (x1807 * 256))) KR KR ?_; clear ha a; intro a ha
              refine stepp ha 31 (.string a0) KR KR ?_; clear ha a; intro a ha
              refine stepp ha 32 (.int .i64 a1) KR KR ?_; clear ha a; intro a ha
              refine stepp ha 33 (.int .i64 x1808) KR KR ?_; clear ha a; intro a ha
              refine stepp ha 34 (.int .i64 (IntKind.wrap .i64 (a1 + x1808))) KR KR ?_; clear ha a; intro a ha
              obtain ⟨hA1819, h_⟩ := asrt_some h; clear h; have h := h_; clear h_
              obtain ⟨hA1820, h_⟩ := asrt_some h; clear h; have h := h_; clear h_
              refine stepsi ha 35 9 (.tmp 31) (.tmp 34) a0 .i64 (IntKind.wrap .i64 (a1 + x1808)) rfl KR KR KR hA1819 (show (IntKind.wrap .i64 (a1 + x1808) : Int) < ((a0).size : Int) from hA1820) KR ?_; clear ha a; intro a ha
              refine stepp ha 36 (.int .u64 (IntKind.wrap .u64 (bt a0 (IntKind.wrap .i64 (a1 + x1808))))) KR KR ?_; clear ha a; intro a ha
              refine stepp ha 37 (.int .u64 (IntKind.wrap .u64 ((IntKind.wrap .u64 (x1807 * 256)) + (IntKind.wrap .u64 (bt a0 (IntKind.wrap .i64 (a1 + x1808))))))) KR KR ?_; clear ha a; intro a ha
              refine stepp ha 8 (.int .u64 (IntKind.wrap .u64 ((IntKind.wrap .u64 (x1807 * 256)) + (IntKind.wrap .u64 (bt a0 (IntKind.wrap .i64 (a1 + x1808))))))) KR KR ?_; clear ha a; intro a ha
              refine endl ?_
              refine blkN ?_
              refine thenN (hK1818 _ _ ?_); clear hK1818
              refine wp_region_lit ?_
              refine stepp ha 27 (.int .i64 x1808) KR KR ?_; clear ha a; intro a ha
              refine stepp ha 28 (.int .i64 (IntKind.wrap .i64 (x1808 - 1))) KR KR ?_; clear ha a; intro a ha
              refine stepp ha 9 (.int .i64 (IntKind.wrap .i64 (x1808 - 1))) KR KR ?_; clear ha a; intro a ha
              refine endl ?_
              exact thenN ⟨k1810, Nat.lt_succ_self k1810, IntKind.wrap .u64 ((IntKind.wrap .u64 (x1807 * 256)) + (IntKind.wrap .u64 (bt a0 (IntKind.wrap .i64 (a1 + x1808))))), IntKind.wrap .i64 (x1808 - 1), (by rw [← hag1811]; exact h), ha.sub (subs_cons KR (subs_cons KR (subs_cons KR (subs_cons KR (subs_nil _))))), HW.pick [] [] (by decide) (by decide) KR KR⟩
            · skip
              replace h := ite_neg' h hp1816
              refine condF ha KR KR (t := decide (x1808 ≥ 0)) (decide_eq_false hp1816) ?_
              refine wp_exit ?_
              refine thenE ?_
              refine thenE ?_
              refine inBlk ?_
              refine thenN (hK1781 _ _ ?_); clear hK1781
              refine wp_seq_k (fun K1821 hK1822 => ?_)
              refine wp_region_lit ?_
              refine stepp ha 38 (.int .u64 x1807) KR KR ?_; clear ha a; intro a ha
              refine stepp ha 6 (.int .u64 x1807) KR KR ?_; clear ha a; intro a ha
              refine stepp ha 7 (.bool true) KR KR ?_; clear ha a; intro a ha
              refine endl ?_
              refine thenN (hK1822 _ _ ?_); clear hK1822
              refine wp_ret ?_
              obtain rfl := Option.some.inj h
              exact finv ha _ _ rfl (.tmp (v := .int .u64 x1807) KR (.tmp (v := .bool true) KR .nil)) (.tuple #[.int .u64 x1807, .bool true]) rfl ⟨rfl, HW.pick [] [] (by decide) (by decide) rfl KR⟩
      · skip
        replace h := ite_neg' h hp1775
        refine condT ha KR KR (t := (!t1767)) (not_t (bool_f hp1775)) ?_
        refine wp_seq_k (fun K1776 hK1777 => ?_)
        refine wp_region_lit ?_
        refine stepp ha 6 (.int .u64 0) KR KR ?_; clear ha a; intro a ha
        refine stepp ha 7 (.bool false) KR KR ?_; clear ha a; intro a ha
        refine endl ?_
        refine thenN (hK1777 _ _ ?_); clear hK1777
        refine wp_ret ?_
        refine thenR ?_
        obtain rfl := Option.some.inj h
        exact finv ha _ _ rfl (.tmp (v := .int .u64 0) KR (.tmp (v := .bool false) KR .nil)) (.tuple #[.int .u64 0, .bool false]) rfl ⟨rfl, HW.pick [] [] (by decide) (by decide) rfl KR⟩
end Go.Proofs.YthjjbkgifelooaaDoor.F
