/- headgate/headgateref01.PutLittle, headgate/headgateref02.step, headgate/headgateref02.More, headgate/headgateref02.Sum, headgate/headgateref02.Digest, headgate/headgateref05.Sectors: plain functions, and that the calls come to what they say. No condition. -/
import Derived.Test.YtdcojinnjpihaaaDoorFT
namespace Go.Proofs.YtdcojinnjpihaaaDoor.F
open Go Go.RowKit Go.Proofs.YtdcojinnjpihaaaDoor.X
set_option linter.unusedVariables false
set_option linter.unusedSimpArgs false
/-! ### headgate/headgateref01.PutLittle: function 36 -/
def headgateref01_PutLittle.b0 (K : Nat) (a1 : Int) (again1275 : Int → (List Int) → Int → Option ByteArray) (x1276 : Int) (x1277 : List Int) (x1281 : Int) : Option ByteArray :=
  if x1281 < a1 then (asrt (0 ≤ x1281) (asrt (x1281 < (x1277.length : Int)) (again1275 (IntKind.wrap .u64 (Int.tdiv x1276 256)) (x1277.set (x1281 : Int).toNat (IntKind.wrap .u8 (Int.tmod x1276 256))) (IntKind.wrap .i64 (x1281 + 1))))) else (some (strOfNums x1277))
def headgateref01_PutLittle.l0 (K : Nat) (a1 : Int) : Nat → Int → (List Int) → Int → Option ByteArray
  | 0, _, _, _ => none
  | k_ + 1, x1276, x1277, x1281 => headgateref01_PutLittle.b0 K a1 (headgateref01_PutLittle.l0 K a1 k_) x1276 x1277 x1281
def headgateref01_PutLittle.f (K : Nat) (a0 : Int) (a1 : Int) : Option ByteArray :=
  if a1 < 1 then (some (⟨#[]⟩ : ByteArray)) else (if a1 > 8 then (some (⟨#[]⟩ : ByteArray)) else (asrt (0 ≤ a1) (asrt (a1 ≤ 281474976710656) (headgateref01_PutLittle.l0 K a1 K a0 (List.replicate (a1 : Int).toNat (0 : Int)) 0))))
set_option maxRecDepth 100000 in
set_option maxHeartbeats 4000000 in
theorem headgateref01_PutLittle.calls (K : Nat) (a0 : Int) (a1 : Int)  (r : ByteArray) (w : World)  (h : headgateref01_PutLittle.f K a0 a1 = some r) :
    Calls Tryd.prog 36 #[.int .u64 a0, .int .i64 a1] w (fun e W' => e = .returned (.string r) ∧ Wd w W' [] [] ) := by
  refine sxstart (n := 30) (l := [(0, .int .u64 a0), (1, .int .i64 a1)]) Tryd.func36 rfl rfl (Nat.le_of_ble_eq_true KR) (subsA_cons rfl (subsA_cons rfl (subsA_nil _))) ?_
  intro a ha
  have HW := Wd.refl w
  unfold headgateref01_PutLittle.f at h
  refine wp_seq_k (fun K1217 hK1218 => ?_)
  refine wp_region_lit ?_
  refine stepp ha 4 (.string (⟨#[]⟩ : ByteArray)) KR KR ?_; clear ha a; intro a ha
  refine endl ?_
  refine thenN (hK1218 _ _ ?_); clear hK1218
  refine wp_seq_k (fun K1219 hK1220 => ?_)
  refine wp_seq_k (fun K1221 hK1222 => ?_)
  refine wp_region_lit ?_
  refine stepp ha 7 (.int .i64 a1) KR KR ?_; clear ha a; intro a ha
  refine stepp ha 8 (.bool (decide (a1 < 1))) KR KR ?_; clear ha a; intro a ha
  refine stepp ha 9 (.bool (decide (a1 < 1))) KR KR ?_; clear ha a; intro a ha
  by_cases hp1223 : a1 < 1
  · skip
    replace h := ite_pos' h hp1223
    replace ha := ha.bool 9 KR (decide_eq_true hp1223)
    refine stepo ha 10 KR ?_; clear ha a; intro a ha
    refine stepo ha 11 KR ?_; clear ha a; intro a ha
    refine stepp ha 12 (.bool true) KR KR ?_; clear ha a; intro a ha
    refine endl ?_
    refine thenN (hK1222 _ _ ?_); clear hK1222
    refine condT ha KR KR (t := true) (rfl) ?_
    refine wp_seq_k (fun K1224 hK1225 => ?_)
    refine wp_region_lit ?_
    refine stepp ha 4 (.string (⟨#[]⟩ : ByteArray)) KR KR ?_; clear ha a; intro a ha
    refine endl ?_
    refine thenN (hK1225 _ _ ?_); clear hK1225
    refine wp_ret ?_
    refine thenR ?_
    obtain rfl := Option.some.inj h
    exact finv ha _ _ rfl (.tmp (v := .string (⟨#[]⟩ : ByteArray)) KR .nil) (.string (⟨#[]⟩ : ByteArray)) rfl ⟨rfl, HW.pick [] [] (by decide) (by decide) rfl KR⟩
  · skip
    replace h := ite_neg' h hp1223
    replace ha := ha.bool 9 KR (decide_eq_false hp1223)
    refine stepp ha 10 (.int .i64 a1) KR KR ?_; clear ha a; intro a ha
    refine stepp ha 11 (.bool (decide (a1 > 8))) KR KR ?_; clear ha a; intro a ha
    refine stepp ha 12 (.bool (decide (a1 > 8))) KR KR ?_; clear ha a; intro a ha
    refine endl ?_
    refine thenN (hK1222 _ _ ?_); clear hK1222
    by_cases hp1226 : a1 > 8
    · skip
      replace h := ite_pos' h hp1226
      refine condT ha KR KR (t := decide (a1 > 8)) (decide_eq_true hp1226) ?_
      refine wp_seq_k (fun K1227 hK1228 => ?_)
      refine wp_region_lit ?_
      refine stepp ha 4 (.string (⟨#[]⟩ : ByteArray)) KR KR ?_; clear ha a; intro a ha
      refine endl ?_
      refine thenN (hK1228 _ _ ?_); clear hK1228
      refine wp_ret ?_
      refine thenR ?_
      obtain rfl := Option.some.inj h
      exact finv ha _ _ rfl (.tmp (v := .string (⟨#[]⟩ : ByteArray)) KR .nil) (.string (⟨#[]⟩ : ByteArray)) rfl ⟨rfl, HW.pick [] [] (by decide) (by decide) rfl KR⟩
    · skip
      replace h := ite_neg' h hp1226
      refine condF ha KR KR (t := decide (a1 > 8)) (decide_eq_false hp1226) ?_
      refine wp_skip ?_
      refine thenN (hK1220 _ _ ?_); clear hK1220
      refine wp_seq_k (fun K1229 hK1230 => ?_)
      refine wp_region_lit ?_
      refine stepp ha 13 (.int .i64 a1) KR KR ?_; clear ha a; intro a ha
      obtain ⟨hA1231, h_⟩ := asrt_some h; clear h; have h := h_; clear h_
      obtain ⟨hA1232, h_⟩ := asrt_some h; clear h; have h := h_; clear h_
      refine stepmk (encIK .u8) (0 : Int) ha HW 14 40 5 (.tmp 13) (.tmp 13) .i64 .i64 a1 (.int .u8 0) 1 rfl KR KR KR KR rfl rfl hA1231 (by have := hA1232; omega) (by have := hA1232; omega) KR ?_; clear ha HW a; intro b1233 a W1234 HW ha
      refine stepp ha 5 (.slice (some ⟨b1233, 0, none⟩) (List.replicate (a1 : Int).toNat (0 : Int)).length ((a1 : Int).toNat)) KR KR ?_; clear ha a; intro a ha
      refine endl ?_
      refine thenN (hK1230 _ _ ?_); clear hK1230
      refine wp_seq_k (fun K1236 hK1237 => ?_)
      refine wp_seq_k (fun K1238 hK1239 => ?_)
      refine wp_region_lit ?_
      refine stepp ha 6 (.int .i64 0) KR KR ?_; clear ha a; intro a ha
      refine endl ?_
      refine thenN (hK1239 _ _ ?_); clear hK1239
      refine wp_block ?_
      refine loopk (fun k => fun a W1282 => ∃ (x1276 : Int), ∃ (x1277 : List Int), ∃ A1278, ∃ c1279, ∃ (x1281 : Int), headgateref01_PutLittle.l0 K a1 k x1276 x1277 x1281 = some r ∧ Has 30 [(0, .int .u64 x1276), (1, .int .i64 a1), (5, .slice A1278 x1277.length c1279), (6, .int .i64 x1281)] a ∧ Wd w W1282 [] [⟨5, 1, .slice A1278 x1277.length c1279, x1277.length, encs (encIK .u8) x1277⟩]) K ?_ ?_
      · skip
        exact ⟨a0, List.replicate (a1 : Int).toNat (0 : Int), some ⟨b1233, 0, none⟩, (a1 : Int).toNat, 0, h, ha.sub (subs_cons KR (subs_cons KR (subs_cons KR (subs_cons KR (subs_nil _))))), HW.pick [] [0] (by decide) (by decide) KR KR⟩
      · skip
        intro k a W1282 hI
        obtain ⟨x1276, x1277, A1278, c1279, x1281, h, ha, HW⟩ := hI
        cases k with
        | zero => exact (none_some (show none = some r from h)).elim
        | succ k1283 =>
          replace h : headgateref01_PutLittle.b0 K a1 (headgateref01_PutLittle.l0 K a1 k1283) x1276 x1277 x1281 = some r := h
          obtain ⟨again1275, hag1284⟩ : ∃ g_, g_ = headgateref01_PutLittle.l0 K a1 k1283 := ⟨_, rfl⟩
          rw [← hag1284] at h
          unfold headgateref01_PutLittle.b0 at h
          refine wp_seq_k (fun K1285 hK1286 => ?_)
          refine wp_seq_k (fun K1287 hK1288 => ?_)
          refine wp_region_lit ?_
          refine stepp ha 15 (.int .i64 x1281) KR KR ?_; clear ha a; intro a ha
          refine stepp ha 16 (.int .i64 a1) KR KR ?_; clear ha a; intro a ha
          refine stepp ha 17 (.bool (decide (x1281 < a1))) KR KR ?_; clear ha a; intro a ha
          refine endl ?_
          refine thenN (hK1288 _ _ ?_); clear hK1288
          by_cases hp1289 : x1281 < a1
          · skip
            replace h := ite_pos' h hp1289
            refine condT ha KR KR (t := decide (x1281 < a1)) (decide_eq_true hp1289) ?_
            refine wp_skip ?_
            refine thenN (hK1286 _ _ ?_); clear hK1286
            refine wp_seq_k (fun K1290 hK1291 => ?_)
            refine wp_block ?_
            refine wp_seq_k (fun K1292 hK1293 => ?_)
            refine wp_region_lit ?_
            refine stepp ha 20 (.slice A1278 x1277.length c1279) KR KR ?_; clear ha a; intro a ha
            refine stepp ha 21 (.int .i64 x1281) KR KR ?_; clear ha a; intro a ha
            refine stepp ha 22 (.int .u64 x1276) KR KR ?_; clear ha a; intro a ha
            refine stepp ha 23 (.int .u64 (Int.tmod x1276 256)) KR KR ?_; clear ha a; intro a ha
            refine stepp ha 24 (.int .u8 (IntKind.wrap .u8 (Int.tmod x1276 256))) KR KR ?_; clear ha a; intro a ha
            obtain ⟨hA1294, h_⟩ := asrt_some h; clear h; have h := h_; clear h_
            obtain ⟨hA1295, h_⟩ := asrt_some h; clear h; have h := h_; clear h_
            refine stepio (encIK .u8) ha HW 25 0 (sz := 1) (e := 5) (v := .slice A1278 x1277.length c1279) (xs := x1277) KR 40 (.tmp 20) (.tmp 21) .i64 x1281 rfl KR KR KR KR hA1294 (show (x1281 : Int) < ((x1277).length : Int) from hA1295) KR ?_; clear ha a; intro b1296 a hb1297 ha
            refine stepos (encIK .u8) (0 : Int) ha HW 0 (sz := 1) (e := 5) (fun _ => rfl) (v := .slice A1278 x1277.length c1279) (xs := x1277) KR hb1297 x1281 hA1294 (show (x1281 : Int) < ((x1277).length : Int) from hA1295) 5 0 (.tmp 25) (.tmp 24) (.int .u8 (IntKind.wrap .u8 (Int.tmod x1276 256))) (IntKind.wrap .u8 (Int.tmod x1276 256)) rfl KR KR KR KR KR KR KR (.slice A1278 (x1277.set (x1281 : Int).toNat (IntKind.wrap .u8 (Int.tmod x1276 256))).length c1279) (by rw [List.length_set]) ?_; clear ha HW a; intro a W1298 HW ha
            replace ha := ha.turn 5 (v := .slice A1278 (x1277.set (x1281 : Int).toNat (IntKind.wrap .u8 (Int.tmod x1276 256))).length c1279) KR (by rw [List.length_set])
            replace ha := ha.turn 20 (v := .slice A1278 (x1277.set (x1281 : Int).toNat (IntKind.wrap .u8 (Int.tmod x1276 256))).length c1279) KR (by rw [List.length_set])
            replace HW : Wd w W1298 [] [⟨5, 1, .slice A1278 (x1277.set (x1281 : Int).toNat (IntKind.wrap .u8 (Int.tmod x1276 256))).length c1279, (x1277.set (x1281 : Int).toNat (IntKind.wrap .u8 (Int.tmod x1276 256))).length, encs (encIK .u8) (x1277.set (x1281 : Int).toNat (IntKind.wrap .u8 (Int.tmod x1276 256)))⟩] := HW
            refine endl ?_
            refine thenN (hK1293 _ _ ?_); clear hK1293
            refine wp_region_lit ?_
            refine stepp ha 26 (.int .u64 x1276) KR KR ?_; clear ha a; intro a ha
            refine stepp ha 27 (.int .u64 (IntKind.wrap .u64 (Int.tdiv x1276 256))) KR KR ?_; clear ha a; intro a ha
            refine stepp ha 0 (.int .u64 (IntKind.wrap .u64 (Int.tdiv x1276 256))) KR KR ?_; clear ha a; intro a ha
            refine endl ?_
            refine blkN ?_
            refine thenN (hK1291 _ _ ?_); clear hK1291
            refine wp_region_lit ?_
            refine stepp ha 18 (.int .i64 x1281) KR KR ?_; clear ha a; intro a ha
            refine stepp ha 19 (.int .i64 (IntKind.wrap .i64 (x1281 + 1))) KR KR ?_; clear ha a; intro a ha
            refine stepp ha 6 (.int .i64 (IntKind.wrap .i64 (x1281 + 1))) KR KR ?_; clear ha a; intro a ha
            refine endl ?_
            exact thenN ⟨k1283, Nat.lt_succ_self k1283, IntKind.wrap .u64 (Int.tdiv x1276 256), x1277.set (x1281 : Int).toNat (IntKind.wrap .u8 (Int.tmod x1276 256)), A1278, c1279, IntKind.wrap .i64 (x1281 + 1), (by rw [← hag1284]; exact h), ha.sub (subs_cons KR (subs_cons KR (subs_cons KR (subs_cons KR (subs_nil _))))), HW.pick [] [0] (by decide) (by decide) KR KR⟩
          · skip
            replace h := ite_neg' h hp1289
            refine condF ha KR KR (t := decide (x1281 < a1)) (decide_eq_false hp1289) ?_
            refine wp_exit ?_
            refine thenE ?_
            refine thenE ?_
            refine inBlk ?_
            refine thenN (hK1237 _ _ ?_); clear hK1237
            refine wp_seq_k (fun K1299 hK1300 => ?_)
            refine wp_region_lit ?_
            refine stepp ha 28 (.slice A1278 x1277.length c1279) KR KR ?_; clear ha a; intro a ha
            refine stepbt ha 29 40 9 5 (.tmp 28) (v := .slice A1278 x1277.length c1279) (xs := x1277) (HW.rdo (i := 0) (q := ⟨5, 1, .slice A1278 x1277.length c1279, x1277.length, encs (encIK .u8) x1277⟩) KR) rfl KR KR KR KR KR ?_; clear ha a; intro a ha
            refine stepp ha 4 (.string (strOfNums x1277)) KR KR ?_; clear ha a; intro a ha
            refine endl ?_
            refine thenN (hK1300 _ _ ?_); clear hK1300
            refine wp_ret ?_
            obtain rfl := Option.some.inj h
            exact finv ha _ _ rfl (.tmp (v := .string (strOfNums x1277)) KR .nil) (.string (strOfNums x1277)) rfl ⟨rfl, HW.pick [] [] (by decide) (by decide) rfl KR⟩
/-! ### headgate/headgateref02.step: function 57 -/
def headgateref02_step.b0 (K : Nat) (again1332 : Int → Int → Option Int) (x1333 : Int) (x1334 : Int) : Option Int :=
  if x1334 < 8 then (if (Int.tmod x1333 2) = 1 then (again1332 (bxor .u32 (IntKind.wrap .u32 (Int.tdiv x1333 2)) 2197175160) (IntKind.wrap .i64 (x1334 + 1))) else (again1332 (IntKind.wrap .u32 (Int.tdiv x1333 2)) (IntKind.wrap .i64 (x1334 + 1)))) else (some x1333)
def headgateref02_step.l0 (K : Nat)  : Nat → Int → Int → Option Int
  | 0, _, _ => none
  | k_ + 1, x1333, x1334 => headgateref02_step.b0 K  (headgateref02_step.l0 K  k_) x1333 x1334
def headgateref02_step.f (K : Nat) (a0 : Int) (a1 : Int) : Option Int :=
  headgateref02_step.l0 K  K (bxor .u32 a0 (IntKind.wrap .u32 a1)) 0
set_option maxRecDepth 100000 in
set_option maxHeartbeats 4000000 in
theorem headgateref02_step.calls (K : Nat) (a0 : Int) (a1 : Int)  (r : Int) (w : World)  (h : headgateref02_step.f K a0 a1 = some r) :
    Calls Tryd.prog 57 #[.int .u32 a0, .int .u8 a1] w (fun e W' => e = .returned (.int .u32 r) ∧ Wd w W' [] [] ) := by
  refine sxstart (n := 23) (l := [(0, .int .u32 a0), (1, .int .u8 a1)]) Tryd.func57 rfl rfl (Nat.le_of_ble_eq_true KR) (subsA_cons rfl (subsA_cons rfl (subsA_nil _))) ?_
  intro a ha
  have HW := Wd.refl w
  unfold headgateref02_step.f at h
  refine wp_seq_k (fun K1301 hK1302 => ?_)
  refine wp_region_lit ?_
  refine stepp ha 4 (.int .u32 0) KR KR ?_; clear ha a; intro a ha
  refine endl ?_
  refine thenN (hK1302 _ _ ?_); clear hK1302
  refine wp_seq_k (fun K1303 hK1304 => ?_)
  refine wp_region_lit ?_
  refine stepp ha 6 (.int .u32 a0) KR KR ?_; clear ha a; intro a ha
  refine stepp ha 7 (.int .u8 a1) KR KR ?_; clear ha a; intro a ha
  refine stepp ha 8 (.int .u32 (IntKind.wrap .u32 a1)) KR KR ?_; clear ha a; intro a ha
  refine stepp ha 9 (.int .u32 (bxor .u32 a0 (IntKind.wrap .u32 a1))) KR KR ?_; clear ha a; intro a ha
  refine stepp ha 0 (.int .u32 (bxor .u32 a0 (IntKind.wrap .u32 a1))) KR KR ?_; clear ha a; intro a ha
  refine endl ?_
  refine thenN (hK1304 _ _ ?_); clear hK1304
  refine wp_seq_k (fun K1305 hK1306 => ?_)
  refine wp_seq_k (fun K1307 hK1308 => ?_)
  refine wp_region_lit ?_
  refine stepp ha 5 (.int .i64 0) KR KR ?_; clear ha a; intro a ha
  refine endl ?_
  refine thenN (hK1308 _ _ ?_); clear hK1308
  refine wp_block ?_
  refine loopk (fun k => fun a W1335 => ∃ (x1333 : Int), ∃ (x1334 : Int), headgateref02_step.l0 K  k x1333 x1334 = some r ∧ Has 23 [(0, .int .u32 x1333), (5, .int .i64 x1334)] a ∧ Wd w W1335 [] []) K ?_ ?_
  · skip
    exact ⟨bxor .u32 a0 (IntKind.wrap .u32 a1), 0, h, ha.sub (subs_cons KR (subs_cons KR (subs_nil _))), HW.pick [] [] (by decide) (by decide) KR KR⟩
  · skip
    intro k a W1335 hI
    obtain ⟨x1333, x1334, h, ha, HW⟩ := hI
    cases k with
    | zero => exact (none_some (show none = some r from h)).elim
    | succ k1336 =>
      replace h : headgateref02_step.b0 K  (headgateref02_step.l0 K  k1336) x1333 x1334 = some r := h
      obtain ⟨again1332, hag1337⟩ : ∃ g_, g_ = headgateref02_step.l0 K  k1336 := ⟨_, rfl⟩
      rw [← hag1337] at h
      unfold headgateref02_step.b0 at h
      refine wp_seq_k (fun K1338 hK1339 => ?_)
      refine wp_seq_k (fun K1340 hK1341 => ?_)
      refine wp_region_lit ?_
      refine stepp ha 10 (.int .i64 x1334) KR KR ?_; clear ha a; intro a ha
      refine stepp ha 11 (.bool (decide (x1334 < 8))) KR KR ?_; clear ha a; intro a ha
      refine endl ?_
      refine thenN (hK1341 _ _ ?_); clear hK1341
      by_cases hp1342 : x1334 < 8
      · skip
        replace h := ite_pos' h hp1342
        refine condT ha KR KR (t := decide (x1334 < 8)) (decide_eq_true hp1342) ?_
        refine wp_skip ?_
        refine thenN (hK1339 _ _ ?_); clear hK1339
        refine wp_seq_k (fun K1343 hK1344 => ?_)
        refine wp_block ?_
        refine wp_seq_k (fun K1345 hK1346 => ?_)
        refine wp_region_lit ?_
        refine stepp ha 14 (.int .u32 x1333) KR KR ?_; clear ha a; intro a ha
        refine stepp ha 15 (.int .u32 (Int.tmod x1333 2)) KR KR ?_; clear ha a; intro a ha
        refine stepp ha 16 (.bool ((Int.tmod x1333 2) == 1)) KR KR ?_; clear ha a; intro a ha
        refine endl ?_
        refine thenN (hK1346 _ _ ?_); clear hK1346
        by_cases hp1347 : (Int.tmod x1333 2) = 1
        · skip
          replace h := ite_pos' h hp1347
          refine condT ha KR KR (t := ((Int.tmod x1333 2) == 1)) (ieq_t hp1347) ?_
          refine wp_region_lit ?_
          refine stepp ha 17 (.int .u32 x1333) KR KR ?_; clear ha a; intro a ha
          refine stepp ha 18 (.int .u32 (IntKind.wrap .u32 (Int.tdiv x1333 2))) KR KR ?_; clear ha a; intro a ha
          refine stepp ha 19 (.int .u32 (bxor .u32 (IntKind.wrap .u32 (Int.tdiv x1333 2)) 2197175160)) KR KR ?_; clear ha a; intro a ha
          refine stepp ha 0 (.int .u32 (bxor .u32 (IntKind.wrap .u32 (Int.tdiv x1333 2)) 2197175160)) KR KR ?_; clear ha a; intro a ha
          refine endl ?_
          refine blkN ?_
          refine thenN (hK1344 _ _ ?_); clear hK1344
          refine wp_region_lit ?_
          refine stepp ha 12 (.int .i64 x1334) KR KR ?_; clear ha a; intro a ha
          refine stepp ha 13 (.int .i64 (IntKind.wrap .i64 (x1334 + 1))) KR KR ?_; clear ha a; intro a ha
          refine stepp ha 5 (.int .i64 (IntKind.wrap .i64 (x1334 + 1))) KR KR ?_; clear ha a; intro a ha
          refine endl ?_
          exact thenN ⟨k1336, Nat.lt_succ_self k1336, bxor .u32 (IntKind.wrap .u32 (Int.tdiv x1333 2)) 2197175160, IntKind.wrap .i64 (x1334 + 1), (by rw [← hag1337]; exact h), ha.sub (subs_cons KR (subs_cons KR (subs_nil _))), HW.pick [] [] (by decide) (by decide) KR KR⟩
        · skip
          replace h := ite_neg' h hp1347
          refine condF ha KR KR (t := ((Int.tmod x1333 2) == 1)) (ieq_f hp1347) ?_
          refine wp_region_lit ?_
          refine stepp ha 20 (.int .u32 x1333) KR KR ?_; clear ha a; intro a ha
          refine stepp ha 21 (.int .u32 (IntKind.wrap .u32 (Int.tdiv x1333 2))) KR KR ?_; clear ha a; intro a ha
          refine stepp ha 0 (.int .u32 (IntKind.wrap .u32 (Int.tdiv x1333 2))) KR KR ?_; clear ha a; intro a ha
          refine endl ?_
          refine blkN ?_
          refine thenN (hK1344 _ _ ?_); clear hK1344
          refine wp_region_lit ?_
          refine stepp ha 12 (.int .i64 x1334) KR KR ?_; clear ha a; intro a ha
          refine stepp ha 13 (.int .i64 (IntKind.wrap .i64 (x1334 + 1))) KR KR ?_; clear ha a; intro a ha
          refine stepp ha 5 (.int .i64 (IntKind.wrap .i64 (x1334 + 1))) KR KR ?_; clear ha a; intro a ha
          refine endl ?_
          exact thenN ⟨k1336, Nat.lt_succ_self k1336, IntKind.wrap .u32 (Int.tdiv x1333 2), IntKind.wrap .i64 (x1334 + 1), (by rw [← hag1337]; exact h), ha.sub (subs_cons KR (subs_cons KR (subs_nil _))), HW.pick [] [] (by decide) (by decide) KR KR⟩
      · skip
        replace h := ite_neg' h hp1342
        refine condF ha KR KR (t := decide (x1334 < 8)) (decide_eq_false hp1342) ?_
        refine wp_exit ?_
        refine thenE ?_
        refine thenE ?_
        refine inBlk ?_
        refine thenN (hK1306 _ _ ?_); clear hK1306
        refine wp_seq_k (fun K1348 hK1349 => ?_)
        refine wp_region_lit ?_
        refine stepp ha 22 (.int .u32 x1333) KR KR ?_; clear ha a; intro a ha
        refine stepp ha 4 (.int .u32 x1333) KR KR ?_; clear ha a; intro a ha
        refine endl ?_
        refine thenN (hK1349 _ _ ?_); clear hK1349
        refine wp_ret ?_
        obtain rfl := Option.some.inj h
        exact finv ha _ _ rfl (.tmp (v := .int .u32 x1333) KR .nil) (.int .u32 x1333) rfl ⟨rfl, HW.pick [] [] (by decide) (by decide) rfl KR⟩
/-! ### headgate/headgateref02.More: function 47 -/
def headgateref02_More.b0 (K : Nat) (a1 : ByteArray) (again1386 : Int → Int → Option Int) (x1387 : Int) (x1388 : Int) : Option Int :=
  if x1388 < (a1.size : Int) then (asrt (0 ≤ x1388) ((headgateref02_step.f K x1387 (bt a1 x1388)).bind fun t1400 => (again1386 t1400 (IntKind.wrap .i64 (x1388 + 1))))) else (some (bxor .u32 4294967295 x1387))
def headgateref02_More.l0 (K : Nat) (a1 : ByteArray) : Nat → Int → Int → Option Int
  | 0, _, _ => none
  | k_ + 1, x1387, x1388 => headgateref02_More.b0 K a1 (headgateref02_More.l0 K a1 k_) x1387 x1388
def headgateref02_More.f (K : Nat) (a0 : Int) (a1 : ByteArray) : Option Int :=
  headgateref02_More.l0 K a1 K (bxor .u32 4294967295 a0) 0
set_option maxRecDepth 100000 in
set_option maxHeartbeats 4000000 in
theorem headgateref02_More.calls (K : Nat) (a0 : Int) (a1 : ByteArray)  (r : Int) (w : World)  (h : headgateref02_More.f K a0 a1 = some r) :
    Calls Tryd.prog 47 #[.int .u32 a0, .string a1] w (fun e W' => e = .returned (.int .u32 r) ∧ Wd w W' [] [] ) := by
  refine sxstart (n := 21) (l := [(0, .int .u32 a0), (1, .string a1)]) Tryd.func47 rfl rfl (Nat.le_of_ble_eq_true KR) (subsA_cons rfl (subsA_cons rfl (subsA_nil _))) ?_
  intro a ha
  have HW := Wd.refl w
  unfold headgateref02_More.f at h
  refine wp_seq_k (fun K1350 hK1351 => ?_)
  refine wp_region_lit ?_
  refine stepp ha 4 (.int .u32 0) KR KR ?_; clear ha a; intro a ha
  refine endl ?_
  refine thenN (hK1351 _ _ ?_); clear hK1351
  refine wp_seq_k (fun K1352 hK1353 => ?_)
  refine wp_region_lit ?_
  refine stepp ha 6 (.int .u32 a0) KR KR ?_; clear ha a; intro a ha
  refine stepp ha 7 (.int .u32 (bxor .u32 4294967295 a0)) KR KR ?_; clear ha a; intro a ha
  refine stepp ha 0 (.int .u32 (bxor .u32 4294967295 a0)) KR KR ?_; clear ha a; intro a ha
  refine endl ?_
  refine thenN (hK1353 _ _ ?_); clear hK1353
  refine wp_seq_k (fun K1354 hK1355 => ?_)
  refine wp_seq_k (fun K1356 hK1357 => ?_)
  refine wp_region_lit ?_
  refine stepp ha 5 (.int .i64 0) KR KR ?_; clear ha a; intro a ha
  refine endl ?_
  refine thenN (hK1357 _ _ ?_); clear hK1357
  refine wp_block ?_
  refine loopk (fun k => fun a W1389 => ∃ (x1387 : Int), ∃ (x1388 : Int), headgateref02_More.l0 K a1 k x1387 x1388 = some r ∧ Has 21 [(0, .int .u32 x1387), (1, .string a1), (5, .int .i64 x1388)] a ∧ Wd w W1389 [] []) K ?_ ?_
  · skip
    exact ⟨bxor .u32 4294967295 a0, 0, h, ha.sub (subs_cons KR (subs_cons KR (subs_cons KR (subs_nil _)))), HW.pick [] [] (by decide) (by decide) KR KR⟩
  · skip
    intro k a W1389 hI
    obtain ⟨x1387, x1388, h, ha, HW⟩ := hI
    cases k with
    | zero => exact (none_some (show none = some r from h)).elim
    | succ k1390 =>
      replace h : headgateref02_More.b0 K a1 (headgateref02_More.l0 K a1 k1390) x1387 x1388 = some r := h
      obtain ⟨again1386, hag1391⟩ : ∃ g_, g_ = headgateref02_More.l0 K a1 k1390 := ⟨_, rfl⟩
      rw [← hag1391] at h
      unfold headgateref02_More.b0 at h
      refine wp_seq_k (fun K1392 hK1393 => ?_)
      refine wp_seq_k (fun K1394 hK1395 => ?_)
      refine wp_region_lit ?_
      refine stepp ha 8 (.int .i64 x1388) KR KR ?_; clear ha a; intro a ha
      refine stepp ha 9 (.string a1) KR KR ?_; clear ha a; intro a ha
      refine stepp ha 10 (.int .i64 (a1.size : Int)) KR KR ?_; clear ha a; intro a ha
      refine stepp ha 11 (.bool (decide (x1388 < (a1.size : Int)))) KR KR ?_; clear ha a; intro a ha
      refine endl ?_
      refine thenN (hK1395 _ _ ?_); clear hK1395
      by_cases hp1396 : x1388 < (a1.size : Int)
      · skip
        replace h := ite_pos' h hp1396
        refine condT ha KR KR (t := decide (x1388 < (a1.size : Int))) (decide_eq_true hp1396) ?_
        refine wp_skip ?_
        refine thenN (hK1393 _ _ ?_); clear hK1393
        refine wp_seq_k (fun K1397 hK1398 => ?_)
        refine wp_block ?_
        refine wp_region_lit ?_
        refine stepp ha 14 (.int .u32 x1387) KR KR ?_; clear ha a; intro a ha
        refine stepp ha 15 (.string a1) KR KR ?_; clear ha a; intro a ha
        refine stepp ha 16 (.int .i64 x1388) KR KR ?_; clear ha a; intro a ha
        obtain ⟨hA1399, h_⟩ := asrt_some h; clear h; have h := h_; clear h_
        refine stepsi ha 17 9 (.tmp 15) (.tmp 16) a1 .i64 x1388 rfl KR KR KR hA1399 (show (x1388 : Int) < ((a1).size : Int) from hp1396) KR ?_; clear ha a; intro a ha
        obtain ⟨t1400, ht1401, h_⟩ := bind_some' h; clear h; have h := h_; clear h_
        refine stepc ha 18 KR KR (headgateref02_step.calls K x1387 (bt a1 x1388) t1400 _ ht1401) ?_; clear ha a; rintro e W1402 ⟨rfl, HX1403⟩
        refine ⟨_, rfl, ?_⟩; intro a ha; replace HW := HW.callw HX1403; clear HX1403
        refine stepp ha 0 (.int .u32 t1400) KR KR ?_; clear ha a; intro a ha
        refine endl ?_
        refine blkN ?_
        refine thenN (hK1398 _ _ ?_); clear hK1398
        refine wp_region_lit ?_
        refine stepp ha 12 (.int .i64 x1388) KR KR ?_; clear ha a; intro a ha
        refine stepp ha 13 (.int .i64 (IntKind.wrap .i64 (x1388 + 1))) KR KR ?_; clear ha a; intro a ha
        refine stepp ha 5 (.int .i64 (IntKind.wrap .i64 (x1388 + 1))) KR KR ?_; clear ha a; intro a ha
        refine endl ?_
        exact thenN ⟨k1390, Nat.lt_succ_self k1390, t1400, IntKind.wrap .i64 (x1388 + 1), (by rw [← hag1391]; exact h), ha.sub (subs_cons KR (subs_cons KR (subs_cons KR (subs_nil _)))), HW.pick [] [] (by decide) (by decide) KR KR⟩
      · skip
        replace h := ite_neg' h hp1396
        refine condF ha KR KR (t := decide (x1388 < (a1.size : Int))) (decide_eq_false hp1396) ?_
        refine wp_exit ?_
        refine thenE ?_
        refine thenE ?_
        refine inBlk ?_
        refine thenN (hK1355 _ _ ?_); clear hK1355
        refine wp_seq_k (fun K1404 hK1405 => ?_)
        refine wp_region_lit ?_
        refine stepp ha 19 (.int .u32 x1387) KR KR ?_; clear ha a; intro a ha
        refine stepp ha 20 (.int .u32 (bxor .u32 4294967295 x1387)) KR KR ?_; clear ha a; intro a ha
        refine stepp ha 4 (.int .u32 (bxor .u32 4294967295 x1387)) KR KR ?_; clear ha a; intro a ha
        refine endl ?_
        refine thenN (hK1405 _ _ ?_); clear hK1405
        refine wp_ret ?_
        obtain rfl := Option.some.inj h
        exact finv ha _ _ rfl (.tmp (v := .int .u32 (bxor .u32 4294967295 x1387)) KR .nil) (.int .u32 (bxor .u32 4294967295 x1387)) rfl ⟨rfl, HW.pick [] [] (by decide) (by decide) rfl KR⟩
/-! ### headgate/headgateref02.Sum: function 37 -/
def headgateref02_Sum.f (K : Nat) (a0 : ByteArray) : Option Int :=
  (headgateref02_More.f K 0 a0).bind fun t1410 => (some t1410)
set_option maxRecDepth 100000 in
set_option maxHeartbeats 4000000 in
theorem headgateref02_Sum.calls (K : Nat) (a0 : ByteArray)  (r : Int) (w : World)  (h : headgateref02_Sum.f K a0 = some r) :
    Calls Tryd.prog 37 #[.string a0] w (fun e W' => e = .returned (.int .u32 r) ∧ Wd w W' [] [] ) := by
  refine sxstart (n := 5) (l := [(0, .string a0)]) Tryd.func37 rfl rfl (Nat.le_of_ble_eq_true KR) (subsA_cons rfl (subsA_nil _)) ?_
  intro a ha
  have HW := Wd.refl w
  unfold headgateref02_Sum.f at h
  refine wp_seq_k (fun K1406 hK1407 => ?_)
  refine wp_region_lit ?_
  refine stepp ha 2 (.int .u32 0) KR KR ?_; clear ha a; intro a ha
  refine endl ?_
  refine thenN (hK1407 _ _ ?_); clear hK1407
  refine wp_seq_k (fun K1408 hK1409 => ?_)
  refine wp_region_lit ?_
  refine stepp ha 3 (.string a0) KR KR ?_; clear ha a; intro a ha
  obtain ⟨t1410, ht1411, h_⟩ := bind_some' h; clear h; have h := h_; clear h_
  refine stepc ha 4 KR KR (headgateref02_More.calls K 0 a0 t1410 _ ht1411) ?_; clear ha a; rintro e W1412 ⟨rfl, HX1413⟩
  refine ⟨_, rfl, ?_⟩; intro a ha; replace HW := HW.callw HX1413; clear HX1413
  refine stepp ha 2 (.int .u32 t1410) KR KR ?_; clear ha a; intro a ha
  refine endl ?_
  refine thenN (hK1409 _ _ ?_); clear hK1409
  refine wp_ret ?_
  obtain rfl := Option.some.inj h
  exact finv ha _ _ rfl (.tmp (v := .int .u32 t1410) KR .nil) (.int .u32 t1410) rfl ⟨rfl, HW.pick [] [] (by decide) (by decide) rfl KR⟩
/-! ### headgate/headgateref02.Digest: function 26 -/
def headgateref02_Digest.f (K : Nat) (a0 : ByteArray) : Option ByteArray :=
  (headgateref02_Sum.f K a0).bind fun t1418 => ((headgateref01_PutLittle.f K (IntKind.wrap .u64 t1418) 4).bind fun t1422 => (some t1422))
set_option maxRecDepth 100000 in
set_option maxHeartbeats 4000000 in
theorem headgateref02_Digest.calls (K : Nat) (a0 : ByteArray)  (r : ByteArray) (w : World)  (h : headgateref02_Digest.f K a0 = some r) :
    Calls Tryd.prog 26 #[.string a0] w (fun e W' => e = .returned (.string r) ∧ Wd w W' [] [] ) := by
  refine sxstart (n := 7) (l := [(0, .string a0)]) Tryd.func26 rfl rfl (Nat.le_of_ble_eq_true KR) (subsA_cons rfl (subsA_nil _)) ?_
  intro a ha
  have HW := Wd.refl w
  unfold headgateref02_Digest.f at h
  refine wp_seq_k (fun K1414 hK1415 => ?_)
  refine wp_region_lit ?_
  refine stepp ha 2 (.string (⟨#[]⟩ : ByteArray)) KR KR ?_; clear ha a; intro a ha
  refine endl ?_
  refine thenN (hK1415 _ _ ?_); clear hK1415
  refine wp_seq_k (fun K1416 hK1417 => ?_)
  refine wp_region_lit ?_
  refine stepp ha 3 (.string a0) KR KR ?_; clear ha a; intro a ha
  obtain ⟨t1418, ht1419, h_⟩ := bind_some' h; clear h; have h := h_; clear h_
  refine stepc ha 4 KR KR (headgateref02_Sum.calls K a0 t1418 _ ht1419) ?_; clear ha a; rintro e W1420 ⟨rfl, HX1421⟩
  refine ⟨_, rfl, ?_⟩; intro a ha; replace HW := HW.callw HX1421; clear HX1421
  refine stepp ha 5 (.int .u64 (IntKind.wrap .u64 t1418)) KR KR ?_; clear ha a; intro a ha
  obtain ⟨t1422, ht1423, h_⟩ := bind_some' h; clear h; have h := h_; clear h_
  refine stepc ha 6 KR KR (headgateref01_PutLittle.calls K (IntKind.wrap .u64 t1418) 4 t1422 _ ht1423) ?_; clear ha a; rintro e W1424 ⟨rfl, HX1425⟩
  refine ⟨_, rfl, ?_⟩; intro a ha; replace HW := HW.callw HX1425; clear HX1425
  refine stepp ha 2 (.string t1422) KR KR ?_; clear ha a; intro a ha
  refine endl ?_
  refine thenN (hK1417 _ _ ?_); clear hK1417
  refine wp_ret ?_
  obtain rfl := Option.some.inj h
  exact finv ha _ _ rfl (.tmp (v := .string t1422) KR .nil) (.string t1422) rfl ⟨rfl, HW.pick [] [] (by decide) (by decide) rfl KR⟩
/-! ### headgate/headgateref05.Sectors: function 13 -/
def headgateref05_Sectors.f (a0 : Int) : Option Int :=
  if a0 < 0 then (some 0) else (if a0 > 65536 then (some 0) else (some (IntKind.wrap .i64 (Int.tdiv (IntKind.wrap .i64 ((IntKind.wrap .i64 ((IntKind.wrap .i64 (20 + a0)) + 4)) + 511)) 512))))
set_option maxRecDepth 100000 in
set_option maxHeartbeats 4000000 in
theorem headgateref05_Sectors.calls (a0 : Int)  (r : Int) (w : World)  (h : headgateref05_Sectors.f a0 = some r) :
    Calls Tryd.prog 13 #[.int .i64 a0] w (fun e W' => e = .returned (.int .i64 r) ∧ Wd w W' [] [] ) := by
  refine sxstart (n := 14) (l := [(0, .int .i64 a0)]) Tryd.func13 rfl rfl (Nat.le_of_ble_eq_true KR) (subsA_cons rfl (subsA_nil _)) ?_
  intro a ha
  have HW := Wd.refl w
  unfold headgateref05_Sectors.f at h
  refine wp_seq_k (fun K1464 hK1465 => ?_)
  refine wp_region_lit ?_
  refine stepp ha 2 (.int .i64 0) KR KR ?_; clear ha a; intro a ha
  refine endl ?_
  refine thenN (hK1465 _ _ ?_); clear hK1465
  refine wp_seq_k (fun K1466 hK1467 => ?_)
  refine wp_seq_k (fun K1468 hK1469 => ?_)
  refine wp_region_lit ?_
  refine stepp ha 3 (.int .i64 a0) KR KR ?_; clear ha a; intro a ha
  refine stepp ha 4 (.bool (decide (a0 < 0))) KR KR ?_; clear ha a; intro a ha
  refine stepp ha 5 (.bool (decide (a0 < 0))) KR KR ?_; clear ha a; intro a ha
  by_cases hp1470 : a0 < 0
  · skip
    replace h := ite_pos' h hp1470
    replace ha := ha.bool 5 KR (decide_eq_true hp1470)
    refine stepo ha 6 KR ?_; clear ha a; intro a ha
    refine stepo ha 7 KR ?_; clear ha a; intro a ha
    refine stepp ha 8 (.bool true) KR KR ?_; clear ha a; intro a ha
    refine endl ?_
    refine thenN (hK1469 _ _ ?_); clear hK1469
    refine condT ha KR KR (t := true) (rfl) ?_
    refine wp_seq_k (fun K1471 hK1472 => ?_)
    refine wp_region_lit ?_
    refine stepp ha 2 (.int .i64 0) KR KR ?_; clear ha a; intro a ha
    refine endl ?_
    refine thenN (hK1472 _ _ ?_); clear hK1472
    refine wp_ret ?_
    refine thenR ?_
    obtain rfl := Option.some.inj h
    exact finv ha _ _ rfl (.tmp (v := .int .i64 0) KR .nil) (.int .i64 0) rfl ⟨rfl, HW.pick [] [] (by decide) (by decide) rfl KR⟩
  · skip
    replace h := ite_neg' h hp1470
    replace ha := ha.bool 5 KR (decide_eq_false hp1470)
    refine stepp ha 6 (.int .i64 a0) KR KR ?_; clear ha a; intro a ha
    refine stepp ha 7 (.bool (decide (a0 > 65536))) KR KR ?_; clear ha a; intro a ha
    refine stepp ha 8 (.bool (decide (a0 > 65536))) KR KR ?_; clear ha a; intro a ha
    refine endl ?_
    refine thenN (hK1469 _ _ ?_); clear hK1469
    by_cases hp1473 : a0 > 65536
    · skip
      replace h := ite_pos' h hp1473
      refine condT ha KR KR (t := decide (a0 > 65536)) (decide_eq_true hp1473) ?_
      refine wp_seq_k (fun K1474 hK1475 => ?_)
      refine wp_region_lit ?_
      refine stepp ha 2 (.int .i64 0) KR KR ?_; clear ha a; intro a ha
      refine endl ?_
      refine thenN (hK1475 _ _ ?_); clear hK1475
      refine wp_ret ?_
      refine thenR ?_
      obtain rfl := Option.some.inj h
      exact finv ha _ _ rfl (.tmp (v := .int .i64 0) KR .nil) (.int .i64 0) rfl ⟨rfl, HW.pick [] [] (by decide) (by decide) rfl KR⟩
    · skip
      replace h := ite_neg' h hp1473
      refine condF ha KR KR (t := decide (a0 > 65536)) (decide_eq_false hp1473) ?_
      refine wp_skip ?_
      refine thenN (hK1467 _ _ ?_); clear hK1467
      refine wp_seq_k (fun K1476 hK1477 => ?_)
      refine wp_region_lit ?_
      refine stepp ha 9 (.int .i64 a0) KR KR ?_; clear ha a; intro a ha
      refine stepp ha 10 (.int .i64 (IntKind.wrap .i64 (20 + a0))) KR KR ?_; clear ha a; intro a ha
      refine stepp ha 11 (.int .i64 (IntKind.wrap .i64 ((IntKind.wrap .i64 (20 + a0)) + 4))) KR KR ?_; clear ha a; intro a ha
      refine stepp ha 12 (.int .i64 (IntKind.wrap .i64 ((IntKind.wrap .i64 ((IntKind.wrap .i64 (20 + a0)) + 4)) + 511))) KR KR ?_; clear ha a; intro a ha
      refine stepp ha 13 (.int .i64 (IntKind.wrap .i64 (Int.tdiv (IntKind.wrap .i64 ((IntKind.wrap .i64 ((IntKind.wrap .i64 (20 + a0)) + 4)) + 511)) 512))) KR KR ?_; clear ha a; intro a ha
      refine stepp ha 2 (.int .i64 (IntKind.wrap .i64 (Int.tdiv (IntKind.wrap .i64 ((IntKind.wrap .i64 ((IntKind.wrap .i64 (20 + a0)) + 4)) + 511)) 512))) KR KR ?_; clear ha a; intro a ha
      refine endl ?_
      refine thenN (hK1477 _ _ ?_); clear hK1477
      refine wp_ret ?_
      obtain rfl := Option.some.inj h
      exact finv ha _ _ rfl (.tmp (v := .int .i64 (IntKind.wrap .i64 (Int.tdiv (IntKind.wrap .i64 ((IntKind.wrap .i64 ((IntKind.wrap .i64 (20 + a0)) + 4)) + 511)) 512))) KR .nil) (.int .i64 (IntKind.wrap .i64 (Int.tdiv (IntKind.wrap .i64 ((IntKind.wrap .i64 ((IntKind.wrap .i64 (20 + a0)) + 4)) + 511)) 512))) rfl ⟨rfl, HW.pick [] [] (by decide) (by decide) rfl KR⟩
end Go.Proofs.YtdcojinnjpihaaaDoor.F
