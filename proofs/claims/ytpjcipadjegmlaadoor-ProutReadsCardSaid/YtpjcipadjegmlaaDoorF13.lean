/- headgate/headgatelaw18.ProutReads$1: plain functions, and that the calls come to what they say. No condition. -/
import Derived.Test.YtpjcipadjegmlaaDoorFT
namespace Go.Proofs.YtpjcipadjegmlaaDoor.F
open Go Go.RowKit Go.Proofs.YtpjcipadjegmlaaDoor.X
set_option linter.unusedVariables false
set_option linter.unusedSimpArgs false
/-! ### headgate/headgatelaw18.ProutReads$1: function 13 -/
def headgatelaw18_ProutReads_1.b0 (K : Nat) (a0 : ByteArray) (a1 : Int) (a2 : Int) (again1291 : Int → Int → Option Int) (x1292 : Int) (x1293 : Int) : Option Int :=
  if x1293 < a2 then (asrt (0 ≤ (IntKind.wrap .i64 (a1 + x1293))) (asrt ((IntKind.wrap .i64 (a1 + x1293)) < (a0.size : Int)) (again1291 (bor .u64 (IntKind.wrap .u64 (x1292 * 256)) (IntKind.wrap .u64 (bt a0 (IntKind.wrap .i64 (a1 + x1293))))) (IntKind.wrap .i64 (x1293 + 1))))) else (some x1292)
def headgatelaw18_ProutReads_1.l0 (K : Nat) (a0 : ByteArray) (a1 : Int) (a2 : Int) : Nat → Int → Int → Option Int
  | 0, _, _ => none
  | k_ + 1, x1292, x1293 => headgatelaw18_ProutReads_1.b0 K a0 a1 a2 (headgatelaw18_ProutReads_1.l0 K a0 a1 a2 k_) x1292 x1293
def headgatelaw18_ProutReads_1.f (K : Nat) (a0 : ByteArray) (a1 : Int) (a2 : Int) : Option Int :=
  headgatelaw18_ProutReads_1.l0 K a0 a1 a2 K 0 0
set_option maxRecDepth 100000 in
set_option maxHeartbeats 4000000 in
theorem headgatelaw18_ProutReads_1.calls (K : Nat) (a0 : ByteArray) (a1 : Int) (a2 : Int)  (r : Int) (w : World)  (h : headgatelaw18_ProutReads_1.f K a0 a1 a2 = some r) :
    Calls Tryd.prog 13 #[.string a0, .int .i64 a1, .int .i64 a2] w (fun e W' => e = .returned (.int .u64 r) ∧ Wd w W' [] [] ) := by
  refine sxstart (n := 24) (l := [(0, .string a0), (1, .int .i64 a1), (2, .int .i64 a2)]) Tryd.func13 rfl rfl (Nat.le_of_ble_eq_true KR) (subsA_cons rfl (subsA_cons rfl (subsA_cons rfl (subsA_nil _)))) ?_
  intro a ha
  have HW := Wd.refl w
  unfold headgatelaw18_ProutReads_1.f at h
  refine wp_seq_k (fun K1261 hK1262 => ?_)
  refine wp_region_lit ?_
  refine stepp ha 6 (.int .u64 0) KR KR ?_; clear ha a; intro a ha
  refine endl ?_
  refine thenN (hK1262 _ _ ?_); clear hK1262
  refine wp_seq_k (fun K1263 hK1264 => ?_)
  refine wp_region_lit ?_
  refine stepp ha 7 (.int .u64 0) KR KR ?_; clear ha a; intro a ha
  refine endl ?_
  refine thenN (hK1264 _ _ ?_); clear hK1264
  refine wp_seq_k (fun K1265 hK1266 => ?_)
  refine wp_seq_k (fun K1267 hK1268 => ?_)
  refine wp_region_lit ?_
  refine stepp ha 8 (.int .i64 0) KR KR ?_; clear ha a; intro a ha
  refine endl ?_
  refine thenN (hK1268 _ _ ?_); clear hK1268
  refine wp_block ?_
  refine loopk (fun k => fun a W1294 => ∃ (x1292 : Int), ∃ (x1293 : Int), headgatelaw18_ProutReads_1.l0 K a0 a1 a2 k x1292 x1293 = some r ∧ Has 24 [(0, .string a0), (1, .int .i64 a1), (2, .int .i64 a2), (7, .int .u64 x1292), (8, .int .i64 x1293)] a ∧ Wd w W1294 [] []) K ?_ ?_
  · skip
    exact ⟨0, 0, h, ha.sub (subs_cons KR (subs_cons KR (subs_cons KR (subs_cons KR (subs_cons KR (subs_nil _)))))), HW.pick [] [] (by decide) (by decide) KR KR⟩
  · skip
    intro k a W1294 hI
    obtain ⟨x1292, x1293, h, ha, HW⟩ := hI
    cases k with
    | zero => exact (none_some (show none = some r from h)).elim
    | succ k1295 =>
      replace h : headgatelaw18_ProutReads_1.b0 K a0 a1 a2 (headgatelaw18_ProutReads_1.l0 K a0 a1 a2 k1295) x1292 x1293 = some r := h
      obtain ⟨again1291, hag1296⟩ : ∃ g_, g_ = headgatelaw18_ProutReads_1.l0 K a0 a1 a2 k1295 := ⟨_, rfl⟩
      rw [← hag1296] at h
      unfold headgatelaw18_ProutReads_1.b0 at h
      refine wp_seq_k (fun K1297 hK1298 => ?_)
      refine wp_seq_k (fun K1299 hK1300 => ?_)
      refine wp_region_lit ?_
      refine stepp ha 9 (.int .i64 x1293) KR KR ?_; clear ha a; intro a ha
      refine stepp ha 10 (.int .i64 a2) KR KR ?_; clear ha a; intro a ha
      refine stepp ha 11 (.bool (decide (x1293 < a2))) KR KR ?_; clear ha a; intro a ha
      refine endl ?_
      refine thenN (hK1300 _ _ ?_); clear hK1300
      by_cases hp1301 : x1293 < a2
      · skip
        replace h := ite_pos' h hp1301
        refine condT ha KR KR (t := decide (x1293 < a2)) (decide_eq_true hp1301) ?_
        refine wp_skip ?_
        refine thenN (hK1298 _ _ ?_); clear hK1298
        refine wp_seq_k (fun K1302 hK1303 => ?_)
        refine wp_block ?_
        refine wp_region_lit ?_
        refine stepp ha 14 (.int .u64 x1292) KR KR ?_; clear ha a; intro a ha
        refine stepp ha 15 (.int .u64 (IntKind.wrap .u64 (x1292 * 256))) KR KR ?_; clear ha a; intro a ha
        refine stepp ha 16 (.string a0) KR KR ?_; clear ha a; intro a ha
        refine stepp ha 17 (.int .i64 a1) KR KR ?_; clear ha a; intro a ha
        refine stepp ha 18 (.int .i64 x1293) KR KR ?_; clear ha a; intro a ha
        refine stepp ha 19 (.int .i64 (IntKind.wrap .i64 (a1 + x1293))) KR KR ?_; clear ha a; intro a ha
        obtain ⟨hA1304, h_⟩ := asrt_some h; clear h; have h := h_; clear h_
        obtain ⟨hA1305, h_⟩ := asrt_some h; clear h; have h := h_; clear h_
        refine stepsi ha 20 9 (.tmp 16) (.tmp 19) a0 .i64 (IntKind.wrap .i64 (a1 + x1293)) rfl KR KR KR hA1304 (show (IntKind.wrap .i64 (a1 + x1293) : Int) < ((a0).size : Int) from hA1305) KR ?_; clear ha a; intro a ha
        refine stepp ha 21 (.int .u64 (IntKind.wrap .u64 (bt a0 (IntKind.wrap .i64 (a1 + x1293))))) KR KR ?_; clear ha a; intro a ha
        refine stepp ha 22 (.int .u64 (bor .u64 (IntKind.wrap .u64 (x1292 * 256)) (IntKind.wrap .u64 (bt a0 (IntKind.wrap .i64 (a1 + x1293)))))) KR KR ?_; clear ha a; intro a ha
        refine stepp ha 7 (.int .u64 (bor .u64 (IntKind.wrap .u64 (x1292 * 256)) (IntKind.wrap .u64 (bt a0 (IntKind.wrap .i64 (a1 + x1293)))))) KR KR ?_; clear ha a; intro a ha
        refine endl ?_
        refine blkN ?_
        refine thenN (hK1303 _ _ ?_); clear hK1303
        refine wp_region_lit ?_
        refine stepp ha 12 (.int .i64 x1293) KR KR ?_; clear ha a; intro a ha
        refine stepp ha 13 (.int .i64 (IntKind.wrap .i64 (x1293 + 1))) KR KR ?_; clear ha a; intro a ha
        refine stepp ha 8 (.int .i64 (IntKind.wrap .i64 (x1293 + 1))) KR KR ?_; clear ha a; intro a ha
        refine endl ?_
        exact thenN ⟨k1295, Nat.lt_succ_self k1295, bor .u64 (IntKind.wrap .u64 (x1292 * 256)) (IntKind.wrap .u64 (bt a0 (IntKind.wrap .i64 (a1 + x1293)))), IntKind.wrap .i64 (x1293 + 1), (by rw [← hag1296]; exact h), ha.sub (subs_cons KR (subs_cons KR (subs_cons KR (subs_cons KR (subs_cons KR (subs_nil _)))))), HW.pick [] [] (by decide) (by decide) KR KR⟩
      · skip
        replace h := ite_neg' h hp1301
        refine condF ha KR KR (t := decide (x1293 < a2)) (decide_eq_false hp1301) ?_
        refine wp_exit ?_
        refine thenE ?_
        refine thenE ?_
        refine inBlk ?_
        refine thenN (hK1266 _ _ ?_); clear hK1266
        refine wp_seq_k (fun K1306 hK1307 => ?_)
        refine wp_region_lit ?_
        refine stepp ha 23 (.int .u64 x1292) KR KR ?_; clear ha a; intro a ha
        refine stepp ha 6 (.int .u64 x1292) KR KR ?_; clear ha a; intro a ha
        refine endl ?_
        refine thenN (hK1307 _ _ ?_); clear hK1307
        refine wp_ret ?_
        obtain rfl := Option.some.inj h
        exact finv ha _ _ rfl (.tmp (v := .int .u64 x1292) KR .nil) (.int .u64 x1292) rfl ⟨rfl, HW.pick [] [] (by decide) (by decide) rfl KR⟩
end Go.Proofs.YtpjcipadjegmlaaDoor.F
