/- headgate/sqe.Get: a plain function, and that the call comes to what it says. No condition. -/
import Derived.Test.YtceagilmillgfaaDoorFT
import Derived.Test.YtceagilmillgfaaDoorF13
import Derived.Test.YtceagilmillgfaaDoorF43
import Derived.Test.YtceagilmillgfaaDoorF53
namespace Go.Proofs.YtceagilmillgfaaDoor.F
open Go Go.RowKit Go.Proofs.YtceagilmillgfaaDoor.X
set_option linter.unusedVariables false
set_option linter.unusedSimpArgs false
/-! ### headgate/sqe.Get: function 24 -/
def sqe_Get.b0 (K : Nat) (a0 : ByteArray) (t1298 : List Int) (again1383 : Int → Int → Int → Int → Int → Int → Int → Option (T_api_Sqe × Bool × Int)) (x1384 : Int) (x1385 : Int) (x1386 : Int) (x1387 : Int) (x1388 : Int) (x1389 : Int) (x1390 : Int) : Option (T_api_Sqe × Bool × Int) :=
  if x1384 < 6 then (asrt (0 ≤ (IntKind.wrap .i64 (5 + x1384))) (asrt ((IntKind.wrap .i64 (5 + x1384)) < (t1298.length : Int)) (asrt (0 ≤ x1384) (again1383 (IntKind.wrap .i64 (x1384 + 1)) (rdL 0 (([x1385, x1386, x1387, x1388, x1389, x1390] : List Int).set (x1384 : Int).toNat (IntKind.wrap .u32 (rdL (0 : Int) t1298 (IntKind.wrap .i64 (5 + x1384))))) 0) (rdL 0 (([x1385, x1386, x1387, x1388, x1389, x1390] : List Int).set (x1384 : Int).toNat (IntKind.wrap .u32 (rdL (0 : Int) t1298 (IntKind.wrap .i64 (5 + x1384))))) 1) (rdL 0 (([x1385, x1386, x1387, x1388, x1389, x1390] : List Int).set (x1384 : Int).toNat (IntKind.wrap .u32 (rdL (0 : Int) t1298 (IntKind.wrap .i64 (5 + x1384))))) 2) (rdL 0 (([x1385, x1386, x1387, x1388, x1389, x1390] : List Int).set (x1384 : Int).toNat (IntKind.wrap .u32 (rdL (0 : Int) t1298 (IntKind.wrap .i64 (5 + x1384))))) 3) (rdL 0 (([x1385, x1386, x1387, x1388, x1389, x1390] : List Int).set (x1384 : Int).toNat (IntKind.wrap .u32 (rdL (0 : Int) t1298 (IntKind.wrap .i64 (5 + x1384))))) 4) (rdL 0 (([x1385, x1386, x1387, x1388, x1389, x1390] : List Int).set (x1384 : Int).toNat (IntKind.wrap .u32 (rdL (0 : Int) t1298 (IntKind.wrap .i64 (5 + x1384))))) 5))))) else (asrt (39 < (a0.size : Int)) ((sqe_Put.f K (⟨IntKind.wrap .i64 (rdL (0 : Int) t1298 0), IntKind.wrap .i64 (band .u64 (rdL (0 : Int) t1298 1) 63), IntKind.wrap .i64 (rdL (0 : Int) t1298 2), IntKind.wrap .u32 (rdL (0 : Int) t1298 3), IntKind.wrap .i64 (rdL (0 : Int) t1298 4), (⟨x1385, x1386, x1387, x1388, x1389, x1390⟩ : T_arr6_22)⟩ : T_api_Sqe) ((bt a0 39) == 1)).bind fun t1417 => (if t1417.2 = 0 then (if t1417.1 = a0 then (some ((⟨IntKind.wrap .i64 (rdL (0 : Int) t1298 0), IntKind.wrap .i64 (band .u64 (rdL (0 : Int) t1298 1) 63), IntKind.wrap .i64 (rdL (0 : Int) t1298 2), IntKind.wrap .u32 (rdL (0 : Int) t1298 3), IntKind.wrap .i64 (rdL (0 : Int) t1298 4), (⟨x1385, x1386, x1387, x1388, x1389, x1390⟩ : T_arr6_22)⟩ : T_api_Sqe), ((bt a0 39) == 1), 0)) else (some ((⟨0, 0, 0, 0, 0, (⟨0, 0, 0, 0, 0, 0⟩ : T_arr6_22)⟩ : T_api_Sqe), false, 250))) else (some ((⟨0, 0, 0, 0, 0, (⟨0, 0, 0, 0, 0, 0⟩ : T_arr6_22)⟩ : T_api_Sqe), false, 250)))))
def sqe_Get.l0 (K : Nat) (a0 : ByteArray) (t1298 : List Int) : Nat → Int → Int → Int → Int → Int → Int → Int → Option (T_api_Sqe × Bool × Int)
  | 0, _, _, _, _, _, _, _ => none
  | k_ + 1, x1384, x1385, x1386, x1387, x1388, x1389, x1390 => sqe_Get.b0 K a0 t1298 (sqe_Get.l0 K a0 t1298 k_) x1384 x1385 x1386 x1387 x1388 x1389 x1390
def sqe_Get.f (K : Nat) (a0 : ByteArray) : Option (T_api_Sqe × Bool × Int) :=
  if (a0.size : Int) = 64 then ((sqe_fieldsFor.f K false).bind fun t1291 => ((sqe_get.f K a0 t1291).bind fun t1298 => (asrt (0 < (t1298.length : Int)) (asrt (1 < (t1298.length : Int)) (asrt (2 < (t1298.length : Int)) (asrt (3 < (t1298.length : Int)) (asrt (4 < (t1298.length : Int)) (sqe_Get.l0 K a0 t1298 K 0 0 0 0 0 0 0)))))))) else (some ((⟨0, 0, 0, 0, 0, (⟨0, 0, 0, 0, 0, 0⟩ : T_arr6_22)⟩ : T_api_Sqe), false, 250))
set_option maxRecDepth 100000 in
set_option maxHeartbeats 4000000 in
theorem sqe_Get.calls (K : Nat) (a0 : ByteArray)  (r : T_api_Sqe × Bool × Int) (w : World) (hG1 : CA w 1 0 (encs T_sqe_field.enc G_sqe_endsOf).toArray) (hG2 : CA w 2 0 (encs T_sqe_field.enc G_sqe_fieldsOf).toArray) (h : sqe_Get.f K a0 = some r) :
    Calls Tryd.prog 24 #[.string a0] w (fun e W' => e = .returned (.tuple #[.agg #[.int .i64 r.1.f0, .int .i64 r.1.f1, .int .i64 r.1.f2, .int .u32 r.1.f3, .int .i64 r.1.f4, .int .u32 r.1.f5.f0, .int .u32 r.1.f5.f1, .int .u32 r.1.f5.f2, .int .u32 r.1.f5.f3, .int .u32 r.1.f5.f4, .int .u32 r.1.f5.f5], .bool r.2.1, .int .i64 r.2.2]) ∧ Wd w W' [] [] ) := by
  refine sxstart (n := 70) (l := [(0, .string a0)]) Tryd.func24 rfl rfl (Nat.le_of_ble_eq_true (by kernel_rfl)) (subsA_cons rfl (subsA_nil _)) ?_
  intro a ha
  have HW := Wd.refl w
  unfold sqe_Get.f at h
  refine wp_seq_k (fun K1277 hK1278 => ?_)
  refine wp_region_lit ?_
  refine stepnew ha HW 2 #[.int .i64 0, .int .i64 0, .int .i64 0, .int .u32 0, .int .i64 0, .int .u32 0, .int .u32 0, .int .u32 0, .int .u32 0, .int .u32 0, .int .u32 0] 25 (by kernel_rfl) (by kernel_rfl) ?_; clear ha HW a; intro b1279 a W1280 HW ha
  refine stepp ha 3 (.bool false) (by kernel_rfl) (by kernel_rfl) ?_; clear ha a; intro a ha
  refine stepp ha 4 (.int .i64 0) (by kernel_rfl) (by kernel_rfl) ?_; clear ha a; intro a ha
  refine endl ?_
  refine thenN (hK1278 _ _ ?_); clear hK1278
  refine wp_seq_k (fun K1281 hK1282 => ?_)
  refine wp_seq_k (fun K1283 hK1284 => ?_)
  refine wp_region_lit ?_
  refine stepp ha 9 (.string a0) (by kernel_rfl) (by kernel_rfl) ?_; clear ha a; intro a ha
  refine stepp ha 10 (.int .i64 (a0.size : Int)) (by kernel_rfl) (by kernel_rfl) ?_; clear ha a; intro a ha
  refine stepp ha 11 (.bool ((a0.size : Int) != 64)) (by kernel_rfl) (by kernel_rfl) ?_; clear ha a; intro a ha
  refine endl ?_
  refine thenN (hK1284 _ _ ?_); clear hK1284
  by_cases hp1285 : (a0.size : Int) = 64
  · skip
    replace h := ite_pos' h hp1285
    refine condF ha (by kernel_rfl) (by kernel_rfl) (t := ((a0.size : Int) != 64)) (ineq_f hp1285) ?_
    refine wp_skip ?_
    refine thenN (hK1282 _ _ ?_); clear hK1282
    refine wp_seq_k (fun K1289 hK1290 => ?_)
    refine wp_region_lit ?_
    refine stepp ha 13 (.string a0) (by kernel_rfl) (by kernel_rfl) ?_; clear ha a; intro a ha
    obtain ⟨t1291, ht1292, h_⟩ := bind_some' h; clear h; have h := h_; clear h_
    refine stepc ha 14 (by kernel_rfl) (by kernel_rfl) (sqe_fieldsFor.calls K false t1291 _ (HW.ca0 hG1) (HW.ca0 hG2) ht1292) ?_; clear ha a; rintro e W1296 ⟨A1293, c1294, rfl, HX1297⟩
    refine ⟨_, rfl, ?_⟩; intro a ha; replace HW := HW.callw HX1297; clear HX1297
    obtain ⟨t1298, ht1299, h_⟩ := bind_some' h; clear h; have h := h_; clear h_
    refine stepc ha 15 (by kernel_rfl) (by kernel_rfl) (sqe_get.calls K a0 t1291 A1293 c1294 t1298 _ (HW.rdo (i := 0) (q := ⟨118, 3, .slice A1293 t1291.length c1294, t1291.length, encs T_sqe_field.enc t1291⟩) (by kernel_rfl)) ht1299) ?_; clear ha a; rintro e W1303 ⟨A1300, c1301, rfl, HX1304⟩
    refine ⟨_, rfl, ?_⟩; intro a ha; replace HW := HW.callw HX1304; clear HX1304
    refine stepp ha 5 (.slice A1300 t1298.length c1301) (by kernel_rfl) (by kernel_rfl) ?_; clear ha a; intro a ha
    refine endl ?_
    refine thenN (hK1290 _ _ ?_); clear hK1290
    refine wp_seq_k (fun K1305 hK1306 => ?_)
    obtain ⟨hA1307, h_⟩ := asrt_some h; clear h; have h := h_; clear h_
    obtain ⟨b1309, off1310, hA1311⟩ := Rd.addr (HW.rdo (i := 0) (q := ⟨45, 1, .slice A1300 t1298.length c1301, t1298.length, encs (encI .u64) t1298⟩) (by kernel_rfl)) (by decide) (show (0 : Int) < ((t1298).length : Int) from hA1307)
    obtain ⟨hA1312, h_⟩ := asrt_some h; clear h; have h := h_; clear h_
    obtain ⟨hA1314, h_⟩ := asrt_some h; clear h; have h := h_; clear h_
    obtain ⟨hA1316, h_⟩ := asrt_some h; clear h; have h := h_; clear h_
    obtain ⟨hA1318, h_⟩ := asrt_some h; clear h; have h := h_; clear h_
    refine regionG 22 (by kernel_rfl) (by kernel_rfl) ha HW [.fix (.slice A1300 t1298.length c1301), .fix (.pointer (some ⟨b1309, off1310 + (0 : Int).toNat * 1, none⟩)), .fix (.int .u64 (rdL (0 : Int) t1298 0)), .fix (.int .i64 (IntKind.wrap .i64 (rdL (0 : Int) t1298 0))), .fix (.slice A1300 t1298.length c1301), .fix (.pointer (some ⟨b1309, off1310 + (1 : Int).toNat * 1, none⟩)), .fix (.int .u64 (rdL (0 : Int) t1298 1)), .fix (.int .u64 (band .u64 (rdL (0 : Int) t1298 1) 63)), .fix (.int .i64 (IntKind.wrap .i64 (band .u64 (rdL (0 : Int) t1298 1) 63))), .fix (.slice A1300 t1298.length c1301), .fix (.pointer (some ⟨b1309, off1310 + (2 : Int).toNat * 1, none⟩)), .fix (.int .u64 (rdL (0 : Int) t1298 2)), .fix (.int .i64 (IntKind.wrap .i64 (rdL (0 : Int) t1298 2))), .fix (.slice A1300 t1298.length c1301), .fix (.pointer (some ⟨b1309, off1310 + (3 : Int).toNat * 1, none⟩)), .fix (.int .u64 (rdL (0 : Int) t1298 3)), .fix (.int .u32 (IntKind.wrap .u32 (rdL (0 : Int) t1298 3))), .fix (.slice A1300 t1298.length c1301), .fix (.pointer (some ⟨b1309, off1310 + (4 : Int).toNat * 1, none⟩)), .fix (.int .u64 (rdL (0 : Int) t1298 4)), .fix (.int .i64 (IntKind.wrap .i64 (rdL (0 : Int) t1298 4))), .fix (.agg #[.int .i64 (IntKind.wrap .i64 (rdL (0 : Int) t1298 0)), .int .i64 (IntKind.wrap .i64 (band .u64 (rdL (0 : Int) t1298 1) 63)), .int .i64 (IntKind.wrap .i64 (rdL (0 : Int) t1298 2)), .int .u32 (IntKind.wrap .u32 (rdL (0 : Int) t1298 3)), .int .i64 (IntKind.wrap .i64 (rdL (0 : Int) t1298 4)), .int .u32 0, .int .u32 0, .int .u32 0, .int .u32 0, .int .u32 0, .int .u32 0])] ?_ ?_
    · skip
      refine ⟨?_, ?_, ?_, ?_, ?_, ?_, ?_, ?_, ?_, ?_, ?_, ?_, ?_, ?_, ?_, ?_, ?_, ?_, ?_, ?_, ?_, ?_, trivial⟩
      · skip
        intro a wr hn hd HW hs; have ha := hasNil hn hd
        have ha := ha.add (seeE hs 5 (.slice A1300 t1298.length c1301) (by kernel_rfl) (by kernel_rfl))
        refine yStep ha 16 (by kernel_rfl) ?_; intro l_ ha HK
        refine stepp ha 16 (.slice A1300 t1298.length c1301) (by kernel_rfl) (by kernel_rfl) ?_; intro ax hax; exact HK _ _ _ hax rfl (Below.refl _ _)
      · skip
        intro a wr hn hd HW hs; have ha := hasNil hn hd
        have ha := ha.add (seeF hs 16 0 (.slice A1300 t1298.length c1301) (by kernel_rfl) (by kernel_rfl))
        replace ha := ha.turn 16 (u := .slice A1300 t1298.length c1301) (v := .slice (some ⟨b1309, off1310, none⟩) t1298.length c1301) (by kernel_rfl) (by rw [hA1311])
        refine yStep ha 17 (by kernel_rfl) ?_; intro l_ ha HK
        refine stepif ha 17 (sz := 1) (len := t1298.length) (b := b1309) (off := off1310) (c := c1301) 83 45 (.tmp 16) (.const (.int .i64 0)) .i64 0 rfl (by kernel_rfl) (by kernel_rfl) (by kernel_rfl) (by kernel_rfl) (by decide) (show (0 : Int) < ((t1298).length : Int) from hA1307) (by kernel_rfl) ?_; intro ax hax; exact HK _ _ _ hax rfl (Below.refl _ _)
      · skip
        intro a wr hn hd HW hs; have ha := hasNil hn hd
        have ha := ha.add (seeF hs 17 1 (.pointer (some ⟨b1309, off1310 + (0 : Int).toNat * 1, none⟩)) (by kernel_rfl) (by kernel_rfl))
        refine yStep ha 18 (by kernel_rfl) ?_; intro l_ ha HK
        refine stepl ha 18 (Rd.ca (encI .u64) (0 : Int) (fun _ => rfl) (by have h_ := (HW.rdo (i := 0) (q := ⟨45, 1, .slice A1300 t1298.length c1301, t1298.length, encs (encI .u64) t1298⟩) (by kernel_rfl)); rw [hA1311] at h_; exact h_) (by decide) (show (0 : Int) < ((t1298).length : Int) from hA1307)) 45 0 (.tmp 17) (.int .u64 (rdL (0 : Int) t1298 0)) rfl (by kernel_rfl) (by kernel_rfl) (by kernel_rfl) ?_; intro ax hax; exact HK _ _ _ hax rfl (Below.refl _ _)
      · skip
        intro a wr hn hd HW hs; have ha := hasNil hn hd
        have ha := ha.add (seeF hs 18 2 (.int .u64 (rdL (0 : Int) t1298 0)) (by kernel_rfl) (by kernel_rfl))
        refine yStep ha 19 (by kernel_rfl) ?_; intro l_ ha HK
        refine stepp ha 19 (.int .i64 (IntKind.wrap .i64 (rdL (0 : Int) t1298 0))) (by kernel_rfl) (by kernel_rfl) ?_; intro ax hax; exact HK _ _ _ hax rfl (Below.refl _ _)
      · skip
        intro a wr hn hd HW hs; have ha := hasNil hn hd
        have ha := ha.add (seeE hs 5 (.slice A1300 t1298.length c1301) (by kernel_rfl) (by kernel_rfl))
        refine yStep ha 20 (by kernel_rfl) ?_; intro l_ ha HK
        refine stepp ha 20 (.slice A1300 t1298.length c1301) (by kernel_rfl) (by kernel_rfl) ?_; intro ax hax; exact HK _ _ _ hax rfl (Below.refl _ _)
      · skip
        intro a wr hn hd HW hs; have ha := hasNil hn hd
        have ha := ha.add (seeF hs 20 4 (.slice A1300 t1298.length c1301) (by kernel_rfl) (by kernel_rfl))
        replace ha := ha.turn 20 (u := .slice A1300 t1298.length c1301) (v := .slice (some ⟨b1309, off1310, none⟩) t1298.length c1301) (by kernel_rfl) (by rw [hA1311])
        refine yStep ha 21 (by kernel_rfl) ?_; intro l_ ha HK
        refine stepif ha 21 (sz := 1) (len := t1298.length) (b := b1309) (off := off1310) (c := c1301) 83 45 (.tmp 20) (.const (.int .i64 1)) .i64 1 rfl (by kernel_rfl) (by kernel_rfl) (by kernel_rfl) (by kernel_rfl) (by decide) (show (1 : Int) < ((t1298).length : Int) from hA1312) (by kernel_rfl) ?_; intro ax hax; exact HK _ _ _ hax rfl (Below.refl _ _)
      · skip
        intro a wr hn hd HW hs; have ha := hasNil hn hd
        have ha := ha.add (seeF hs 21 5 (.pointer (some ⟨b1309, off1310 + (1 : Int).toNat * 1, none⟩)) (by kernel_rfl) (by kernel_rfl))
        refine yStep ha 22 (by kernel_rfl) ?_; intro l_ ha HK
        refine stepl ha 22 (Rd.ca (encI .u64) (0 : Int) (fun _ => rfl) (by have h_ := (HW.rdo (i := 0) (q := ⟨45, 1, .slice A1300 t1298.length c1301, t1298.length, encs (encI .u64) t1298⟩) (by kernel_rfl)); rw [hA1311] at h_; exact h_) (by decide) (show (1 : Int) < ((t1298).length : Int) from hA1312)) 45 0 (.tmp 21) (.int .u64 (rdL (0 : Int) t1298 1)) rfl (by kernel_rfl) (by kernel_rfl) (by kernel_rfl) ?_; intro ax hax; exact HK _ _ _ hax rfl (Below.refl _ _)
      · skip
        intro a wr hn hd HW hs; have ha := hasNil hn hd
        have ha := ha.add (seeF hs 22 6 (.int .u64 (rdL (0 : Int) t1298 1)) (by kernel_rfl) (by kernel_rfl))
        refine yStep ha 23 (by kernel_rfl) ?_; intro l_ ha HK
        refine stepp ha 23 (.int .u64 (band .u64 (rdL (0 : Int) t1298 1) 63)) (by kernel_rfl) (by kernel_rfl) ?_; intro ax hax; exact HK _ _ _ hax rfl (Below.refl _ _)
      · skip
        intro a wr hn hd HW hs; have ha := hasNil hn hd
        have ha := ha.add (seeF hs 23 7 (.int .u64 (band .u64 (rdL (0 : Int) t1298 1) 63)) (by kernel_rfl) (by kernel_rfl))
        refine yStep ha 24 (by kernel_rfl) ?_; intro l_ ha HK
        refine stepp ha 24 (.int .i64 (IntKind.wrap .i64 (band .u64 (rdL (0 : Int) t1298 1) 63))) (by kernel_rfl) (by kernel_rfl) ?_; intro ax hax; exact HK _ _ _ hax rfl (Below.refl _ _)
      · skip
        intro a wr hn hd HW hs; have ha := hasNil hn hd
        have ha := ha.add (seeE hs 5 (.slice A1300 t1298.length c1301) (by kernel_rfl) (by kernel_rfl))
        refine yStep ha 25 (by kernel_rfl) ?_; intro l_ ha HK
        refine stepp ha 25 (.slice A1300 t1298.length c1301) (by kernel_rfl) (by kernel_rfl) ?_; intro ax hax; exact HK _ _ _ hax rfl (Below.refl _ _)
      · skip
        intro a wr hn hd HW hs; have ha := hasNil hn hd
        have ha := ha.add (seeF hs 25 9 (.slice A1300 t1298.length c1301) (by kernel_rfl) (by kernel_rfl))
        replace ha := ha.turn 25 (u := .slice A1300 t1298.length c1301) (v := .slice (some ⟨b1309, off1310, none⟩) t1298.length c1301) (by kernel_rfl) (by rw [hA1311])
        refine yStep ha 26 (by kernel_rfl) ?_; intro l_ ha HK
        refine stepif ha 26 (sz := 1) (len := t1298.length) (b := b1309) (off := off1310) (c := c1301) 83 45 (.tmp 25) (.const (.int .i64 2)) .i64 2 rfl (by kernel_rfl) (by kernel_rfl) (by kernel_rfl) (by kernel_rfl) (by decide) (show (2 : Int) < ((t1298).length : Int) from hA1314) (by kernel_rfl) ?_; intro ax hax; exact HK _ _ _ hax rfl (Below.refl _ _)
      · skip
        intro a wr hn hd HW hs; have ha := hasNil hn hd
        have ha := ha.add (seeF hs 26 10 (.pointer (some ⟨b1309, off1310 + (2 : Int).toNat * 1, none⟩)) (by kernel_rfl) (by kernel_rfl))
        refine yStep ha 27 (by kernel_rfl) ?_; intro l_ ha HK
        refine stepl ha 27 (Rd.ca (encI .u64) (0 : Int) (fun _ => rfl) (by have h_ := (HW.rdo (i := 0) (q := ⟨45, 1, .slice A1300 t1298.length c1301, t1298.length, encs (encI .u64) t1298⟩) (by kernel_rfl)); rw [hA1311] at h_; exact h_) (by decide) (show (2 : Int) < ((t1298).length : Int) from hA1314)) 45 0 (.tmp 26) (.int .u64 (rdL (0 : Int) t1298 2)) rfl (by kernel_rfl) (by kernel_rfl) (by kernel_rfl) ?_; intro ax hax; exact HK _ _ _ hax rfl (Below.refl _ _)
      · skip
        intro a wr hn hd HW hs; have ha := hasNil hn hd
        have ha := ha.add (seeF hs 27 11 (.int .u64 (rdL (0 : Int) t1298 2)) (by kernel_rfl) (by kernel_rfl))
        refine yStep ha 28 (by kernel_rfl) ?_; intro l_ ha HK
        refine stepp ha 28 (.int .i64 (IntKind.wrap .i64 (rdL (0 : Int) t1298 2))) (by kernel_rfl) (by kernel_rfl) ?_; intro ax hax; exact HK _ _ _ hax rfl (Below.refl _ _)
      · skip
        intro a wr hn hd HW hs; have ha := hasNil hn hd
        have ha := ha.add (seeE hs 5 (.slice A1300 t1298.length c1301) (by kernel_rfl) (by kernel_rfl))
        refine yStep ha 29 (by kernel_rfl) ?_; intro l_ ha HK
        refine stepp ha 29 (.slice A1300 t1298.length c1301) (by kernel_rfl) (by kernel_rfl) ?_; intro ax hax; exact HK _ _ _ hax rfl (Below.refl _ _)
      · skip
        intro a wr hn hd HW hs; have ha := hasNil hn hd
        have ha := ha.add (seeF hs 29 13 (.slice A1300 t1298.length c1301) (by kernel_rfl) (by kernel_rfl))
        replace ha := ha.turn 29 (u := .slice A1300 t1298.length c1301) (v := .slice (some ⟨b1309, off1310, none⟩) t1298.length c1301) (by kernel_rfl) (by rw [hA1311])
        refine yStep ha 30 (by kernel_rfl) ?_; intro l_ ha HK
        refine stepif ha 30 (sz := 1) (len := t1298.length) (b := b1309) (off := off1310) (c := c1301) 83 45 (.tmp 29) (.const (.int .i64 3)) .i64 3 rfl (by kernel_rfl) (by kernel_rfl) (by kernel_rfl) (by kernel_rfl) (by decide) (show (3 : Int) < ((t1298).length : Int) from hA1316) (by kernel_rfl) ?_; intro ax hax; exact HK _ _ _ hax rfl (Below.refl _ _)
      · skip
        intro a wr hn hd HW hs; have ha := hasNil hn hd
        have ha := ha.add (seeF hs 30 14 (.pointer (some ⟨b1309, off1310 + (3 : Int).toNat * 1, none⟩)) (by kernel_rfl) (by kernel_rfl))
        refine yStep ha 31 (by kernel_rfl) ?_; intro l_ ha HK
        refine stepl ha 31 (Rd.ca (encI .u64) (0 : Int) (fun _ => rfl) (by have h_ := (HW.rdo (i := 0) (q := ⟨45, 1, .slice A1300 t1298.length c1301, t1298.length, encs (encI .u64) t1298⟩) (by kernel_rfl)); rw [hA1311] at h_; exact h_) (by decide) (show (3 : Int) < ((t1298).length : Int) from hA1316)) 45 0 (.tmp 30) (.int .u64 (rdL (0 : Int) t1298 3)) rfl (by kernel_rfl) (by kernel_rfl) (by kernel_rfl) ?_; intro ax hax; exact HK _ _ _ hax rfl (Below.refl _ _)
      · skip
        intro a wr hn hd HW hs; have ha := hasNil hn hd
        have ha := ha.add (seeF hs 31 15 (.int .u64 (rdL (0 : Int) t1298 3)) (by kernel_rfl) (by kernel_rfl))
        refine yStep ha 32 (by kernel_rfl) ?_; intro l_ ha HK
        refine stepp ha 32 (.int .u32 (IntKind.wrap .u32 (rdL (0 : Int) t1298 3))) (by kernel_rfl) (by kernel_rfl) ?_; intro ax hax; exact HK _ _ _ hax rfl (Below.refl _ _)
      · skip
        intro a wr hn hd HW hs; have ha := hasNil hn hd
        have ha := ha.add (seeE hs 5 (.slice A1300 t1298.length c1301) (by kernel_rfl) (by kernel_rfl))
        refine yStep ha 33 (by kernel_rfl) ?_; intro l_ ha HK
        refine stepp ha 33 (.slice A1300 t1298.length c1301) (by kernel_rfl) (by kernel_rfl) ?_; intro ax hax; exact HK _ _ _ hax rfl (Below.refl _ _)
      · skip
        intro a wr hn hd HW hs; have ha := hasNil hn hd
        have ha := ha.add (seeF hs 33 17 (.slice A1300 t1298.length c1301) (by kernel_rfl) (by kernel_rfl))
        replace ha := ha.turn 33 (u := .slice A1300 t1298.length c1301) (v := .slice (some ⟨b1309, off1310, none⟩) t1298.length c1301) (by kernel_rfl) (by rw [hA1311])
        refine yStep ha 34 (by kernel_rfl) ?_; intro l_ ha HK
        refine stepif ha 34 (sz := 1) (len := t1298.length) (b := b1309) (off := off1310) (c := c1301) 83 45 (.tmp 33) (.const (.int .i64 4)) .i64 4 rfl (by kernel_rfl) (by kernel_rfl) (by kernel_rfl) (by kernel_rfl) (by decide) (show (4 : Int) < ((t1298).length : Int) from hA1318) (by kernel_rfl) ?_; intro ax hax; exact HK _ _ _ hax rfl (Below.refl _ _)
      · skip
        intro a wr hn hd HW hs; have ha := hasNil hn hd
        have ha := ha.add (seeF hs 34 18 (.pointer (some ⟨b1309, off1310 + (4 : Int).toNat * 1, none⟩)) (by kernel_rfl) (by kernel_rfl))
        refine yStep ha 35 (by kernel_rfl) ?_; intro l_ ha HK
        refine stepl ha 35 (Rd.ca (encI .u64) (0 : Int) (fun _ => rfl) (by have h_ := (HW.rdo (i := 0) (q := ⟨45, 1, .slice A1300 t1298.length c1301, t1298.length, encs (encI .u64) t1298⟩) (by kernel_rfl)); rw [hA1311] at h_; exact h_) (by decide) (show (4 : Int) < ((t1298).length : Int) from hA1318)) 45 0 (.tmp 34) (.int .u64 (rdL (0 : Int) t1298 4)) rfl (by kernel_rfl) (by kernel_rfl) (by kernel_rfl) ?_; intro ax hax; exact HK _ _ _ hax rfl (Below.refl _ _)
      · skip
        intro a wr hn hd HW hs; have ha := hasNil hn hd
        have ha := ha.add (seeF hs 35 19 (.int .u64 (rdL (0 : Int) t1298 4)) (by kernel_rfl) (by kernel_rfl))
        refine yStep ha 36 (by kernel_rfl) ?_; intro l_ ha HK
        refine stepp ha 36 (.int .i64 (IntKind.wrap .i64 (rdL (0 : Int) t1298 4))) (by kernel_rfl) (by kernel_rfl) ?_; intro ax hax; exact HK _ _ _ hax rfl (Below.refl _ _)
      · skip
        intro a wr hn hd HW hs; have ha := hasNil hn hd
        have ha := ha.add (seeF hs 19 3 (.int .i64 (IntKind.wrap .i64 (rdL (0 : Int) t1298 0))) (by kernel_rfl) (by kernel_rfl))
        have ha := ha.add (seeF hs 24 8 (.int .i64 (IntKind.wrap .i64 (band .u64 (rdL (0 : Int) t1298 1) 63))) (by kernel_rfl) (by kernel_rfl))
        have ha := ha.add (seeF hs 28 12 (.int .i64 (IntKind.wrap .i64 (rdL (0 : Int) t1298 2))) (by kernel_rfl) (by kernel_rfl))
        have ha := ha.add (seeF hs 32 16 (.int .u32 (IntKind.wrap .u32 (rdL (0 : Int) t1298 3))) (by kernel_rfl) (by kernel_rfl))
        have ha := ha.add (seeF hs 36 20 (.int .i64 (IntKind.wrap .i64 (rdL (0 : Int) t1298 4))) (by kernel_rfl) (by kernel_rfl))
        refine yStep ha 37 (by kernel_rfl) ?_; intro l_ ha HK
        refine stepp ha 37 (.agg #[.int .i64 (IntKind.wrap .i64 (rdL (0 : Int) t1298 0)), .int .i64 (IntKind.wrap .i64 (band .u64 (rdL (0 : Int) t1298 1) 63)), .int .i64 (IntKind.wrap .i64 (rdL (0 : Int) t1298 2)), .int .u32 (IntKind.wrap .u32 (rdL (0 : Int) t1298 3)), .int .i64 (IntKind.wrap .i64 (rdL (0 : Int) t1298 4)), .int .u32 0, .int .u32 0, .int .u32 0, .int .u32 0, .int .u32 0, .int .u32 0]) (by kernel_rfl) (by kernel_rfl) ?_; intro ax hax; exact HK _ _ _ hax rfl (Below.refl _ _)
    · skip
      intro a W1320 ha HW he hf
      replace ha := ha.add (he 0 (.string a0) (by kernel_rfl) (by kernel_rfl))
      replace ha := ha.add (he 2 (.pointer (some ⟨b1279, 0, none⟩)) (by kernel_rfl) (by kernel_rfl))
      replace ha := ha.add (he 5 (.slice A1300 t1298.length c1301) (by kernel_rfl) (by kernel_rfl))
      replace ha := ha.add (gotF (m := 22) (j := 21) (d := 37) (v := .agg #[.int .i64 (IntKind.wrap .i64 (rdL (0 : Int) t1298 0)), .int .i64 (IntKind.wrap .i64 (band .u64 (rdL (0 : Int) t1298 1) 63)), .int .i64 (IntKind.wrap .i64 (rdL (0 : Int) t1298 2)), .int .u32 (IntKind.wrap .u32 (rdL (0 : Int) t1298 3)), .int .i64 (IntKind.wrap .i64 (rdL (0 : Int) t1298 4)), .int .u32 0, .int .u32 0, .int .u32 0, .int .u32 0, .int .u32 0, .int .u32 0]) hf (by kernel_rfl) (by kernel_rfl) (by kernel_rfl))
      clear he hf
      refine stepst ha HW 0 (b := b1279) (C := #[.int .i64 0, .int .i64 0, .int .i64 0, .int .u32 0, .int .i64 0, .int .u32 0, .int .u32 0, .int .u32 0, .int .u32 0, .int .u32 0, .int .u32 0]) (T := 25) (by kernel_rfl) 25 0 (.tmp 2) (.tmp 37) (.agg #[.int .i64 (IntKind.wrap .i64 (rdL (0 : Int) t1298 0)), .int .i64 (IntKind.wrap .i64 (band .u64 (rdL (0 : Int) t1298 1) 63)), .int .i64 (IntKind.wrap .i64 (rdL (0 : Int) t1298 2)), .int .u32 (IntKind.wrap .u32 (rdL (0 : Int) t1298 3)), .int .i64 (IntKind.wrap .i64 (rdL (0 : Int) t1298 4)), .int .u32 0, .int .u32 0, .int .u32 0, .int .u32 0, .int .u32 0, .int .u32 0]) #[.int .i64 (IntKind.wrap .i64 (rdL (0 : Int) t1298 0)), .int .i64 (IntKind.wrap .i64 (band .u64 (rdL (0 : Int) t1298 1) 63)), .int .i64 (IntKind.wrap .i64 (rdL (0 : Int) t1298 2)), .int .u32 (IntKind.wrap .u32 (rdL (0 : Int) t1298 3)), .int .i64 (IntKind.wrap .i64 (rdL (0 : Int) t1298 4)), .int .u32 0, .int .u32 0, .int .u32 0, .int .u32 0, .int .u32 0, .int .u32 0] rfl (by kernel_rfl) (by kernel_rfl) (by kernel_rfl) (by kernel_rfl) (by kernel_rfl) (by kernel_rfl) (by kernel_rfl) ?_; clear ha HW a; intro a W1321 HW ha
      refine endl ?_
      refine thenN (hK1306 _ _ ?_); clear hK1306
      refine wp_seq_k (fun K1322 hK1323 => ?_)
      refine wp_seq_k (fun K1324 hK1325 => ?_)
      refine wp_region_lit ?_
      refine stepp ha 38 (.int .i64 0) (by kernel_rfl) (by kernel_rfl) ?_; clear ha a; intro a ha
      refine endl ?_
      refine thenN (hK1325 _ _ ?_); clear hK1325
      refine wp_block ?_
      refine loopk (fun k => fun a W1391 => ∃ (x1384 : Int), ∃ (x1385 : Int), ∃ (x1386 : Int), ∃ (x1387 : Int), ∃ (x1388 : Int), ∃ (x1389 : Int), ∃ (x1390 : Int), sqe_Get.l0 K a0 t1298 k x1384 x1385 x1386 x1387 x1388 x1389 x1390 = some r ∧ Has 70 [(0, .string a0), (2, .pointer (some ⟨b1279, 0, none⟩)), (5, .slice A1300 t1298.length c1301), (38, .int .i64 x1384)] a ∧ Wd w W1391 [(b1279, .cells #[.int .i64 (IntKind.wrap .i64 (rdL (0 : Int) t1298 0)), .int .i64 (IntKind.wrap .i64 (band .u64 (rdL (0 : Int) t1298 1) 63)), .int .i64 (IntKind.wrap .i64 (rdL (0 : Int) t1298 2)), .int .u32 (IntKind.wrap .u32 (rdL (0 : Int) t1298 3)), .int .i64 (IntKind.wrap .i64 (rdL (0 : Int) t1298 4)), .int .u32 x1385, .int .u32 x1386, .int .u32 x1387, .int .u32 x1388, .int .u32 x1389, .int .u32 x1390] 25 (0, 0))] [⟨45, 1, .slice A1300 t1298.length c1301, t1298.length, encs (encI .u64) t1298⟩]) K ?_ ?_
      · skip
        exact ⟨0, 0, 0, 0, 0, 0, 0, h, ha.sub (subs_cons (by kernel_rfl) (subs_cons (by kernel_rfl) (subs_cons (by kernel_rfl) (subs_cons (by kernel_rfl) (subs_nil _))))), HW.pick [0] [0] (by decide) (by decide) (by kernel_rfl) (by kernel_rfl)⟩
      · skip
        intro k a W1391 hI
        obtain ⟨x1384, x1385, x1386, x1387, x1388, x1389, x1390, h, ha, HW⟩ := hI
        cases k with
        | zero => exact (none_some (show none = some r from h)).elim
        | succ k1392 =>
          replace h : sqe_Get.b0 K a0 t1298 (sqe_Get.l0 K a0 t1298 k1392) x1384 x1385 x1386 x1387 x1388 x1389 x1390 = some r := h
          obtain ⟨again1383, hag1393⟩ : ∃ g_, g_ = sqe_Get.l0 K a0 t1298 k1392 := ⟨_, rfl⟩
          rw [← hag1393] at h
          unfold sqe_Get.b0 at h
          refine wp_seq_k (fun K1394 hK1395 => ?_)
          refine wp_region_lit ?_
          refine stepp ha 39 (.bool (decide (x1384 < 6))) (by kernel_rfl) (by kernel_rfl) ?_; clear ha a; intro a ha
          refine endl ?_
          refine thenN (hK1395 _ _ ?_); clear hK1395
          refine wp_seq_k (fun K1396 hK1397 => ?_)
          by_cases hp1398 : x1384 < 6
          · skip
            replace h := ite_pos' h hp1398
            refine condT ha (by kernel_rfl) (by kernel_rfl) (t := decide (x1384 < 6)) (decide_eq_true hp1398) ?_
            refine wp_skip ?_
            refine thenN (hK1397 _ _ ?_); clear hK1397
            refine wp_seq_k (fun K1399 hK1400 => ?_)
            refine wp_block ?_
            refine wp_seq_k (fun K1401 hK1402 => ?_)
            refine wp_region_lit ?_
            refine stepp ha 40 (.int .i64 x1384) (by kernel_rfl) (by kernel_rfl) ?_; clear ha a; intro a ha
            refine stepp ha 6 (.int .i64 x1384) (by kernel_rfl) (by kernel_rfl) ?_; clear ha a; intro a ha
            refine endl ?_
            refine thenN (hK1402 _ _ ?_); clear hK1402
            refine wp_region_lit ?_
            refine stepp ha 41 (.int .i64 x1384) (by kernel_rfl) (by kernel_rfl) ?_; clear ha a; intro a ha
            refine stepp ha 42 (.slice A1300 t1298.length c1301) (by kernel_rfl) (by kernel_rfl) ?_; clear ha a; intro a ha
            refine stepp ha 43 (.int .i64 x1384) (by kernel_rfl) (by kernel_rfl) ?_; clear ha a; intro a ha
            refine stepp ha 44 (.int .i64 (IntKind.wrap .i64 (5 + x1384))) (by kernel_rfl) (by kernel_rfl) ?_; clear ha a; intro a ha
            obtain ⟨hA1403, h_⟩ := asrt_some h; clear h; have h := h_; clear h_
            obtain ⟨hA1404, h_⟩ := asrt_some h; clear h; have h := h_; clear h_
            refine stepie (encI .u64) (0 : Int) ha 45 (fun _ => rfl) (v := .slice A1300 t1298.length c1301) (xs := t1298) (HW.rdo (i := 0) (q := ⟨45, 1, .slice A1300 t1298.length c1301, t1298.length, encs (encI .u64) t1298⟩) (by kernel_rfl)) 83 45 (.tmp 42) (.tmp 44) .i64 (IntKind.wrap .i64 (5 + x1384)) rfl (by kernel_rfl) (by kernel_rfl) (by kernel_rfl) (by kernel_rfl) hA1403 (show (IntKind.wrap .i64 (5 + x1384) : Int) < ((t1298).length : Int) from hA1404) (by kernel_rfl) ?_; clear ha a; intro b1405 off1406 a hC1407 ha
            refine stepl ha 46 hC1407 45 0 (.tmp 45) (.int .u64 (rdL (0 : Int) t1298 (IntKind.wrap .i64 (5 + x1384)))) rfl (by kernel_rfl) (by kernel_rfl) (by kernel_rfl) ?_; clear ha a; intro a ha
            refine stepp ha 47 (.int .u32 (IntKind.wrap .u32 (rdL (0 : Int) t1298 (IntKind.wrap .i64 (5 + x1384))))) (by kernel_rfl) (by kernel_rfl) ?_; clear ha a; intro a ha
            refine stepp ha 48 (.pointer (some ⟨b1279, 5, none⟩)) (by kernel_rfl) (by kernel_rfl) ?_; clear ha a; intro a ha
            obtain ⟨hA1408, h_⟩ := asrt_some h; clear h; have h := h_; clear h_
            refine stepiw ha 49 (sz := 1) b1279 5 23 6 22 (.tmp 48) (.tmp 41) .i64 x1384 rfl (by kernel_rfl) (by kernel_rfl) (by kernel_rfl) (by kernel_rfl) hA1408 hp1398 (by kernel_rfl) ?_; clear ha a; intro a ha
            refine stepsn ha HW 0 (b := b1279) (C := #[.int .i64 (IntKind.wrap .i64 (rdL (0 : Int) t1298 0)), .int .i64 (IntKind.wrap .i64 (band .u64 (rdL (0 : Int) t1298 1) 63)), .int .i64 (IntKind.wrap .i64 (rdL (0 : Int) t1298 2)), .int .u32 (IntKind.wrap .u32 (rdL (0 : Int) t1298 3)), .int .i64 (IntKind.wrap .i64 (rdL (0 : Int) t1298 4)), .int .u32 x1385, .int .u32 x1386, .int .u32 x1387, .int .u32 x1388, .int .u32 x1389, .int .u32 x1390]) (T := 25) (by kernel_rfl) 22 5 6 (.tmp 49) (.tmp 47) .u32 x1384 (IntKind.wrap .u32 (rdL (0 : Int) t1298 (IntKind.wrap .i64 (5 + x1384)))) ([x1385, x1386, x1387, x1388, x1389, x1390] : List Int) #[.int .i64 (IntKind.wrap .i64 (rdL (0 : Int) t1298 0)), .int .i64 (IntKind.wrap .i64 (band .u64 (rdL (0 : Int) t1298 1) 63)), .int .i64 (IntKind.wrap .i64 (rdL (0 : Int) t1298 2)), .int .u32 (IntKind.wrap .u32 (rdL (0 : Int) t1298 3)), .int .i64 (IntKind.wrap .i64 (rdL (0 : Int) t1298 4)), .int .u32 (rdL 0 (([x1385, x1386, x1387, x1388, x1389, x1390] : List Int).set (x1384 : Int).toNat (IntKind.wrap .u32 (rdL (0 : Int) t1298 (IntKind.wrap .i64 (5 + x1384))))) 0), .int .u32 (rdL 0 (([x1385, x1386, x1387, x1388, x1389, x1390] : List Int).set (x1384 : Int).toNat (IntKind.wrap .u32 (rdL (0 : Int) t1298 (IntKind.wrap .i64 (5 + x1384))))) 1), .int .u32 (rdL 0 (([x1385, x1386, x1387, x1388, x1389, x1390] : List Int).set (x1384 : Int).toNat (IntKind.wrap .u32 (rdL (0 : Int) t1298 (IntKind.wrap .i64 (5 + x1384))))) 2), .int .u32 (rdL 0 (([x1385, x1386, x1387, x1388, x1389, x1390] : List Int).set (x1384 : Int).toNat (IntKind.wrap .u32 (rdL (0 : Int) t1298 (IntKind.wrap .i64 (5 + x1384))))) 3), .int .u32 (rdL 0 (([x1385, x1386, x1387, x1388, x1389, x1390] : List Int).set (x1384 : Int).toNat (IntKind.wrap .u32 (rdL (0 : Int) t1298 (IntKind.wrap .i64 (5 + x1384))))) 4), .int .u32 (rdL 0 (([x1385, x1386, x1387, x1388, x1389, x1390] : List Int).set (x1384 : Int).toNat (IntKind.wrap .u32 (rdL (0 : Int) t1298 (IntKind.wrap .i64 (5 + x1384))))) 5)] rfl (by kernel_rfl) (by kernel_rfl) (by kernel_rfl) rfl hA1408 hp1398 (by kernel_rfl) (by kernel_rfl) (by kernel_rfl) (by kernel_rfl) ?_; clear ha HW a; intro a W1409 HW ha
            refine endl ?_
            refine blkN ?_
            refine thenN (hK1400 _ _ ?_); clear hK1400
            refine wp_region_lit ?_
            refine stepp ha 50 (.int .i64 (IntKind.wrap .i64 (x1384 + 1))) (by kernel_rfl) (by kernel_rfl) ?_; clear ha a; intro a ha
            refine stepp ha 38 (.int .i64 (IntKind.wrap .i64 (x1384 + 1))) (by kernel_rfl) (by kernel_rfl) ?_; clear ha a; intro a ha
            refine endl ?_
            exact thenN ⟨k1392, Nat.lt_succ_self k1392, IntKind.wrap .i64 (x1384 + 1), rdL 0 (([x1385, x1386, x1387, x1388, x1389, x1390] : List Int).set (x1384 : Int).toNat (IntKind.wrap .u32 (rdL (0 : Int) t1298 (IntKind.wrap .i64 (5 + x1384))))) 0, rdL 0 (([x1385, x1386, x1387, x1388, x1389, x1390] : List Int).set (x1384 : Int).toNat (IntKind.wrap .u32 (rdL (0 : Int) t1298 (IntKind.wrap .i64 (5 + x1384))))) 1, rdL 0 (([x1385, x1386, x1387, x1388, x1389, x1390] : List Int).set (x1384 : Int).toNat (IntKind.wrap .u32 (rdL (0 : Int) t1298 (IntKind.wrap .i64 (5 + x1384))))) 2, rdL 0 (([x1385, x1386, x1387, x1388, x1389, x1390] : List Int).set (x1384 : Int).toNat (IntKind.wrap .u32 (rdL (0 : Int) t1298 (IntKind.wrap .i64 (5 + x1384))))) 3, rdL 0 (([x1385, x1386, x1387, x1388, x1389, x1390] : List Int).set (x1384 : Int).toNat (IntKind.wrap .u32 (rdL (0 : Int) t1298 (IntKind.wrap .i64 (5 + x1384))))) 4, rdL 0 (([x1385, x1386, x1387, x1388, x1389, x1390] : List Int).set (x1384 : Int).toNat (IntKind.wrap .u32 (rdL (0 : Int) t1298 (IntKind.wrap .i64 (5 + x1384))))) 5, (by rw [← hag1393]; exact h), ha.sub (subs_cons (by kernel_rfl) (subs_cons (by kernel_rfl) (subs_cons (by kernel_rfl) (subs_cons (by kernel_rfl) (subs_nil _))))), HW.pick [0] [0] (by decide) (by decide) (by kernel_rfl) (by kernel_rfl)⟩
          · skip
            replace h := ite_neg' h hp1398
            refine condF ha (by kernel_rfl) (by kernel_rfl) (t := decide (x1384 < 6)) (decide_eq_false hp1398) ?_
            refine wp_exit ?_
            refine thenE ?_
            refine thenE ?_
            refine inBlk ?_
            refine thenN (hK1323 _ _ ?_); clear hK1323
            refine wp_seq_k (fun K1410 hK1411 => ?_)
            refine wp_region_lit ?_
            refine stepp ha 51 (.string a0) (by kernel_rfl) (by kernel_rfl) ?_; clear ha a; intro a ha
            obtain ⟨hA1412, h_⟩ := asrt_some h; clear h; have h := h_; clear h_
            refine stepsi ha 52 9 (.tmp 51) (.const (.int .i64 39)) a0 .i64 39 rfl (by kernel_rfl) (by kernel_rfl) (by kernel_rfl) (by decide) (show (39 : Int) < ((a0).size : Int) from hA1412) (by kernel_rfl) ?_; clear ha a; intro a ha
            refine stepp ha 53 (.bool ((bt a0 39) == 1)) (by kernel_rfl) (by kernel_rfl) ?_; clear ha a; intro a ha
            refine stepp ha 3 (.bool ((bt a0 39) == 1)) (by kernel_rfl) (by kernel_rfl) ?_; clear ha a; intro a ha
            refine endl ?_
            refine thenN (hK1411 _ _ ?_); clear hK1411
            refine wp_seq_k (fun K1413 hK1414 => ?_)
            refine wp_seq_k (fun K1415 hK1416 => ?_)
            refine wp_region_lit ?_
            refine stepl ha 55 (HW.ca (i := 0) (b := b1279) (C := #[.int .i64 (IntKind.wrap .i64 (rdL (0 : Int) t1298 0)), .int .i64 (IntKind.wrap .i64 (band .u64 (rdL (0 : Int) t1298 1) 63)), .int .i64 (IntKind.wrap .i64 (rdL (0 : Int) t1298 2)), .int .u32 (IntKind.wrap .u32 (rdL (0 : Int) t1298 3)), .int .i64 (IntKind.wrap .i64 (rdL (0 : Int) t1298 4)), .int .u32 x1385, .int .u32 x1386, .int .u32 x1387, .int .u32 x1388, .int .u32 x1389, .int .u32 x1390]) (T := 25) (fr := (0, 0)) (by kernel_rfl)) 25 0 (.tmp 2) (.agg #[.int .i64 (IntKind.wrap .i64 (rdL (0 : Int) t1298 0)), .int .i64 (IntKind.wrap .i64 (band .u64 (rdL (0 : Int) t1298 1) 63)), .int .i64 (IntKind.wrap .i64 (rdL (0 : Int) t1298 2)), .int .u32 (IntKind.wrap .u32 (rdL (0 : Int) t1298 3)), .int .i64 (IntKind.wrap .i64 (rdL (0 : Int) t1298 4)), .int .u32 x1385, .int .u32 x1386, .int .u32 x1387, .int .u32 x1388, .int .u32 x1389, .int .u32 x1390]) rfl (by kernel_rfl) (by kernel_rfl) (by kernel_rfl) ?_; clear ha a; intro a ha
            refine stepp ha 56 (.bool ((bt a0 39) == 1)) (by kernel_rfl) (by kernel_rfl) ?_; clear ha a; intro a ha
            obtain ⟨t1417, ht1418, h_⟩ := bind_some' h; clear h; have h := h_; clear h_
            refine stepc ha 57 (by kernel_rfl) (by kernel_rfl) (sqe_Put.calls K (⟨IntKind.wrap .i64 (rdL (0 : Int) t1298 0), IntKind.wrap .i64 (band .u64 (rdL (0 : Int) t1298 1) 63), IntKind.wrap .i64 (rdL (0 : Int) t1298 2), IntKind.wrap .u32 (rdL (0 : Int) t1298 3), IntKind.wrap .i64 (rdL (0 : Int) t1298 4), (⟨x1385, x1386, x1387, x1388, x1389, x1390⟩ : T_arr6_22)⟩ : T_api_Sqe) ((bt a0 39) == 1) t1417 _ (HW.ca0 hG1) (HW.ca0 hG2) ht1418) ?_; clear ha a; rintro e W1419 ⟨rfl, HX1420⟩
            refine ⟨_, rfl, ?_⟩; intro a ha; replace HW := HW.callw HX1420; clear HX1420
            refine stepp ha 54 (.tuple #[.string t1417.1, .int .i64 t1417.2]) (by kernel_rfl) (by kernel_rfl) ?_; clear ha a; intro a ha
            refine stepp ha 58 (.string t1417.1) (by kernel_rfl) (by kernel_rfl) ?_; clear ha a; intro a ha
            refine stepp ha 59 (.int .i64 t1417.2) (by kernel_rfl) (by kernel_rfl) ?_; clear ha a; intro a ha
            refine stepp ha 7 (.string t1417.1) (by kernel_rfl) (by kernel_rfl) ?_; clear ha a; intro a ha
            refine stepp ha 8 (.int .i64 t1417.2) (by kernel_rfl) (by kernel_rfl) ?_; clear ha a; intro a ha
            refine endl ?_
            refine thenN (hK1416 _ _ ?_); clear hK1416
            refine wp_seq_k (fun K1421 hK1422 => ?_)
            refine wp_region_lit ?_
            refine stepp ha 60 (.int .i64 t1417.2) (by kernel_rfl) (by kernel_rfl) ?_; clear ha a; intro a ha
            refine stepp ha 61 (.bool (t1417.2 != 0)) (by kernel_rfl) (by kernel_rfl) ?_; clear ha a; intro a ha
            refine stepp ha 62 (.bool (t1417.2 != 0)) (by kernel_rfl) (by kernel_rfl) ?_; clear ha a; intro a ha
            by_cases hp1423 : t1417.2 = 0
            · skip
              replace h := ite_pos' h hp1423
              replace ha := ha.bool 62 (by kernel_rfl) (ineq_f hp1423)
              refine stepp ha 63 (.string t1417.1) (by kernel_rfl) (by kernel_rfl) ?_; clear ha a; intro a ha
              refine stepp ha 64 (.string a0) (by kernel_rfl) (by kernel_rfl) ?_; clear ha a; intro a ha
              refine stepp ha 65 (.bool (!(t1417.1.toList == a0.toList))) (by kernel_rfl) (by kernel_rfl) ?_; clear ha a; intro a ha
              refine stepp ha 66 (.bool (!(t1417.1.toList == a0.toList))) (by kernel_rfl) (by kernel_rfl) ?_; clear ha a; intro a ha
              refine endl ?_
              refine thenN (hK1422 _ _ ?_); clear hK1422
              by_cases hp1424 : t1417.1 = a0
              · skip
                replace h := ite_pos' h hp1424
                refine condF ha (by kernel_rfl) (by kernel_rfl) (t := (!(t1417.1.toList == a0.toList))) (str_ne_f hp1424) ?_
                refine wp_skip ?_
                refine thenN (hK1414 _ _ ?_); clear hK1414
                refine wp_seq_k (fun K1431 hK1432 => ?_)
                refine wp_region_lit ?_
                refine stepl ha 68 (HW.ca (i := 0) (b := b1279) (C := #[.int .i64 (IntKind.wrap .i64 (rdL (0 : Int) t1298 0)), .int .i64 (IntKind.wrap .i64 (band .u64 (rdL (0 : Int) t1298 1) 63)), .int .i64 (IntKind.wrap .i64 (rdL (0 : Int) t1298 2)), .int .u32 (IntKind.wrap .u32 (rdL (0 : Int) t1298 3)), .int .i64 (IntKind.wrap .i64 (rdL (0 : Int) t1298 4)), .int .u32 x1385, .int .u32 x1386, .int .u32 x1387, .int .u32 x1388, .int .u32 x1389, .int .u32 x1390]) (T := 25) (fr := (0, 0)) (by kernel_rfl)) 25 0 (.tmp 2) (.agg #[.int .i64 (IntKind.wrap .i64 (rdL (0 : Int) t1298 0)), .int .i64 (IntKind.wrap .i64 (band .u64 (rdL (0 : Int) t1298 1) 63)), .int .i64 (IntKind.wrap .i64 (rdL (0 : Int) t1298 2)), .int .u32 (IntKind.wrap .u32 (rdL (0 : Int) t1298 3)), .int .i64 (IntKind.wrap .i64 (rdL (0 : Int) t1298 4)), .int .u32 x1385, .int .u32 x1386, .int .u32 x1387, .int .u32 x1388, .int .u32 x1389, .int .u32 x1390]) rfl (by kernel_rfl) (by kernel_rfl) (by kernel_rfl) ?_; clear ha a; intro a ha
                refine stepp ha 69 (.bool ((bt a0 39) == 1)) (by kernel_rfl) (by kernel_rfl) ?_; clear ha a; intro a ha
                refine stepst ha HW 0 (b := b1279) (C := #[.int .i64 (IntKind.wrap .i64 (rdL (0 : Int) t1298 0)), .int .i64 (IntKind.wrap .i64 (band .u64 (rdL (0 : Int) t1298 1) 63)), .int .i64 (IntKind.wrap .i64 (rdL (0 : Int) t1298 2)), .int .u32 (IntKind.wrap .u32 (rdL (0 : Int) t1298 3)), .int .i64 (IntKind.wrap .i64 (rdL (0 : Int) t1298 4)), .int .u32 x1385, .int .u32 x1386, .int .u32 x1387, .int .u32 x1388, .int .u32 x1389, .int .u32 x1390]) (T := 25) (by kernel_rfl) 25 0 (.tmp 2) (.tmp 68) (.agg #[.int .i64 (IntKind.wrap .i64 (rdL (0 : Int) t1298 0)), .int .i64 (IntKind.wrap .i64 (band .u64 (rdL (0 : Int) t1298 1) 63)), .int .i64 (IntKind.wrap .i64 (rdL (0 : Int) t1298 2)), .int .u32 (IntKind.wrap .u32 (rdL (0 : Int) t1298 3)), .int .i64 (IntKind.wrap .i64 (rdL (0 : Int) t1298 4)), .int .u32 x1385, .int .u32 x1386, .int .u32 x1387, .int .u32 x1388, .int .u32 x1389, .int .u32 x1390]) #[.int .i64 (IntKind.wrap .i64 (rdL (0 : Int) t1298 0)), .int .i64 (IntKind.wrap .i64 (band .u64 (rdL (0 : Int) t1298 1) 63)), .int .i64 (IntKind.wrap .i64 (rdL (0 : Int) t1298 2)), .int .u32 (IntKind.wrap .u32 (rdL (0 : Int) t1298 3)), .int .i64 (IntKind.wrap .i64 (rdL (0 : Int) t1298 4)), .int .u32 x1385, .int .u32 x1386, .int .u32 x1387, .int .u32 x1388, .int .u32 x1389, .int .u32 x1390] rfl (by kernel_rfl) (by kernel_rfl) (by kernel_rfl) (by kernel_rfl) (by kernel_rfl) (by kernel_rfl) (by kernel_rfl) ?_; clear ha HW a; intro a W1433 HW ha
                refine stepp ha 3 (.bool ((bt a0 39) == 1)) (by kernel_rfl) (by kernel_rfl) ?_; clear ha a; intro a ha
                refine stepp ha 4 (.int .i64 0) (by kernel_rfl) (by kernel_rfl) ?_; clear ha a; intro a ha
                refine endl ?_
                refine thenN (hK1432 _ _ ?_); clear hK1432
                refine wp_ret ?_
                obtain rfl := Option.some.inj h
                exact finv ha _ _ rfl (.cell (ad := ⟨b1279, 0, none⟩) (v := .agg #[.int .i64 (IntKind.wrap .i64 (rdL (0 : Int) t1298 0)), .int .i64 (IntKind.wrap .i64 (band .u64 (rdL (0 : Int) t1298 1) 63)), .int .i64 (IntKind.wrap .i64 (rdL (0 : Int) t1298 2)), .int .u32 (IntKind.wrap .u32 (rdL (0 : Int) t1298 3)), .int .i64 (IntKind.wrap .i64 (rdL (0 : Int) t1298 4)), .int .u32 x1385, .int .u32 x1386, .int .u32 x1387, .int .u32 x1388, .int .u32 x1389, .int .u32 x1390]) (by kernel_rfl) (run_loadVar_ca0 (HW.ca (i := 0) (b := b1279) (C := #[.int .i64 (IntKind.wrap .i64 (rdL (0 : Int) t1298 0)), .int .i64 (IntKind.wrap .i64 (band .u64 (rdL (0 : Int) t1298 1) 63)), .int .i64 (IntKind.wrap .i64 (rdL (0 : Int) t1298 2)), .int .u32 (IntKind.wrap .u32 (rdL (0 : Int) t1298 3)), .int .i64 (IntKind.wrap .i64 (rdL (0 : Int) t1298 4)), .int .u32 x1385, .int .u32 x1386, .int .u32 x1387, .int .u32 x1388, .int .u32 x1389, .int .u32 x1390]) (T := 25) (fr := (0, 0)) (by kernel_rfl)) 25 0 (.agg #[.int .i64 (IntKind.wrap .i64 (rdL (0 : Int) t1298 0)), .int .i64 (IntKind.wrap .i64 (band .u64 (rdL (0 : Int) t1298 1) 63)), .int .i64 (IntKind.wrap .i64 (rdL (0 : Int) t1298 2)), .int .u32 (IntKind.wrap .u32 (rdL (0 : Int) t1298 3)), .int .i64 (IntKind.wrap .i64 (rdL (0 : Int) t1298 4)), .int .u32 x1385, .int .u32 x1386, .int .u32 x1387, .int .u32 x1388, .int .u32 x1389, .int .u32 x1390]) (by kernel_rfl)) (.tmp (v := .bool ((bt a0 39) == 1)) (by kernel_rfl) (.tmp (v := .int .i64 0) (by kernel_rfl) .nil))) (.tuple #[.agg #[.int .i64 (IntKind.wrap .i64 (rdL (0 : Int) t1298 0)), .int .i64 (IntKind.wrap .i64 (band .u64 (rdL (0 : Int) t1298 1) 63)), .int .i64 (IntKind.wrap .i64 (rdL (0 : Int) t1298 2)), .int .u32 (IntKind.wrap .u32 (rdL (0 : Int) t1298 3)), .int .i64 (IntKind.wrap .i64 (rdL (0 : Int) t1298 4)), .int .u32 x1385, .int .u32 x1386, .int .u32 x1387, .int .u32 x1388, .int .u32 x1389, .int .u32 x1390], .bool ((bt a0 39) == 1), .int .i64 0]) rfl ⟨rfl, HW.pick [] [] (by decide) (by decide) rfl (by kernel_rfl)⟩
              · skip
                replace h := ite_neg' h hp1424
                refine condT ha (by kernel_rfl) (by kernel_rfl) (t := (!(t1417.1.toList == a0.toList))) (str_ne_t hp1424) ?_
                refine wp_seq_k (fun K1425 hK1426 => ?_)
                refine wp_region_lit ?_
                refine stepp ha 67 (.agg #[.int .i64 0, .int .i64 0, .int .i64 0, .int .u32 0, .int .i64 0, .int .u32 0, .int .u32 0, .int .u32 0, .int .u32 0, .int .u32 0, .int .u32 0]) (by kernel_rfl) (by kernel_rfl) ?_; clear ha a; intro a ha
                refine stepst ha HW 0 (b := b1279) (C := #[.int .i64 (IntKind.wrap .i64 (rdL (0 : Int) t1298 0)), .int .i64 (IntKind.wrap .i64 (band .u64 (rdL (0 : Int) t1298 1) 63)), .int .i64 (IntKind.wrap .i64 (rdL (0 : Int) t1298 2)), .int .u32 (IntKind.wrap .u32 (rdL (0 : Int) t1298 3)), .int .i64 (IntKind.wrap .i64 (rdL (0 : Int) t1298 4)), .int .u32 x1385, .int .u32 x1386, .int .u32 x1387, .int .u32 x1388, .int .u32 x1389, .int .u32 x1390]) (T := 25) (by kernel_rfl) 25 0 (.tmp 2) (.tmp 67) (.agg #[.int .i64 0, .int .i64 0, .int .i64 0, .int .u32 0, .int .i64 0, .int .u32 0, .int .u32 0, .int .u32 0, .int .u32 0, .int .u32 0, .int .u32 0]) #[.int .i64 0, .int .i64 0, .int .i64 0, .int .u32 0, .int .i64 0, .int .u32 0, .int .u32 0, .int .u32 0, .int .u32 0, .int .u32 0, .int .u32 0] rfl (by kernel_rfl) (by kernel_rfl) (by kernel_rfl) (by kernel_rfl) (by kernel_rfl) (by kernel_rfl) (by kernel_rfl) ?_; clear ha HW a; intro a W1427 HW ha
                refine stepp ha 3 (.bool false) (by kernel_rfl) (by kernel_rfl) ?_; clear ha a; intro a ha
                refine stepp ha 4 (.int .i64 250) (by kernel_rfl) (by kernel_rfl) ?_; clear ha a; intro a ha
                refine endl ?_
                refine thenN (hK1426 _ _ ?_); clear hK1426
                refine wp_ret ?_
                refine thenR ?_
                obtain rfl := Option.some.inj h
                exact finv ha _ _ rfl (.cell (ad := ⟨b1279, 0, none⟩) (v := .agg #[.int .i64 0, .int .i64 0, .int .i64 0, .int .u32 0, .int .i64 0, .int .u32 0, .int .u32 0, .int .u32 0, .int .u32 0, .int .u32 0, .int .u32 0]) (by kernel_rfl) (run_loadVar_ca0 (HW.ca (i := 0) (b := b1279) (C := #[.int .i64 0, .int .i64 0, .int .i64 0, .int .u32 0, .int .i64 0, .int .u32 0, .int .u32 0, .int .u32 0, .int .u32 0, .int .u32 0, .int .u32 0]) (T := 25) (fr := (0, 0)) (by kernel_rfl)) 25 0 (.agg #[.int .i64 0, .int .i64 0, .int .i64 0, .int .u32 0, .int .i64 0, .int .u32 0, .int .u32 0, .int .u32 0, .int .u32 0, .int .u32 0, .int .u32 0]) (by kernel_rfl)) (.tmp (v := .bool false) (by kernel_rfl) (.tmp (v := .int .i64 250) (by kernel_rfl) .nil))) (.tuple #[.agg #[.int .i64 0, .int .i64 0, .int .i64 0, .int .u32 0, .int .i64 0, .int .u32 0, .int .u32 0, .int .u32 0, .int .u32 0, .int .u32 0, .int .u32 0], .bool false, .int .i64 250]) rfl ⟨rfl, HW.pick [] [] (by decide) (by decide) rfl (by kernel_rfl)⟩
            · skip
              replace h := ite_neg' h hp1423
              replace ha := ha.bool 62 (by kernel_rfl) (ineq_t hp1423)
              refine stepo ha 63 (by kernel_rfl) ?_; clear ha a; intro a ha
              refine stepo ha 64 (by kernel_rfl) ?_; clear ha a; intro a ha
              refine stepo ha 65 (by kernel_rfl) ?_; clear ha a; intro a ha
              refine stepp ha 66 (.bool true) (by kernel_rfl) (by kernel_rfl) ?_; clear ha a; intro a ha
              refine endl ?_
              refine thenN (hK1422 _ _ ?_); clear hK1422
              refine condT ha (by kernel_rfl) (by kernel_rfl) (t := true) (rfl) ?_
              refine wp_seq_k (fun K1428 hK1429 => ?_)
              refine wp_region_lit ?_
              refine stepp ha 67 (.agg #[.int .i64 0, .int .i64 0, .int .i64 0, .int .u32 0, .int .i64 0, .int .u32 0, .int .u32 0, .int .u32 0, .int .u32 0, .int .u32 0, .int .u32 0]) (by kernel_rfl) (by kernel_rfl) ?_; clear ha a; intro a ha
              refine stepst ha HW 0 (b := b1279) (C := #[.int .i64 (IntKind.wrap .i64 (rdL (0 : Int) t1298 0)), .int .i64 (IntKind.wrap .i64 (band .u64 (rdL (0 : Int) t1298 1) 63)), .int .i64 (IntKind.wrap .i64 (rdL (0 : Int) t1298 2)), .int .u32 (IntKind.wrap .u32 (rdL (0 : Int) t1298 3)), .int .i64 (IntKind.wrap .i64 (rdL (0 : Int) t1298 4)), .int .u32 x1385, .int .u32 x1386, .int .u32 x1387, .int .u32 x1388, .int .u32 x1389, .int .u32 x1390]) (T := 25) (by kernel_rfl) 25 0 (.tmp 2) (.tmp 67) (.agg #[.int .i64 0, .int .i64 0, .int .i64 0, .int .u32 0, .int .i64 0, .int .u32 0, .int .u32 0, .int .u32 0, .int .u32 0, .int .u32 0, .int .u32 0]) #[.int .i64 0, .int .i64 0, .int .i64 0, .int .u32 0, .int .i64 0, .int .u32 0, .int .u32 0, .int .u32 0, .int .u32 0, .int .u32 0, .int .u32 0] rfl (by kernel_rfl) (by kernel_rfl) (by kernel_rfl) (by kernel_rfl) (by kernel_rfl) (by kernel_rfl) (by kernel_rfl) ?_; clear ha HW a; intro a W1430 HW ha
              refine stepp ha 3 (.bool false) (by kernel_rfl) (by kernel_rfl) ?_; clear ha a; intro a ha
              refine stepp ha 4 (.int .i64 250) (by kernel_rfl) (by kernel_rfl) ?_; clear ha a; intro a ha
              refine endl ?_
              refine thenN (hK1429 _ _ ?_); clear hK1429
              refine wp_ret ?_
              refine thenR ?_
              obtain rfl := Option.some.inj h
              exact finv ha _ _ rfl (.cell (ad := ⟨b1279, 0, none⟩) (v := .agg #[.int .i64 0, .int .i64 0, .int .i64 0, .int .u32 0, .int .i64 0, .int .u32 0, .int .u32 0, .int .u32 0, .int .u32 0, .int .u32 0, .int .u32 0]) (by kernel_rfl) (run_loadVar_ca0 (HW.ca (i := 0) (b := b1279) (C := #[.int .i64 0, .int .i64 0, .int .i64 0, .int .u32 0, .int .i64 0, .int .u32 0, .int .u32 0, .int .u32 0, .int .u32 0, .int .u32 0, .int .u32 0]) (T := 25) (fr := (0, 0)) (by kernel_rfl)) 25 0 (.agg #[.int .i64 0, .int .i64 0, .int .i64 0, .int .u32 0, .int .i64 0, .int .u32 0, .int .u32 0, .int .u32 0, .int .u32 0, .int .u32 0, .int .u32 0]) (by kernel_rfl)) (.tmp (v := .bool false) (by kernel_rfl) (.tmp (v := .int .i64 250) (by kernel_rfl) .nil))) (.tuple #[.agg #[.int .i64 0, .int .i64 0, .int .i64 0, .int .u32 0, .int .i64 0, .int .u32 0, .int .u32 0, .int .u32 0, .int .u32 0, .int .u32 0, .int .u32 0], .bool false, .int .i64 250]) rfl ⟨rfl, HW.pick [] [] (by decide) (by decide) rfl (by kernel_rfl)⟩
  · skip
    replace h := ite_neg' h hp1285
    refine condT ha (by kernel_rfl) (by kernel_rfl) (t := ((a0.size : Int) != 64)) (ineq_t hp1285) ?_
    refine wp_seq_k (fun K1286 hK1287 => ?_)
    refine wp_region_lit ?_
    refine stepp ha 12 (.agg #[.int .i64 0, .int .i64 0, .int .i64 0, .int .u32 0, .int .i64 0, .int .u32 0, .int .u32 0, .int .u32 0, .int .u32 0, .int .u32 0, .int .u32 0]) (by kernel_rfl) (by kernel_rfl) ?_; clear ha a; intro a ha
    refine stepst ha HW 0 (b := b1279) (C := #[.int .i64 0, .int .i64 0, .int .i64 0, .int .u32 0, .int .i64 0, .int .u32 0, .int .u32 0, .int .u32 0, .int .u32 0, .int .u32 0, .int .u32 0]) (T := 25) (by kernel_rfl) 25 0 (.tmp 2) (.tmp 12) (.agg #[.int .i64 0, .int .i64 0, .int .i64 0, .int .u32 0, .int .i64 0, .int .u32 0, .int .u32 0, .int .u32 0, .int .u32 0, .int .u32 0, .int .u32 0]) #[.int .i64 0, .int .i64 0, .int .i64 0, .int .u32 0, .int .i64 0, .int .u32 0, .int .u32 0, .int .u32 0, .int .u32 0, .int .u32 0, .int .u32 0] rfl (by kernel_rfl) (by kernel_rfl) (by kernel_rfl) (by kernel_rfl) (by kernel_rfl) (by kernel_rfl) (by kernel_rfl) ?_; clear ha HW a; intro a W1288 HW ha
    refine stepp ha 3 (.bool false) (by kernel_rfl) (by kernel_rfl) ?_; clear ha a; intro a ha
    refine stepp ha 4 (.int .i64 250) (by kernel_rfl) (by kernel_rfl) ?_; clear ha a; intro a ha
    refine endl ?_
    refine thenN (hK1287 _ _ ?_); clear hK1287
    refine wp_ret ?_
    refine thenR ?_
    obtain rfl := Option.some.inj h
    exact finv ha _ _ rfl (.cell (ad := ⟨b1279, 0, none⟩) (v := .agg #[.int .i64 0, .int .i64 0, .int .i64 0, .int .u32 0, .int .i64 0, .int .u32 0, .int .u32 0, .int .u32 0, .int .u32 0, .int .u32 0, .int .u32 0]) (by kernel_rfl) (run_loadVar_ca0 (HW.ca (i := 0) (b := b1279) (C := #[.int .i64 0, .int .i64 0, .int .i64 0, .int .u32 0, .int .i64 0, .int .u32 0, .int .u32 0, .int .u32 0, .int .u32 0, .int .u32 0, .int .u32 0]) (T := 25) (fr := (0, 0)) (by kernel_rfl)) 25 0 (.agg #[.int .i64 0, .int .i64 0, .int .i64 0, .int .u32 0, .int .i64 0, .int .u32 0, .int .u32 0, .int .u32 0, .int .u32 0, .int .u32 0, .int .u32 0]) (by kernel_rfl)) (.tmp (v := .bool false) (by kernel_rfl) (.tmp (v := .int .i64 250) (by kernel_rfl) .nil))) (.tuple #[.agg #[.int .i64 0, .int .i64 0, .int .i64 0, .int .u32 0, .int .i64 0, .int .u32 0, .int .u32 0, .int .u32 0, .int .u32 0, .int .u32 0, .int .u32 0], .bool false, .int .i64 250]) rfl ⟨rfl, HW.pick [] [] (by decide) (by decide) rfl (by kernel_rfl)⟩
end Go.Proofs.YtceagilmillgfaaDoor.F
