/- headgate/cdb.Parse, headgate/fields.Set: plain functions, and that the calls come to what they say. No condition. -/
import Derived.Test.YtpjcipadjegmlaaDoorFT
import Derived.Test.YtpjcipadjegmlaaDoorF48
namespace Go.Proofs.YtpjcipadjegmlaaDoor.F
open Go Go.RowKit Go.Proofs.YtpjcipadjegmlaaDoor.X
set_option linter.unusedVariables false
set_option linter.unusedSimpArgs false
/-! ### headgate/cdb.Parse: function 16 -/
def cdb_Parse.j3 (K : Nat) (x1562 : T_cdb_form) (t1574 : Int) (t1578 : Int) (t1582 : Int) (x1665 : Bool) (x1666 : Int) (x1667 : Bool) (x1668 : Int) (x1669 : Int) : Option (T_cdb_Ask × Int) :=
  if x1665 = true then (if x1562.f1 = 16 then (if t1574 ≥ 2147483648 then (some ((⟨0, 0, 0, false, 0, 0, 0⟩ : T_cdb_Ask), 150)) else (if t1578 ≥ 2147483648 then (some ((⟨0, 0, 0, false, 0, 0, 0⟩ : T_cdb_Ask), 150)) else (some ((⟨x1666, t1574, t1578, x1667, x1668, t1582, x1669⟩ : T_cdb_Ask), 0)))) else (some ((⟨x1666, t1574, t1578, x1667, x1668, t1582, x1669⟩ : T_cdb_Ask), 0))) else (some ((⟨0, 0, 0, false, 0, 0, 0⟩ : T_cdb_Ask), 150))
def cdb_Parse.j2 (K : Nat) (a0 : ByteArray) (x1562 : T_cdb_form) (t1574 : Int) (t1578 : Int) (t1582 : Int) (x1647 : Bool) : Option (T_cdb_Ask × Int) :=
  (cdb_typed.f (IntKind.wrap .i64 (band .u8 (bt a0 1) 31))).bind fun t1651 => (if t1651 = true then (asrt (2 < (a0.size : Int)) ((cdb_Type.f K (IntKind.wrap .i64 (band .u8 (bt a0 2) 15))).bind fun t1659 => (if x1647 = true then (cdb_Parse.j3 K x1562 t1574 t1578 t1582 (t1659 != 0) (IntKind.wrap .i64 ((IntKind.wrap .i64 (256 * x1562.f0)) + (IntKind.wrap .i64 (band .u8 (bt a0 1) 31)))) false 0 t1659) else (cdb_Parse.j3 K x1562 t1574 t1578 t1582 false (IntKind.wrap .i64 ((IntKind.wrap .i64 (256 * x1562.f0)) + (IntKind.wrap .i64 (band .u8 (bt a0 1) 31)))) false 0 t1659)))) else (cdb_Parse.j3 K x1562 t1574 t1578 t1582 x1647 (IntKind.wrap .i64 ((IntKind.wrap .i64 (256 * x1562.f0)) + (IntKind.wrap .i64 (band .u8 (bt a0 1) 31)))) false 0 0))
def cdb_Parse.j1 (K : Nat) (a0 : ByteArray) (x1562 : T_cdb_form) (t1574 : Int) (t1578 : Int) (t1582 : Int) (x1624 : Bool) : Option (T_cdb_Ask × Int) :=
  if x1624 = true then (asrt (1 < (a0.size : Int)) ((cdb_known.f x1562.f0 (IntKind.wrap .i64 (band .u8 (bt a0 1) 31))).bind fun t1635 => (if x1562.f0 = 95 then (if t1635 = true then (asrt (2 < (a0.size : Int)) (if ((bt a0 2).fdiv 16) = 0 then (cdb_Parse.j2 K a0 x1562 t1574 t1578 t1582 (t1582 == 24)) else (cdb_Parse.j2 K a0 x1562 t1574 t1578 t1582 false))) else (cdb_Parse.j2 K a0 x1562 t1574 t1578 t1582 false)) else (cdb_Parse.j3 K x1562 t1574 t1578 t1582 t1635 (IntKind.wrap .i64 ((IntKind.wrap .i64 (256 * x1562.f0)) + (IntKind.wrap .i64 (band .u8 (bt a0 1) 31)))) false 0 0)))) else (cdb_Parse.j3 K x1562 t1574 t1578 t1582 true x1562.f0 false 0 0)
def cdb_Parse.j0 (K : Nat) (a0 : ByteArray) (x1562 : T_cdb_form) (t1574 : Int) (t1578 : Int) (t1582 : Int) (x1610 : Bool) : Option (T_cdb_Ask × Int) :=
  if x1610 = true then (asrt (1 < (a0.size : Int)) (cdb_Parse.j3 K x1562 t1574 t1578 t1582 true x1562.f0 ((band .u8 ((bt a0 1).fdiv 8) 1) == 1) 0 0)) else (if x1562.f0 = 147 then (asrt (1 < (a0.size : Int)) (cdb_Parse.j3 K x1562 t1574 t1578 t1582 ((band .u8 (bt a0 1) 1) == 1) x1562.f0 false 0 0)) else (if x1562.f0 = 94 then (cdb_Parse.j1 K a0 x1562 t1574 t1578 t1582 (x1562.f0 == 94)) else (cdb_Parse.j1 K a0 x1562 t1574 t1578 t1582 (x1562.f0 == 95))))
def cdb_Parse.f (K : Nat) (a0 : ByteArray) : Option (T_cdb_Ask × Int) :=
  (cdb_Length.f K a0).bind fun t1532 => (if t1532 = 0 then (some ((⟨0, 0, 0, false, 0, 0, 0⟩ : T_cdb_Ask), 150)) else (if (a0.size : Int) = t1532 then (asrt (0 ≤ (IntKind.wrap .i64 (t1532 - 1))) (asrt ((IntKind.wrap .i64 (t1532 - 1)) < (a0.size : Int)) (if (bt a0 (IntKind.wrap .i64 (t1532 - 1))) = 0 then (asrt (0 < (a0.size : Int)) ((cdb_formOf.f K (IntKind.wrap .i64 (bt a0 0))).bind fun t1557 => (optc t1557 (none) (fun x1562 => ((cdb_Parse_1.f K (⟨x1562.f2.f0, x1562.f2.f1⟩ : T_cdb_span) a0).bind fun t1574 => ((cdb_Parse_1.f K (⟨x1562.f3.f0, x1562.f3.f1⟩ : T_cdb_span) a0).bind fun t1578 => ((cdb_Parse_1.f K (⟨x1562.f4.f0, x1562.f4.f1⟩ : T_cdb_span) a0).bind fun t1582 => (if x1562.f0 = 18 then (asrt (1 < (a0.size : Int)) (if (band .u8 (bt a0 1) 1) = 1 then (asrt (2 < (a0.size : Int)) (cdb_Parse.j3 K x1562 t1574 t1578 t1582 true x1562.f0 false (IntKind.wrap .i64 (256 + (IntKind.wrap .i64 (bt a0 2)))) 0)) else (cdb_Parse.j3 K x1562 t1574 t1578 t1582 true x1562.f0 false 0 0))) else (if x1562.f0 = 42 then (cdb_Parse.j0 K a0 x1562 t1574 t1578 t1582 (x1562.f0 == 42)) else (cdb_Parse.j0 K a0 x1562 t1574 t1578 t1582 (x1562.f0 == 138))))))))))) else (some ((⟨0, 0, 0, false, 0, 0, 0⟩ : T_cdb_Ask), 150))))) else (some ((⟨0, 0, 0, false, 0, 0, 0⟩ : T_cdb_Ask), 150))))
set_option maxRecDepth 100000 in
set_option maxHeartbeats 4000000 in
theorem cdb_Parse.calls (K : Nat) (a0 : ByteArray)  (r : T_cdb_Ask × Int) (w : World) (hG0 : CA w 0 0 (encs (encI .i64) G_cdb_numbers).toArray) (hG1 : CA w 1 0 (encs T_cdb_form.enc G_cdb_forms).toArray) (h : cdb_Parse.f K a0 = some r) :
    Calls Tryd.prog 16 #[.string a0] w (fun e W' => e = .returned (.tuple #[.agg #[.int .i64 r.1.f0, .int .i64 r.1.f1, .int .i64 r.1.f2, .bool r.1.f3, .int .i64 r.1.f4, .int .i64 r.1.f5, .int .i64 r.1.f6], .int .i64 r.2]) ∧ Wd w W' [] [] ) := by
  refine sxstart (n := 162) (l := [(0, .string a0)]) Tryd.func16 rfl rfl (Nat.le_of_ble_eq_true KR) (subsA_cons rfl (subsA_nil _)) ?_
  intro a ha
  have HW := Wd.refl w
  unfold cdb_Parse.f at h
  refine wp_seq_k (fun K1524 hK1525 => ?_)
  refine wp_region_lit ?_
  refine stepnew ha HW 1 #[.string a0] 9 KR KR ?_; clear ha HW a; intro b1526 a W1527 HW ha
  refine stepnew ha HW 2 #[.int .i64 0, .int .i64 0, .int .i64 0, .bool false, .int .i64 0, .int .i64 0, .int .i64 0] 39 KR KR ?_; clear ha HW a; intro b1528 a W1529 HW ha
  refine stepp ha 3 (.int .i64 0) KR KR ?_; clear ha a; intro a ha
  refine endl ?_
  refine thenN (hK1525 _ _ ?_); clear hK1525
  refine wp_seq_k (fun K1530 hK1531 => ?_)
  refine wp_region_lit ?_
  refine stepl ha 10 (HW.ca (i := 1) (b := b1526) (C := #[.string a0]) (T := 9) (fr := (0, 0)) KR) 9 0 (.tmp 1) (.string a0) rfl KR KR KR ?_; clear ha a; intro a ha
  obtain ⟨t1532, ht1533, h_⟩ := bind_some' h; clear h; have h := h_; clear h_
  refine stepc ha 11 KR KR (cdb_Length.calls K a0 t1532 _ (HW.ca0 hG1) ht1533) ?_; clear ha a; rintro e W1534 ⟨rfl, HX1535⟩
  refine ⟨_, rfl, ?_⟩; intro a ha; replace HW := HW.callw HX1535; clear HX1535
  refine stepp ha 4 (.int .i64 t1532) KR KR ?_; clear ha a; intro a ha
  refine endl ?_
  refine thenN (hK1531 _ _ ?_); clear hK1531
  refine wp_seq_k (fun K1536 hK1537 => ?_)
  refine wp_seq_k (fun K1538 hK1539 => ?_)
  refine wp_region_lit ?_
  refine stepp ha 12 (.int .i64 t1532) KR KR ?_; clear ha a; intro a ha
  refine stepp ha 13 (.bool (t1532 == 0)) KR KR ?_; clear ha a; intro a ha
  refine stepp ha 14 (.bool (t1532 == 0)) KR KR ?_; clear ha a; intro a ha
  by_cases hp1540 : t1532 = 0
  · skip
    replace h := ite_pos' h hp1540
    replace ha := ha.bool 14 KR (ieq_t hp1540)
    refine stepo ha 15 KR ?_; clear ha a; intro a ha
    refine stepo ha 16 KR ?_; clear ha a; intro a ha
    refine stepo ha 17 KR ?_; clear ha a; intro a ha
    refine stepo ha 18 KR ?_; clear ha a; intro a ha
    refine stepp ha 19 (.bool true) KR KR ?_; clear ha a; intro a ha
    refine stepp ha 20 (.bool true) KR KR ?_; clear ha a; intro a ha
    refine stepo ha 21 KR ?_; clear ha a; intro a ha
    refine stepo ha 22 KR ?_; clear ha a; intro a ha
    refine stepo ha 23 KR ?_; clear ha a; intro a ha
    refine stepo ha 24 KR ?_; clear ha a; intro a ha
    refine stepo ha 25 KR ?_; clear ha a; intro a ha
    refine stepp ha 26 (.bool true) KR KR ?_; clear ha a; intro a ha
    refine endl ?_
    refine thenN (hK1539 _ _ ?_); clear hK1539
    refine condT ha KR KR (t := true) (rfl) ?_
    refine wp_seq_k (fun K1544 hK1545 => ?_)
    refine wp_region_lit ?_
    refine stepp ha 27 (.agg #[.int .i64 0, .int .i64 0, .int .i64 0, .bool false, .int .i64 0, .int .i64 0, .int .i64 0]) KR KR ?_; clear ha a; intro a ha
    refine stepst ha HW 0 (b := b1528) (C := #[.int .i64 0, .int .i64 0, .int .i64 0, .bool false, .int .i64 0, .int .i64 0, .int .i64 0]) (T := 39) KR 39 0 (.tmp 2) (.tmp 27) (.agg #[.int .i64 0, .int .i64 0, .int .i64 0, .bool false, .int .i64 0, .int .i64 0, .int .i64 0]) #[.int .i64 0, .int .i64 0, .int .i64 0, .bool false, .int .i64 0, .int .i64 0, .int .i64 0] rfl KR KR KR KR KR KR KR ?_; clear ha HW a; intro a W1546 HW ha
    refine stepp ha 3 (.int .i64 150) KR KR ?_; clear ha a; intro a ha
    refine endl ?_
    refine thenN (hK1545 _ _ ?_); clear hK1545
    refine wp_ret ?_
    refine thenR ?_
    obtain rfl := Option.some.inj h
    exact finv ha _ _ rfl (.cell (ad := ⟨b1528, 0, none⟩) (v := .agg #[.int .i64 0, .int .i64 0, .int .i64 0, .bool false, .int .i64 0, .int .i64 0, .int .i64 0]) KR (run_loadVar_ca0 (HW.ca (i := 0) (b := b1528) (C := #[.int .i64 0, .int .i64 0, .int .i64 0, .bool false, .int .i64 0, .int .i64 0, .int .i64 0]) (T := 39) (fr := (0, 0)) KR) 39 0 (.agg #[.int .i64 0, .int .i64 0, .int .i64 0, .bool false, .int .i64 0, .int .i64 0, .int .i64 0]) KR) (.tmp (v := .int .i64 150) KR .nil)) (.tuple #[.agg #[.int .i64 0, .int .i64 0, .int .i64 0, .bool false, .int .i64 0, .int .i64 0, .int .i64 0], .int .i64 150]) rfl ⟨rfl, HW.pick [] [] (by decide) (by decide) rfl KR⟩
  · skip
    replace h := ite_neg' h hp1540
    replace ha := ha.bool 14 KR (ieq_f hp1540)
    refine stepl ha 15 (HW.ca (i := 1) (b := b1526) (C := #[.string a0]) (T := 9) (fr := (0, 0)) KR) 9 0 (.tmp 1) (.string a0) rfl KR KR KR ?_; clear ha a; intro a ha
    refine stepp ha 16 (.int .i64 (a0.size : Int)) KR KR ?_; clear ha a; intro a ha
    refine stepp ha 17 (.int .i64 t1532) KR KR ?_; clear ha a; intro a ha
    refine stepp ha 18 (.bool ((a0.size : Int) != t1532)) KR KR ?_; clear ha a; intro a ha
    refine stepp ha 19 (.bool ((a0.size : Int) != t1532)) KR KR ?_; clear ha a; intro a ha
    refine stepp ha 20 (.bool ((a0.size : Int) != t1532)) KR KR ?_; clear ha a; intro a ha
    by_cases hp1541 : (a0.size : Int) = t1532
    · skip
      replace h := ite_pos' h hp1541
      replace ha := ha.bool 20 KR (ineq_f hp1541)
      refine stepl ha 21 (HW.ca (i := 1) (b := b1526) (C := #[.string a0]) (T := 9) (fr := (0, 0)) KR) 9 0 (.tmp 1) (.string a0) rfl KR KR KR ?_; clear ha a; intro a ha
      refine stepp ha 22 (.int .i64 t1532) KR KR ?_; clear ha a; intro a ha
      refine stepp ha 23 (.int .i64 (IntKind.wrap .i64 (t1532 - 1))) KR KR ?_; clear ha a; intro a ha
      obtain ⟨hA1542, h_⟩ := asrt_some h; clear h; have h := h_; clear h_
      obtain ⟨hA1543, h_⟩ := asrt_some h; clear h; have h := h_; clear h_
      refine stepsi ha 24 9 (.tmp 21) (.tmp 23) a0 .i64 (IntKind.wrap .i64 (t1532 - 1)) rfl KR KR KR hA1542 (show (IntKind.wrap .i64 (t1532 - 1) : Int) < ((a0).size : Int) from hA1543) KR ?_; clear ha a; intro a ha
      refine stepp ha 25 (.bool ((bt a0 (IntKind.wrap .i64 (t1532 - 1))) != 0)) KR KR ?_; clear ha a; intro a ha
      refine stepp ha 26 (.bool ((bt a0 (IntKind.wrap .i64 (t1532 - 1))) != 0)) KR KR ?_; clear ha a; intro a ha
      refine endl ?_
      refine thenN (hK1539 _ _ ?_); clear hK1539
      by_cases hp1547 : (bt a0 (IntKind.wrap .i64 (t1532 - 1))) = 0
      · skip
        replace h := ite_pos' h hp1547
        refine condF ha KR KR (t := ((bt a0 (IntKind.wrap .i64 (t1532 - 1))) != 0)) (ineq_f hp1547) ?_
        refine wp_skip ?_
        refine thenN (hK1537 _ _ ?_); clear hK1537
        refine wp_seq_k (fun K1554 hK1555 => ?_)
        refine wp_region_lit ?_
        refine stepl ha 28 (HW.ca (i := 1) (b := b1526) (C := #[.string a0]) (T := 9) (fr := (0, 0)) KR) 9 0 (.tmp 1) (.string a0) rfl KR KR KR ?_; clear ha a; intro a ha
        obtain ⟨hA1556, h_⟩ := asrt_some h; clear h; have h := h_; clear h_
        refine stepsi ha 29 9 (.tmp 28) (.const (.int .i64 0)) a0 .i64 0 rfl KR KR KR (by decide) (show (0 : Int) < ((a0).size : Int) from hA1556) KR ?_; clear ha a; intro a ha
        refine stepp ha 30 (.int .i64 (IntKind.wrap .i64 (bt a0 0))) KR KR ?_; clear ha a; intro a ha
        obtain ⟨t1557, ht1558, h_⟩ := bind_some' h; clear h; have h := h_; clear h_
        refine stepc ha 31 KR KR (cdb_formOf.calls K (IntKind.wrap .i64 (bt a0 0)) t1557 _ (HW.ca0 hG1) ht1558) ?_; clear ha a; rintro e W1560 ⟨b1559, rfl, HX1561⟩
        refine ⟨_, rfl, ?_⟩; intro a ha; replace HW := HW.callw HX1561; clear HX1561
        rcases t1557 with _ | x1562
        · skip
          replace h := optc_n h
          replace HW : Wd w W1560 [(b1528, .cells #[.int .i64 0, .int .i64 0, .int .i64 0, .bool false, .int .i64 0, .int .i64 0, .int .i64 0] 39 (0, 0)), (b1526, .cells #[.string a0] 9 (0, 0))] [] := HW
          replace ha := ha.turn 31 (v := .pointer none) KR rfl
          refine stepp ha 5 (.pointer none) KR KR ?_; clear ha a; intro a ha
          refine endl ?_
          refine thenN (hK1555 _ _ ?_); clear hK1555
          refine wp_seq_k (fun K1563 hK1564 => ?_)
          refine wp_region_lit ?_
          refine stepp ha 32 (.pointer none) KR KR ?_; clear ha a; intro a ha
          exact (none_some h).elim
        · skip
          replace h := optc_s h
          replace HW : Wd w W1560 [(b1559, .cells #[.int .i64 x1562.f0, .int .i64 x1562.f1, .int .i64 x1562.f2.f0, .int .i64 x1562.f2.f1, .int .i64 x1562.f3.f0, .int .i64 x1562.f3.f1, .int .i64 x1562.f4.f0, .int .i64 x1562.f4.f1] 75 (0, 0)), (b1528, .cells #[.int .i64 0, .int .i64 0, .int .i64 0, .bool false, .int .i64 0, .int .i64 0, .int .i64 0] 39 (0, 0)), (b1526, .cells #[.string a0] 9 (0, 0))] [] := HW
          replace ha := ha.turn 31 (v := .pointer (some ⟨b1559, 0, none⟩)) KR rfl
          refine stepp ha 5 (.pointer (some ⟨b1559, 0, none⟩)) KR KR ?_; clear ha a; intro a ha
          refine endl ?_
          refine thenN (hK1555 _ _ ?_); clear hK1555
          refine wp_seq_k (fun K1565 hK1566 => ?_)
          refine wp_region_lit ?_
          refine stepp ha 32 (.pointer (some ⟨b1559, 0, none⟩)) KR KR ?_; clear ha a; intro a ha
          refine stepp ha 33 (.pointer (some ⟨b1559, 0, none⟩)) KR KR ?_; clear ha a; intro a ha
          refine stepp ha 34 (.pointer (some ⟨b1559, 0, none⟩)) KR KR ?_; clear ha a; intro a ha
          refine stepl ha 35 (HW.ca (i := 0) (b := b1559) (C := #[.int .i64 x1562.f0, .int .i64 x1562.f1, .int .i64 x1562.f2.f0, .int .i64 x1562.f2.f1, .int .i64 x1562.f3.f0, .int .i64 x1562.f3.f1, .int .i64 x1562.f4.f0, .int .i64 x1562.f4.f1]) (T := 75) (fr := (0, 0)) KR) 3 0 (.tmp 34) (.int .i64 x1562.f0) rfl KR KR KR ?_; clear ha a; intro a ha
          refine stepp ha 36 (.agg #[.int .i64 x1562.f0, .int .i64 0, .int .i64 0, .bool false, .int .i64 0, .int .i64 0, .int .i64 0]) KR KR ?_; clear ha a; intro a ha
          refine stepnew ha HW 6 #[.int .i64 0, .int .i64 0, .int .i64 0, .bool false, .int .i64 0, .int .i64 0, .int .i64 0] 39 KR KR ?_; clear ha HW a; intro b1567 a W1568 HW ha
          refine stepst ha HW 0 (b := b1567) (C := #[.int .i64 0, .int .i64 0, .int .i64 0, .bool false, .int .i64 0, .int .i64 0, .int .i64 0]) (T := 39) KR 39 0 (.tmp 6) (.tmp 36) (.agg #[.int .i64 x1562.f0, .int .i64 0, .int .i64 0, .bool false, .int .i64 0, .int .i64 0, .int .i64 0]) #[.int .i64 x1562.f0, .int .i64 0, .int .i64 0, .bool false, .int .i64 0, .int .i64 0, .int .i64 0] rfl KR KR KR KR KR KR KR ?_; clear ha HW a; intro a W1569 HW ha
          refine endl ?_
          refine thenN (hK1566 _ _ ?_); clear hK1566
          refine wp_seq_k (fun K1570 hK1571 => ?_)
          refine wp_region_lit ?_
          refine stepp ha 37 (.func (.func 33) #[] #[.pointer (some ⟨b1526, 0, none⟩)]) KR KR ?_; clear ha a; intro a ha
          refine stepp ha 7 (.func (.func 33) #[] #[.pointer (some ⟨b1526, 0, none⟩)]) KR KR ?_; clear ha a; intro a ha
          refine endl ?_
          refine thenN (hK1571 _ _ ?_); clear hK1571
          refine wp_seq_k (fun K1572 hK1573 => ?_)
          obtain ⟨t1574, ht1575, h_⟩ := bind_some' h; clear h; have h := h_; clear h_
          obtain ⟨t1578, ht1579, h_⟩ := bind_some' h; clear h; have h := h_; clear h_
          obtain ⟨t1582, ht1583, h_⟩ := bind_some' h; clear h; have h := h_; clear h_
          refine regionL 22 KR ([(b1559, .cells #[.int .i64 x1562.f0, .int .i64 x1562.f1, .int .i64 x1562.f2.f0, .int .i64 x1562.f2.f1, .int .i64 x1562.f3.f0, .int .i64 x1562.f3.f1, .int .i64 x1562.f4.f0, .int .i64 x1562.f4.f1] 75 (0, 0)), (b1528, .cells #[.int .i64 0, .int .i64 0, .int .i64 0, .bool false, .int .i64 0, .int .i64 0, .int .i64 0] 39 (0, 0)), (b1526, .cells #[.string a0] 9 (0, 0))], []) ([(b1567, .cells #[.int .i64 x1562.f0, .int .i64 0, .int .i64 0, .bool false, .int .i64 0, .int .i64 0, .int .i64 0] 39 (0, 0)), (b1559, .cells #[.int .i64 x1562.f0, .int .i64 x1562.f1, .int .i64 x1562.f2.f0, .int .i64 x1562.f2.f1, .int .i64 x1562.f3.f0, .int .i64 x1562.f3.f1, .int .i64 x1562.f4.f0, .int .i64 x1562.f4.f1] 75 (0, 0)), (b1528, .cells #[.int .i64 0, .int .i64 0, .int .i64 0, .bool false, .int .i64 0, .int .i64 0, .int .i64 0] 39 (0, 0)), (b1526, .cells #[.string a0] 9 (0, 0))], []) [none, none, none, none, none, none, none, none, none, none, none, none, none, none, none, none, none, none, none, some ([(b1567, .cells #[.int .i64 x1562.f0, .int .i64 t1574, .int .i64 0, .bool false, .int .i64 0, .int .i64 0, .int .i64 0] 39 (0, 0)), (b1559, .cells #[.int .i64 x1562.f0, .int .i64 x1562.f1, .int .i64 x1562.f2.f0, .int .i64 x1562.f2.f1, .int .i64 x1562.f3.f0, .int .i64 x1562.f3.f1, .int .i64 x1562.f4.f0, .int .i64 x1562.f4.f1] 75 (0, 0)), (b1528, .cells #[.int .i64 0, .int .i64 0, .int .i64 0, .bool false, .int .i64 0, .int .i64 0, .int .i64 0] 39 (0, 0)), (b1526, .cells #[.string a0] 9 (0, 0))], []), none, some ([(b1567, .cells #[.int .i64 x1562.f0, .int .i64 t1574, .int .i64 t1578, .bool false, .int .i64 0, .int .i64 0, .int .i64 0] 39 (0, 0)), (b1559, .cells #[.int .i64 x1562.f0, .int .i64 x1562.f1, .int .i64 x1562.f2.f0, .int .i64 x1562.f2.f1, .int .i64 x1562.f3.f0, .int .i64 x1562.f3.f1, .int .i64 x1562.f4.f0, .int .i64 x1562.f4.f1] 75 (0, 0)), (b1528, .cells #[.int .i64 0, .int .i64 0, .int .i64 0, .bool false, .int .i64 0, .int .i64 0, .int .i64 0] 39 (0, 0)), (b1526, .cells #[.string a0] 9 (0, 0))], [])] [.fix (.func (.func 33) #[] #[.pointer (some ⟨b1526, 0, none⟩)]), .fix (.pointer (some ⟨b1559, 0, none⟩)), .fix (.pointer (some ⟨b1559, 0, none⟩)), .fix (.pointer (some ⟨b1559, 2, none⟩)), .fix (.agg #[.int .i64 x1562.f2.f0, .int .i64 x1562.f2.f1]), .fix (.int .i64 t1574), .fix (.func (.func 33) #[] #[.pointer (some ⟨b1526, 0, none⟩)]), .fix (.pointer (some ⟨b1559, 0, none⟩)), .fix (.pointer (some ⟨b1559, 0, none⟩)), .fix (.pointer (some ⟨b1559, 4, none⟩)), .fix (.agg #[.int .i64 x1562.f3.f0, .int .i64 x1562.f3.f1]), .fix (.int .i64 t1578), .fix (.func (.func 33) #[] #[.pointer (some ⟨b1526, 0, none⟩)]), .fix (.pointer (some ⟨b1559, 0, none⟩)), .fix (.pointer (some ⟨b1559, 0, none⟩)), .fix (.pointer (some ⟨b1559, 6, none⟩)), .fix (.agg #[.int .i64 x1562.f4.f0, .int .i64 x1562.f4.f1]), .fix (.int .i64 t1582), .fix (.pointer (some ⟨b1567, 1, none⟩)), .any, .fix (.pointer (some ⟨b1567, 2, none⟩)), .any] KR ha HW ⟨(fun w_ h_ => h_.pick [1, 2, 3] [] (by decide) (by decide) KR KR), ⟨(fun w_ h_ => h_.pick [1, 2, 3] [] (by decide) (by decide) KR KR), (fun w_ h_ => h_.pick [1, 2, 3] [] (by decide) (by decide) KR KR)⟩⟩ ?_ ?_
          · skip
            refine ⟨?_, ?_, ?_, ?_, ?_, ?_, ?_, ?_, ?_, ?_, ?_, ?_, ?_, ?_, ?_, ?_, ?_, ?_, ?_, ?_, ?_, ?_, trivial⟩
            · skip
              intro a wr hn hd HW hs; have ha := hasNil hn hd
              have ha := ha.add (seeE hs 7 (.func (.func 33) #[] #[.pointer (some ⟨b1526, 0, none⟩)]) KR KR)
              refine yStep ha 38 KR ?_; intro l_ ha HK
              refine stepp ha 38 (.func (.func 33) #[] #[.pointer (some ⟨b1526, 0, none⟩)]) KR KR ?_; intro ax hax; exact HK _ _ _ hax rfl (Below.refl _ _)
            · skip
              intro a wr hn hd HW hs; have ha := hasNil hn hd
              have ha := ha.add (seeE hs 5 (.pointer (some ⟨b1559, 0, none⟩)) KR KR)
              refine yStep ha 39 KR ?_; intro l_ ha HK
              refine stepp ha 39 (.pointer (some ⟨b1559, 0, none⟩)) KR KR ?_; intro ax hax; exact HK _ _ _ hax rfl (Below.refl _ _)
            · skip
              intro a wr hn hd HW hs; have ha := hasNil hn hd
              have ha := ha.add (seeF hs 39 1 (.pointer (some ⟨b1559, 0, none⟩)) KR KR)
              refine yStep ha 40 KR ?_; intro l_ ha HK
              refine stepp ha 40 (.pointer (some ⟨b1559, 0, none⟩)) KR KR ?_; intro ax hax; exact HK _ _ _ hax rfl (Below.refl _ _)
            · skip
              intro a wr hn hd HW hs; have ha := hasNil hn hd
              have ha := ha.add (seeF hs 40 2 (.pointer (some ⟨b1559, 0, none⟩)) KR KR)
              refine yStep ha 41 KR ?_; intro l_ ha HK
              refine stepp ha 41 (.pointer (some ⟨b1559, 2, none⟩)) KR KR ?_; intro ax hax; exact HK _ _ _ hax rfl (Below.refl _ _)
            · skip
              intro a wr hn hd HW hs; have ha := hasNil hn hd
              have ha := ha.add (seeF hs 41 3 (.pointer (some ⟨b1559, 2, none⟩)) KR KR)
              refine yStep ha 42 KR ?_; intro l_ ha HK
              refine stepl ha 42 (HW.ca (i := 0) (b := b1559) (C := #[.int .i64 x1562.f0, .int .i64 x1562.f1, .int .i64 x1562.f2.f0, .int .i64 x1562.f2.f1, .int .i64 x1562.f3.f0, .int .i64 x1562.f3.f1, .int .i64 x1562.f4.f0, .int .i64 x1562.f4.f1]) (T := 75) (fr := (0, 0)) KR) 73 2 (.tmp 41) (.agg #[.int .i64 x1562.f2.f0, .int .i64 x1562.f2.f1]) rfl KR KR KR ?_; intro ax hax; exact HK _ _ _ hax rfl (Below.refl _ _)
            · skip
              intro a wr hn hd HW hs; have ha := hasNil hn hd
              have ha := ha.add (seeF hs 38 0 (.func (.func 33) #[] #[.pointer (some ⟨b1526, 0, none⟩)]) KR KR)
              have ha := ha.add (seeF hs 42 4 (.agg #[.int .i64 x1562.f2.f0, .int .i64 x1562.f2.f1]) KR KR)
              refine yStep ha 43 KR ?_; intro l_ ha HK
              refine stepc ha 43 KR KR (cdb_Parse_1.calls K (⟨x1562.f2.f0, x1562.f2.f1⟩ : T_cdb_span) a0 b1526 t1574 _ (HW.ca (i := 2) (b := b1526) (C := #[.string a0]) (T := 9) (fr := (0, 0)) KR) ht1575) ?_; rintro e W1576 ⟨rfl, HX1577⟩
              refine ⟨_, rfl, ?_⟩; intro ax hax; exact HK _ _ _ hax rfl HX1577.below
            · skip
              intro a wr hn hd HW hs; have ha := hasNil hn hd
              have ha := ha.add (seeE hs 7 (.func (.func 33) #[] #[.pointer (some ⟨b1526, 0, none⟩)]) KR KR)
              refine yStep ha 44 KR ?_; intro l_ ha HK
              refine stepp ha 44 (.func (.func 33) #[] #[.pointer (some ⟨b1526, 0, none⟩)]) KR KR ?_; intro ax hax; exact HK _ _ _ hax rfl (Below.refl _ _)
            · skip
              intro a wr hn hd HW hs; have ha := hasNil hn hd
              have ha := ha.add (seeE hs 5 (.pointer (some ⟨b1559, 0, none⟩)) KR KR)
              refine yStep ha 45 KR ?_; intro l_ ha HK
              refine stepp ha 45 (.pointer (some ⟨b1559, 0, none⟩)) KR KR ?_; intro ax hax; exact HK _ _ _ hax rfl (Below.refl _ _)
            · skip
              intro a wr hn hd HW hs; have ha := hasNil hn hd
              have ha := ha.add (seeF hs 45 7 (.pointer (some ⟨b1559, 0, none⟩)) KR KR)
              refine yStep ha 46 KR ?_; intro l_ ha HK
              refine stepp ha 46 (.pointer (some ⟨b1559, 0, none⟩)) KR KR ?_; intro ax hax; exact HK _ _ _ hax rfl (Below.refl _ _)
            · skip
              intro a wr hn hd HW hs; have ha := hasNil hn hd
              have ha := ha.add (seeF hs 46 8 (.pointer (some ⟨b1559, 0, none⟩)) KR KR)
              refine yStep ha 47 KR ?_; intro l_ ha HK
              refine stepp ha 47 (.pointer (some ⟨b1559, 4, none⟩)) KR KR ?_; intro ax hax; exact HK _ _ _ hax rfl (Below.refl _ _)
            · skip
              intro a wr hn hd HW hs; have ha := hasNil hn hd
              have ha := ha.add (seeF hs 47 9 (.pointer (some ⟨b1559, 4, none⟩)) KR KR)
              refine yStep ha 48 KR ?_; intro l_ ha HK
              refine stepl ha 48 (HW.ca (i := 0) (b := b1559) (C := #[.int .i64 x1562.f0, .int .i64 x1562.f1, .int .i64 x1562.f2.f0, .int .i64 x1562.f2.f1, .int .i64 x1562.f3.f0, .int .i64 x1562.f3.f1, .int .i64 x1562.f4.f0, .int .i64 x1562.f4.f1]) (T := 75) (fr := (0, 0)) KR) 73 4 (.tmp 47) (.agg #[.int .i64 x1562.f3.f0, .int .i64 x1562.f3.f1]) rfl KR KR KR ?_; intro ax hax; exact HK _ _ _ hax rfl (Below.refl _ _)
            · skip
              intro a wr hn hd HW hs; have ha := hasNil hn hd
              have ha := ha.add (seeF hs 44 6 (.func (.func 33) #[] #[.pointer (some ⟨b1526, 0, none⟩)]) KR KR)
              have ha := ha.add (seeF hs 48 10 (.agg #[.int .i64 x1562.f3.f0, .int .i64 x1562.f3.f1]) KR KR)
              refine yStep ha 49 KR ?_; intro l_ ha HK
              refine stepc ha 49 KR KR (cdb_Parse_1.calls K (⟨x1562.f3.f0, x1562.f3.f1⟩ : T_cdb_span) a0 b1526 t1578 _ (HW.ca (i := 2) (b := b1526) (C := #[.string a0]) (T := 9) (fr := (0, 0)) KR) ht1579) ?_; rintro e W1580 ⟨rfl, HX1581⟩
              refine ⟨_, rfl, ?_⟩; intro ax hax; exact HK _ _ _ hax rfl HX1581.below
            · skip
              intro a wr hn hd HW hs; have ha := hasNil hn hd
              have ha := ha.add (seeE hs 7 (.func (.func 33) #[] #[.pointer (some ⟨b1526, 0, none⟩)]) KR KR)
              refine yStep ha 50 KR ?_; intro l_ ha HK
              refine stepp ha 50 (.func (.func 33) #[] #[.pointer (some ⟨b1526, 0, none⟩)]) KR KR ?_; intro ax hax; exact HK _ _ _ hax rfl (Below.refl _ _)
            · skip
              intro a wr hn hd HW hs; have ha := hasNil hn hd
              have ha := ha.add (seeE hs 5 (.pointer (some ⟨b1559, 0, none⟩)) KR KR)
              refine yStep ha 51 KR ?_; intro l_ ha HK
              refine stepp ha 51 (.pointer (some ⟨b1559, 0, none⟩)) KR KR ?_; intro ax hax; exact HK _ _ _ hax rfl (Below.refl _ _)
            · skip
              intro a wr hn hd HW hs; have ha := hasNil hn hd
              have ha := ha.add (seeF hs 51 13 (.pointer (some ⟨b1559, 0, none⟩)) KR KR)
              refine yStep ha 52 KR ?_; intro l_ ha HK
              refine stepp ha 52 (.pointer (some ⟨b1559, 0, none⟩)) KR KR ?_; intro ax hax; exact HK _ _ _ hax rfl (Below.refl _ _)
            · skip
              intro a wr hn hd HW hs; have ha := hasNil hn hd
              have ha := ha.add (seeF hs 52 14 (.pointer (some ⟨b1559, 0, none⟩)) KR KR)
              refine yStep ha 53 KR ?_; intro l_ ha HK
              refine stepp ha 53 (.pointer (some ⟨b1559, 6, none⟩)) KR KR ?_; intro ax hax; exact HK _ _ _ hax rfl (Below.refl _ _)
            · skip
              intro a wr hn hd HW hs; have ha := hasNil hn hd
              have ha := ha.add (seeF hs 53 15 (.pointer (some ⟨b1559, 6, none⟩)) KR KR)
              refine yStep ha 54 KR ?_; intro l_ ha HK
              refine stepl ha 54 (HW.ca (i := 0) (b := b1559) (C := #[.int .i64 x1562.f0, .int .i64 x1562.f1, .int .i64 x1562.f2.f0, .int .i64 x1562.f2.f1, .int .i64 x1562.f3.f0, .int .i64 x1562.f3.f1, .int .i64 x1562.f4.f0, .int .i64 x1562.f4.f1]) (T := 75) (fr := (0, 0)) KR) 73 6 (.tmp 53) (.agg #[.int .i64 x1562.f4.f0, .int .i64 x1562.f4.f1]) rfl KR KR KR ?_; intro ax hax; exact HK _ _ _ hax rfl (Below.refl _ _)
            · skip
              intro a wr hn hd HW hs; have ha := hasNil hn hd
              have ha := ha.add (seeF hs 50 12 (.func (.func 33) #[] #[.pointer (some ⟨b1526, 0, none⟩)]) KR KR)
              have ha := ha.add (seeF hs 54 16 (.agg #[.int .i64 x1562.f4.f0, .int .i64 x1562.f4.f1]) KR KR)
              refine yStep ha 55 KR ?_; intro l_ ha HK
              refine stepc ha 55 KR KR (cdb_Parse_1.calls K (⟨x1562.f4.f0, x1562.f4.f1⟩ : T_cdb_span) a0 b1526 t1582 _ (HW.ca (i := 2) (b := b1526) (C := #[.string a0]) (T := 9) (fr := (0, 0)) KR) ht1583) ?_; rintro e W1584 ⟨rfl, HX1585⟩
              refine ⟨_, rfl, ?_⟩; intro ax hax; exact HK _ _ _ hax rfl HX1585.below
            · skip
              intro a wr hn hd HW hs; have ha := hasNil hn hd
              have ha := ha.add (seeE hs 6 (.pointer (some ⟨b1567, 0, none⟩)) KR KR)
              refine yStep ha 56 KR ?_; intro l_ ha HK
              refine stepp ha 56 (.pointer (some ⟨b1567, 1, none⟩)) KR KR ?_; intro ax hax; exact HK _ _ _ hax rfl (Below.refl _ _)
            · skip
              intro a wr hn hd HW hs; have ha := hasNil hn hd
              have ha := ha.add (seeF hs 43 5 (.int .i64 t1574) KR KR)
              have ha := ha.add (seeF hs 56 18 (.pointer (some ⟨b1567, 1, none⟩)) KR KR)
              refine yStepS ha KR ?_; intro l_ ha HK
              refine stepst ha HW 0 (b := b1567) (C := #[.int .i64 x1562.f0, .int .i64 0, .int .i64 0, .bool false, .int .i64 0, .int .i64 0, .int .i64 0]) (T := 39) KR 3 1 (.tmp 56) (.tmp 43) (.int .i64 t1574) #[.int .i64 x1562.f0, .int .i64 t1574, .int .i64 0, .bool false, .int .i64 0, .int .i64 0, .int .i64 0] rfl KR KR KR KR KR KR KR ?_; intro ax wx HV hax; exact HK _ _ hax HV
            · skip
              intro a wr hn hd HW hs; have ha := hasNil hn hd
              have ha := ha.add (seeE hs 6 (.pointer (some ⟨b1567, 0, none⟩)) KR KR)
              refine yStep ha 57 KR ?_; intro l_ ha HK
              refine stepp ha 57 (.pointer (some ⟨b1567, 2, none⟩)) KR KR ?_; intro ax hax; exact HK _ _ _ hax rfl (Below.refl _ _)
            · skip
              intro a wr hn hd HW hs; have ha := hasNil hn hd
              have ha := ha.add (seeF hs 49 11 (.int .i64 t1578) KR KR)
              have ha := ha.add (seeF hs 57 20 (.pointer (some ⟨b1567, 2, none⟩)) KR KR)
              refine yStepS ha KR ?_; intro l_ ha HK
              refine stepst ha HW 0 (b := b1567) (C := #[.int .i64 x1562.f0, .int .i64 t1574, .int .i64 0, .bool false, .int .i64 0, .int .i64 0, .int .i64 0]) (T := 39) KR 3 2 (.tmp 57) (.tmp 49) (.int .i64 t1578) #[.int .i64 x1562.f0, .int .i64 t1574, .int .i64 t1578, .bool false, .int .i64 0, .int .i64 0, .int .i64 0] rfl KR KR KR KR KR KR KR ?_; intro ax wx HV hax; exact HK _ _ hax HV
          · skip
            intro a W1588 ha HW he hf
            replace HW : Wd w W1588 [(b1567, .cells #[.int .i64 x1562.f0, .int .i64 t1574, .int .i64 t1578, .bool false, .int .i64 0, .int .i64 0, .int .i64 0] 39 (0, 0)), (b1559, .cells #[.int .i64 x1562.f0, .int .i64 x1562.f1, .int .i64 x1562.f2.f0, .int .i64 x1562.f2.f1, .int .i64 x1562.f3.f0, .int .i64 x1562.f3.f1, .int .i64 x1562.f4.f0, .int .i64 x1562.f4.f1] 75 (0, 0)), (b1528, .cells #[.int .i64 0, .int .i64 0, .int .i64 0, .bool false, .int .i64 0, .int .i64 0, .int .i64 0] 39 (0, 0)), (b1526, .cells #[.string a0] 9 (0, 0))] [] := HW
            replace ha := ha.add (he 1 (.pointer (some ⟨b1526, 0, none⟩)) KR KR)
            replace ha := ha.add (he 2 (.pointer (some ⟨b1528, 0, none⟩)) KR KR)
            replace ha := ha.add (he 5 (.pointer (some ⟨b1559, 0, none⟩)) KR KR)
            replace ha := ha.add (he 6 (.pointer (some ⟨b1567, 0, none⟩)) KR KR)
            replace ha := ha.add (gotF (m := 22) (j := 17) (d := 55) (v := .int .i64 t1582) hf KR KR KR)
            clear he hf
            refine stepp ha 58 (.pointer (some ⟨b1567, 5, none⟩)) KR KR ?_; clear ha a; intro a ha
            refine stepst ha HW 0 (b := b1567) (C := #[.int .i64 x1562.f0, .int .i64 t1574, .int .i64 t1578, .bool false, .int .i64 0, .int .i64 0, .int .i64 0]) (T := 39) KR 3 5 (.tmp 58) (.tmp 55) (.int .i64 t1582) #[.int .i64 x1562.f0, .int .i64 t1574, .int .i64 t1578, .bool false, .int .i64 0, .int .i64 t1582, .int .i64 0] rfl KR KR KR KR KR KR KR ?_; clear ha HW a; intro a W1589 HW ha
            refine endl ?_
            refine thenN (hK1573 _ _ ?_); clear hK1573
            refine wp_seq_k (fun K1590 hK1591 => ?_)
            refine wp_region_lit ?_
            refine stepp ha 8 (.bool true) KR KR ?_; clear ha a; intro a ha
            refine endl ?_
            refine thenN (hK1591 _ _ ?_); clear hK1591
            refine wp_seq_k (fun K1592 hK1593 => ?_)
            refine cutn (fun a W1670 => ∃ (x1665 : Bool), ∃ (x1666 : Int), ∃ (x1667 : Bool), ∃ (x1668 : Int), ∃ (x1669 : Int), cdb_Parse.j3 K x1562 t1574 t1578 t1582 x1665 x1666 x1667 x1668 x1669 = some r ∧ Has 162 [(2, .pointer (some ⟨b1528, 0, none⟩)), (5, .pointer (some ⟨b1559, 0, none⟩)), (6, .pointer (some ⟨b1567, 0, none⟩)), (8, .bool x1665)] a ∧ Wd w W1670 [(b1528, .cells #[.int .i64 0, .int .i64 0, .int .i64 0, .bool false, .int .i64 0, .int .i64 0, .int .i64 0] 39 (0, 0)), (b1559, .cells #[.int .i64 x1562.f0, .int .i64 x1562.f1, .int .i64 x1562.f2.f0, .int .i64 x1562.f2.f1, .int .i64 x1562.f3.f0, .int .i64 x1562.f3.f1, .int .i64 x1562.f4.f0, .int .i64 x1562.f4.f1] 75 (0, 0)), (b1567, .cells #[.int .i64 x1666, .int .i64 t1574, .int .i64 t1578, .bool x1667, .int .i64 x1668, .int .i64 t1582, .int .i64 x1669] 39 (0, 0))] []) ?_ ?_
            · skip
              refine wp_seq_k (fun K1594 hK1595 => ?_)
              refine wp_region_lit ?_
              refine stepp ha 59 (.pointer (some ⟨b1559, 0, none⟩)) KR KR ?_; clear ha a; intro a ha
              refine stepp ha 60 (.pointer (some ⟨b1559, 0, none⟩)) KR KR ?_; clear ha a; intro a ha
              refine stepp ha 61 (.pointer (some ⟨b1559, 0, none⟩)) KR KR ?_; clear ha a; intro a ha
              refine stepl ha 62 (HW.ca (i := 1) (b := b1559) (C := #[.int .i64 x1562.f0, .int .i64 x1562.f1, .int .i64 x1562.f2.f0, .int .i64 x1562.f2.f1, .int .i64 x1562.f3.f0, .int .i64 x1562.f3.f1, .int .i64 x1562.f4.f0, .int .i64 x1562.f4.f1]) (T := 75) (fr := (0, 0)) KR) 3 0 (.tmp 61) (.int .i64 x1562.f0) rfl KR KR KR ?_; clear ha a; intro a ha
              refine endl ?_
              refine thenN (hK1595 _ _ ?_); clear hK1595
              refine wp_block ?_
              refine wp_seq_k (fun K1596 hK1597 => ?_)
              refine wp_region_lit ?_
              refine stepp ha 64 (.bool (x1562.f0 == 18)) KR KR ?_; clear ha a; intro a ha
              refine stepp ha 63 (.bool (x1562.f0 == 18)) KR KR ?_; clear ha a; intro a ha
              refine endl ?_
              refine thenN (hK1597 _ _ ?_); clear hK1597
              by_cases hp1598 : x1562.f0 = 18
              · skip
                replace h := ite_pos' h hp1598
                refine condT ha KR KR (t := (x1562.f0 == 18)) (ieq_t hp1598) ?_
                refine wp_seq_k (fun K1599 hK1600 => ?_)
                refine wp_region_lit ?_
                refine stepl ha 65 (HW.ca (i := 3) (b := b1526) (C := #[.string a0]) (T := 9) (fr := (0, 0)) KR) 9 0 (.tmp 1) (.string a0) rfl KR KR KR ?_; clear ha a; intro a ha
                obtain ⟨hA1601, h_⟩ := asrt_some h; clear h; have h := h_; clear h_
                refine stepsi ha 66 9 (.tmp 65) (.const (.int .i64 1)) a0 .i64 1 rfl KR KR KR (by decide) (show (1 : Int) < ((a0).size : Int) from hA1601) KR ?_; clear ha a; intro a ha
                refine stepp ha 67 (.int .u8 (band .u8 (bt a0 1) 1)) KR KR ?_; clear ha a; intro a ha
                refine stepp ha 68 (.bool ((band .u8 (bt a0 1) 1) == 1)) KR KR ?_; clear ha a; intro a ha
                refine endl ?_
                refine thenN (hK1600 _ _ ?_); clear hK1600
                by_cases hp1602 : (band .u8 (bt a0 1) 1) = 1
                · skip
                  replace h := ite_pos' h hp1602
                  refine condT ha KR KR (t := ((band .u8 (bt a0 1) 1) == 1)) (ieq_t hp1602) ?_
                  refine wp_region_lit ?_
                  refine stepl ha 69 (HW.ca (i := 3) (b := b1526) (C := #[.string a0]) (T := 9) (fr := (0, 0)) KR) 9 0 (.tmp 1) (.string a0) rfl KR KR KR ?_; clear ha a; intro a ha
                  obtain ⟨hA1603, h_⟩ := asrt_some h; clear h; have h := h_; clear h_
                  refine stepsi ha 70 9 (.tmp 69) (.const (.int .i64 2)) a0 .i64 2 rfl KR KR KR (by decide) (show (2 : Int) < ((a0).size : Int) from hA1603) KR ?_; clear ha a; intro a ha
                  refine stepp ha 71 (.int .i64 (IntKind.wrap .i64 (bt a0 2))) KR KR ?_; clear ha a; intro a ha
                  refine stepp ha 72 (.int .i64 (IntKind.wrap .i64 (256 + (IntKind.wrap .i64 (bt a0 2))))) KR KR ?_; clear ha a; intro a ha
                  refine stepp ha 73 (.pointer (some ⟨b1567, 4, none⟩)) KR KR ?_; clear ha a; intro a ha
                  refine stepst ha HW 0 (b := b1567) (C := #[.int .i64 x1562.f0, .int .i64 t1574, .int .i64 t1578, .bool false, .int .i64 0, .int .i64 t1582, .int .i64 0]) (T := 39) KR 3 4 (.tmp 73) (.tmp 72) (.int .i64 (IntKind.wrap .i64 (256 + (IntKind.wrap .i64 (bt a0 2))))) #[.int .i64 x1562.f0, .int .i64 t1574, .int .i64 t1578, .bool false, .int .i64 (IntKind.wrap .i64 (256 + (IntKind.wrap .i64 (bt a0 2)))), .int .i64 t1582, .int .i64 0] rfl KR KR KR KR KR KR KR ?_; clear ha HW a; intro a W1604 HW ha
                  refine endl ?_
                  refine blkN ?_
                  exact thenN ⟨true, x1562.f0, false, IntKind.wrap .i64 (256 + (IntKind.wrap .i64 (bt a0 2))), 0, h, ha.sub (subs_cons KR (subs_cons KR (subs_cons KR (subs_cons KR (subs_nil _))))), HW.pick [2, 1, 0] [] (by decide) (by decide) KR KR⟩
                · skip
                  replace h := ite_neg' h hp1602
                  refine condF ha KR KR (t := ((band .u8 (bt a0 1) 1) == 1)) (ieq_f hp1602) ?_
                  refine wp_skip ?_
                  refine blkN ?_
                  exact thenN ⟨true, x1562.f0, false, 0, 0, h, ha.sub (subs_cons KR (subs_cons KR (subs_cons KR (subs_cons KR (subs_nil _))))), HW.pick [2, 1, 0] [] (by decide) (by decide) KR KR⟩
              · skip
                replace h := ite_neg' h hp1598
                refine condF ha KR KR (t := (x1562.f0 == 18)) (ieq_f hp1598) ?_
                refine wp_seq_k (fun K1605 hK1606 => ?_)
                refine cutn (fun a W1611 => ∃ (x1610 : Bool), cdb_Parse.j0 K a0 x1562 t1574 t1578 t1582 x1610 = some r ∧ Has 162 [(1, .pointer (some ⟨b1526, 0, none⟩)), (2, .pointer (some ⟨b1528, 0, none⟩)), (5, .pointer (some ⟨b1559, 0, none⟩)), (6, .pointer (some ⟨b1567, 0, none⟩)), (8, .bool true), (62, .int .i64 x1562.f0), (74, .bool x1610)] a ∧ Wd w W1611 [(b1526, .cells #[.string a0] 9 (0, 0)), (b1528, .cells #[.int .i64 0, .int .i64 0, .int .i64 0, .bool false, .int .i64 0, .int .i64 0, .int .i64 0] 39 (0, 0)), (b1559, .cells #[.int .i64 x1562.f0, .int .i64 x1562.f1, .int .i64 x1562.f2.f0, .int .i64 x1562.f2.f1, .int .i64 x1562.f3.f0, .int .i64 x1562.f3.f1, .int .i64 x1562.f4.f0, .int .i64 x1562.f4.f1] 75 (0, 0)), (b1567, .cells #[.int .i64 x1562.f0, .int .i64 t1574, .int .i64 t1578, .bool false, .int .i64 0, .int .i64 t1582, .int .i64 0] 39 (0, 0))] []) ?_ ?_
                · skip
                  refine wp_seq_k (fun K1607 hK1608 => ?_)
                  refine wp_region_lit ?_
                  refine stepp ha 75 (.bool (x1562.f0 == 42)) KR KR ?_; clear ha a; intro a ha
                  refine stepp ha 74 (.bool (x1562.f0 == 42)) KR KR ?_; clear ha a; intro a ha
                  refine endl ?_
                  refine thenN (hK1608 _ _ ?_); clear hK1608
                  by_cases hp1609 : x1562.f0 = 42
                  · skip
                    replace h := ite_pos' h hp1609
                    refine condT ha KR KR (t := (x1562.f0 == 42)) (ieq_t hp1609) ?_
                    refine wp_skip ?_
                    exact thenN ⟨(x1562.f0 == 42), h, ha.sub (subs_cons KR (subs_cons KR (subs_cons KR (subs_cons KR (subs_cons KR (subs_cons KR (subs_cons KR (subs_nil _)))))))), HW.pick [3, 2, 1, 0] [] (by decide) (by decide) KR KR⟩
                  · skip
                    replace h := ite_neg' h hp1609
                    refine condF ha KR KR (t := (x1562.f0 == 42)) (ieq_f hp1609) ?_
                    refine wp_region_lit ?_
                    refine stepp ha 76 (.bool (x1562.f0 == 138)) KR KR ?_; clear ha a; intro a ha
                    refine stepp ha 74 (.bool (x1562.f0 == 138)) KR KR ?_; clear ha a; intro a ha
                    refine endl ?_
                    exact thenN ⟨(x1562.f0 == 138), h, ha.sub (subs_cons KR (subs_cons KR (subs_cons KR (subs_cons KR (subs_cons KR (subs_cons KR (subs_cons KR (subs_nil _)))))))), HW.pick [3, 2, 1, 0] [] (by decide) (by decide) KR KR⟩
                · skip
                  intro a W1611 hJ
                  obtain ⟨x1610, h, ha, HW⟩ := hJ
                  replace h : cdb_Parse.j0 K a0 x1562 t1574 t1578 t1582 x1610 = some r := h
                  unfold cdb_Parse.j0 at h
                  refine hK1606 _ _ ?_; clear hK1606
                  by_cases hp1612 : x1610 = true
                  · skip
                    replace h := ite_pos' h hp1612
                    refine condT ha KR KR (t := x1610) (hp1612) ?_
                    refine wp_region_lit ?_
                    refine stepl ha 77 (HW.ca (i := 0) (b := b1526) (C := #[.string a0]) (T := 9) (fr := (0, 0)) KR) 9 0 (.tmp 1) (.string a0) rfl KR KR KR ?_; clear ha a; intro a ha
                    obtain ⟨hA1613, h_⟩ := asrt_some h; clear h; have h := h_; clear h_
                    refine stepsi ha 78 9 (.tmp 77) (.const (.int .i64 1)) a0 .i64 1 rfl KR KR KR (by decide) (show (1 : Int) < ((a0).size : Int) from hA1613) KR ?_; clear ha a; intro a ha
                    refine stepp ha 79 (.int .u8 ((bt a0 1).fdiv 8)) KR KR ?_; clear ha a; intro a ha
                    refine stepp ha 80 (.int .u8 (band .u8 ((bt a0 1).fdiv 8) 1)) KR KR ?_; clear ha a; intro a ha
                    refine stepp ha 81 (.bool ((band .u8 ((bt a0 1).fdiv 8) 1) == 1)) KR KR ?_; clear ha a; intro a ha
                    refine stepp ha 82 (.pointer (some ⟨b1567, 3, none⟩)) KR KR ?_; clear ha a; intro a ha
                    refine stepst ha HW 3 (b := b1567) (C := #[.int .i64 x1562.f0, .int .i64 t1574, .int .i64 t1578, .bool false, .int .i64 0, .int .i64 t1582, .int .i64 0]) (T := 39) KR 4 3 (.tmp 82) (.tmp 81) (.bool ((band .u8 ((bt a0 1).fdiv 8) 1) == 1)) #[.int .i64 x1562.f0, .int .i64 t1574, .int .i64 t1578, .bool ((band .u8 ((bt a0 1).fdiv 8) 1) == 1), .int .i64 0, .int .i64 t1582, .int .i64 0] rfl KR KR KR KR KR KR KR ?_; clear ha HW a; intro a W1614 HW ha
                    refine endl ?_
                    refine blkN ?_
                    exact thenN ⟨true, x1562.f0, ((band .u8 ((bt a0 1).fdiv 8) 1) == 1), 0, 0, h, ha.sub (subs_cons KR (subs_cons KR (subs_cons KR (subs_cons KR (subs_nil _))))), HW.pick [1, 2, 3] [] (by decide) (by decide) KR KR⟩
                  · skip
                    replace h := ite_neg' h hp1612
                    refine condF ha KR KR (t := x1610) (bool_f hp1612) ?_
                    refine wp_seq_k (fun K1615 hK1616 => ?_)
                    refine wp_region_lit ?_
                    refine stepp ha 84 (.bool (x1562.f0 == 147)) KR KR ?_; clear ha a; intro a ha
                    refine stepp ha 83 (.bool (x1562.f0 == 147)) KR KR ?_; clear ha a; intro a ha
                    refine endl ?_
                    refine thenN (hK1616 _ _ ?_); clear hK1616
                    by_cases hp1617 : x1562.f0 = 147
                    · skip
                      replace h := ite_pos' h hp1617
                      refine condT ha KR KR (t := (x1562.f0 == 147)) (ieq_t hp1617) ?_
                      refine wp_region_lit ?_
                      refine stepl ha 85 (HW.ca (i := 0) (b := b1526) (C := #[.string a0]) (T := 9) (fr := (0, 0)) KR) 9 0 (.tmp 1) (.string a0) rfl KR KR KR ?_; clear ha a; intro a ha
                      obtain ⟨hA1618, h_⟩ := asrt_some h; clear h; have h := h_; clear h_
                      refine stepsi ha 86 9 (.tmp 85) (.const (.int .i64 1)) a0 .i64 1 rfl KR KR KR (by decide) (show (1 : Int) < ((a0).size : Int) from hA1618) KR ?_; clear ha a; intro a ha
                      refine stepp ha 87 (.int .u8 (band .u8 (bt a0 1) 1)) KR KR ?_; clear ha a; intro a ha
                      refine stepp ha 88 (.bool ((band .u8 (bt a0 1) 1) == 1)) KR KR ?_; clear ha a; intro a ha
                      refine stepp ha 8 (.bool ((band .u8 (bt a0 1) 1) == 1)) KR KR ?_; clear ha a; intro a ha
                      refine endl ?_
                      refine blkN ?_
                      exact thenN ⟨((band .u8 (bt a0 1) 1) == 1), x1562.f0, false, 0, 0, h, ha.sub (subs_cons KR (subs_cons KR (subs_cons KR (subs_cons KR (subs_nil _))))), HW.pick [1, 2, 3] [] (by decide) (by decide) KR KR⟩
                    · skip
                      replace h := ite_neg' h hp1617
                      refine condF ha KR KR (t := (x1562.f0 == 147)) (ieq_f hp1617) ?_
                      refine wp_seq_k (fun K1619 hK1620 => ?_)
                      refine cutn (fun a W1625 => ∃ (x1624 : Bool), cdb_Parse.j1 K a0 x1562 t1574 t1578 t1582 x1624 = some r ∧ Has 162 [(1, .pointer (some ⟨b1526, 0, none⟩)), (2, .pointer (some ⟨b1528, 0, none⟩)), (5, .pointer (some ⟨b1559, 0, none⟩)), (6, .pointer (some ⟨b1567, 0, none⟩)), (8, .bool true), (89, .bool x1624)] a ∧ Wd w W1625 [(b1526, .cells #[.string a0] 9 (0, 0)), (b1528, .cells #[.int .i64 0, .int .i64 0, .int .i64 0, .bool false, .int .i64 0, .int .i64 0, .int .i64 0] 39 (0, 0)), (b1559, .cells #[.int .i64 x1562.f0, .int .i64 x1562.f1, .int .i64 x1562.f2.f0, .int .i64 x1562.f2.f1, .int .i64 x1562.f3.f0, .int .i64 x1562.f3.f1, .int .i64 x1562.f4.f0, .int .i64 x1562.f4.f1] 75 (0, 0)), (b1567, .cells #[.int .i64 x1562.f0, .int .i64 t1574, .int .i64 t1578, .bool false, .int .i64 0, .int .i64 t1582, .int .i64 0] 39 (0, 0))] []) ?_ ?_
                      · skip
                        refine wp_seq_k (fun K1621 hK1622 => ?_)
                        refine wp_region_lit ?_
                        refine stepp ha 90 (.bool (x1562.f0 == 94)) KR KR ?_; clear ha a; intro a ha
                        refine stepp ha 89 (.bool (x1562.f0 == 94)) KR KR ?_; clear ha a; intro a ha
                        refine endl ?_
                        refine thenN (hK1622 _ _ ?_); clear hK1622
                        by_cases hp1623 : x1562.f0 = 94
                        · skip
                          replace h := ite_pos' h hp1623
                          refine condT ha KR KR (t := (x1562.f0 == 94)) (ieq_t hp1623) ?_
                          refine wp_skip ?_
                          exact thenN ⟨(x1562.f0 == 94), h, ha.sub (subs_cons KR (subs_cons KR (subs_cons KR (subs_cons KR (subs_cons KR (subs_cons KR (subs_nil _))))))), HW.pick [0, 1, 2, 3] [] (by decide) (by decide) KR KR⟩
                        · skip
                          replace h := ite_neg' h hp1623
                          refine condF ha KR KR (t := (x1562.f0 == 94)) (ieq_f hp1623) ?_
                          refine wp_region_lit ?_
                          refine stepp ha 91 (.bool (x1562.f0 == 95)) KR KR ?_; clear ha a; intro a ha
                          refine stepp ha 89 (.bool (x1562.f0 == 95)) KR KR ?_; clear ha a; intro a ha
                          refine endl ?_
                          exact thenN ⟨(x1562.f0 == 95), h, ha.sub (subs_cons KR (subs_cons KR (subs_cons KR (subs_cons KR (subs_cons KR (subs_cons KR (subs_nil _))))))), HW.pick [0, 1, 2, 3] [] (by decide) (by decide) KR KR⟩
                      · skip
                        intro a W1625 hJ
                        obtain ⟨x1624, h, ha, HW⟩ := hJ
                        replace h : cdb_Parse.j1 K a0 x1562 t1574 t1578 t1582 x1624 = some r := h
                        unfold cdb_Parse.j1 at h
                        refine hK1620 _ _ ?_; clear hK1620
                        by_cases hp1626 : x1624 = true
                        · skip
                          replace h := ite_pos' h hp1626
                          refine condT ha KR KR (t := x1624) (hp1626) ?_
                          refine wp_seq_k (fun K1627 hK1628 => ?_)
                          refine wp_region_lit ?_
                          refine stepl ha 92 (HW.ca (i := 0) (b := b1526) (C := #[.string a0]) (T := 9) (fr := (0, 0)) KR) 9 0 (.tmp 1) (.string a0) rfl KR KR KR ?_; clear ha a; intro a ha
                          obtain ⟨hA1629, h_⟩ := asrt_some h; clear h; have h := h_; clear h_
                          refine stepsi ha 93 9 (.tmp 92) (.const (.int .i64 1)) a0 .i64 1 rfl KR KR KR (by decide) (show (1 : Int) < ((a0).size : Int) from hA1629) KR ?_; clear ha a; intro a ha
                          refine stepp ha 94 (.int .u8 (band .u8 (bt a0 1) 31)) KR KR ?_; clear ha a; intro a ha
                          refine stepp ha 95 (.int .i64 (IntKind.wrap .i64 (band .u8 (bt a0 1) 31))) KR KR ?_; clear ha a; intro a ha
                          refine stepp ha 9 (.int .i64 (IntKind.wrap .i64 (band .u8 (bt a0 1) 31))) KR KR ?_; clear ha a; intro a ha
                          refine endl ?_
                          refine thenN (hK1628 _ _ ?_); clear hK1628
                          refine wp_seq_k (fun K1630 hK1631 => ?_)
                          refine wp_region_lit ?_
                          refine stepp ha 96 (.pointer (some ⟨b1559, 0, none⟩)) KR KR ?_; clear ha a; intro a ha
                          refine stepp ha 97 (.pointer (some ⟨b1559, 0, none⟩)) KR KR ?_; clear ha a; intro a ha
                          refine stepp ha 98 (.pointer (some ⟨b1559, 0, none⟩)) KR KR ?_; clear ha a; intro a ha
                          refine stepl ha 99 (HW.ca (i := 2) (b := b1559) (C := #[.int .i64 x1562.f0, .int .i64 x1562.f1, .int .i64 x1562.f2.f0, .int .i64 x1562.f2.f1, .int .i64 x1562.f3.f0, .int .i64 x1562.f3.f1, .int .i64 x1562.f4.f0, .int .i64 x1562.f4.f1]) (T := 75) (fr := (0, 0)) KR) 3 0 (.tmp 98) (.int .i64 x1562.f0) rfl KR KR KR ?_; clear ha a; intro a ha
                          refine stepp ha 100 (.int .i64 (IntKind.wrap .i64 (256 * x1562.f0))) KR KR ?_; clear ha a; intro a ha
                          refine stepp ha 101 (.int .i64 (IntKind.wrap .i64 (band .u8 (bt a0 1) 31))) KR KR ?_; clear ha a; intro a ha
                          refine stepp ha 102 (.int .i64 (IntKind.wrap .i64 ((IntKind.wrap .i64 (256 * x1562.f0)) + (IntKind.wrap .i64 (band .u8 (bt a0 1) 31))))) KR KR ?_; clear ha a; intro a ha
                          refine stepp ha 103 (.pointer (some ⟨b1567, 0, none⟩)) KR KR ?_; clear ha a; intro a ha
                          refine stepst ha HW 3 (b := b1567) (C := #[.int .i64 x1562.f0, .int .i64 t1574, .int .i64 t1578, .bool false, .int .i64 0, .int .i64 t1582, .int .i64 0]) (T := 39) KR 3 0 (.tmp 103) (.tmp 102) (.int .i64 (IntKind.wrap .i64 ((IntKind.wrap .i64 (256 * x1562.f0)) + (IntKind.wrap .i64 (band .u8 (bt a0 1) 31))))) #[.int .i64 (IntKind.wrap .i64 ((IntKind.wrap .i64 (256 * x1562.f0)) + (IntKind.wrap .i64 (band .u8 (bt a0 1) 31)))), .int .i64 t1574, .int .i64 t1578, .bool false, .int .i64 0, .int .i64 t1582, .int .i64 0] rfl KR KR KR KR KR KR KR ?_; clear ha HW a; intro a W1632 HW ha
                          refine endl ?_
                          refine thenN (hK1631 _ _ ?_); clear hK1631
                          refine wp_seq_k (fun K1633 hK1634 => ?_)
                          refine wp_region_lit ?_
                          refine stepp ha 104 (.pointer (some ⟨b1559, 0, none⟩)) KR KR ?_; clear ha a; intro a ha
                          refine stepp ha 105 (.pointer (some ⟨b1559, 0, none⟩)) KR KR ?_; clear ha a; intro a ha
                          refine stepp ha 106 (.pointer (some ⟨b1559, 0, none⟩)) KR KR ?_; clear ha a; intro a ha
                          refine stepl ha 107 (HW.ca (i := 2) (b := b1559) (C := #[.int .i64 x1562.f0, .int .i64 x1562.f1, .int .i64 x1562.f2.f0, .int .i64 x1562.f2.f1, .int .i64 x1562.f3.f0, .int .i64 x1562.f3.f1, .int .i64 x1562.f4.f0, .int .i64 x1562.f4.f1]) (T := 75) (fr := (0, 0)) KR) 3 0 (.tmp 106) (.int .i64 x1562.f0) rfl KR KR KR ?_; clear ha a; intro a ha
                          refine stepp ha 108 (.int .i64 (IntKind.wrap .i64 (band .u8 (bt a0 1) 31))) KR KR ?_; clear ha a; intro a ha
                          obtain ⟨t1635, ht1636, h_⟩ := bind_some' h; clear h; have h := h_; clear h_
                          refine stepc ha 109 KR KR (cdb_known.calls x1562.f0 (IntKind.wrap .i64 (band .u8 (bt a0 1) 31)) t1635 _ ht1636) ?_; clear ha a; rintro e W1637 ⟨rfl, HX1638⟩
                          refine ⟨_, rfl, ?_⟩; intro a ha; replace HW := HW.callw HX1638; clear HX1638
                          refine stepp ha 8 (.bool t1635) KR KR ?_; clear ha a; intro a ha
                          refine endl ?_
                          refine thenN (hK1634 _ _ ?_); clear hK1634
                          refine wp_seq_k (fun K1639 hK1640 => ?_)
                          refine wp_region_lit ?_
                          refine stepp ha 110 (.pointer (some ⟨b1559, 0, none⟩)) KR KR ?_; clear ha a; intro a ha
                          refine stepp ha 111 (.pointer (some ⟨b1559, 0, none⟩)) KR KR ?_; clear ha a; intro a ha
                          refine stepp ha 112 (.pointer (some ⟨b1559, 0, none⟩)) KR KR ?_; clear ha a; intro a ha
                          refine stepl ha 113 (HW.ca (i := 2) (b := b1559) (C := #[.int .i64 x1562.f0, .int .i64 x1562.f1, .int .i64 x1562.f2.f0, .int .i64 x1562.f2.f1, .int .i64 x1562.f3.f0, .int .i64 x1562.f3.f1, .int .i64 x1562.f4.f0, .int .i64 x1562.f4.f1]) (T := 75) (fr := (0, 0)) KR) 3 0 (.tmp 112) (.int .i64 x1562.f0) rfl KR KR KR ?_; clear ha a; intro a ha
                          refine stepp ha 114 (.bool (x1562.f0 == 95)) KR KR ?_; clear ha a; intro a ha
                          refine endl ?_
                          refine thenN (hK1640 _ _ ?_); clear hK1640
                          by_cases hp1641 : x1562.f0 = 95
                          · skip
                            replace h := ite_pos' h hp1641
                            refine condT ha KR KR (t := (x1562.f0 == 95)) (ieq_t hp1641) ?_
                            refine wp_seq_k (fun K1642 hK1643 => ?_)
                            refine cutn (fun a W1648 => ∃ (x1647 : Bool), cdb_Parse.j2 K a0 x1562 t1574 t1578 t1582 x1647 = some r ∧ Has 162 [(1, .pointer (some ⟨b1526, 0, none⟩)), (2, .pointer (some ⟨b1528, 0, none⟩)), (5, .pointer (some ⟨b1559, 0, none⟩)), (6, .pointer (some ⟨b1567, 0, none⟩)), (8, .bool x1647), (9, .int .i64 (IntKind.wrap .i64 (band .u8 (bt a0 1) 31)))] a ∧ Wd w W1648 [(b1526, .cells #[.string a0] 9 (0, 0)), (b1528, .cells #[.int .i64 0, .int .i64 0, .int .i64 0, .bool false, .int .i64 0, .int .i64 0, .int .i64 0] 39 (0, 0)), (b1559, .cells #[.int .i64 x1562.f0, .int .i64 x1562.f1, .int .i64 x1562.f2.f0, .int .i64 x1562.f2.f1, .int .i64 x1562.f3.f0, .int .i64 x1562.f3.f1, .int .i64 x1562.f4.f0, .int .i64 x1562.f4.f1] 75 (0, 0)), (b1567, .cells #[.int .i64 (IntKind.wrap .i64 ((IntKind.wrap .i64 (256 * x1562.f0)) + (IntKind.wrap .i64 (band .u8 (bt a0 1) 31)))), .int .i64 t1574, .int .i64 t1578, .bool false, .int .i64 0, .int .i64 t1582, .int .i64 0] 39 (0, 0))] []) ?_ ?_
                            · skip
                              refine wp_region_lit ?_
                              refine stepp ha 115 (.bool t1635) KR KR ?_; clear ha a; intro a ha
                              refine stepp ha 116 (.bool t1635) KR KR ?_; clear ha a; intro a ha
                              by_cases hp1644 : t1635 = true
                              · skip
                                replace h := ite_pos' h hp1644
                                replace ha := ha.bool 116 KR (hp1644)
                                refine stepl ha 117 (HW.ca (i := 0) (b := b1526) (C := #[.string a0]) (T := 9) (fr := (0, 0)) KR) 9 0 (.tmp 1) (.string a0) rfl KR KR KR ?_; clear ha a; intro a ha
                                obtain ⟨hA1645, h_⟩ := asrt_some h; clear h; have h := h_; clear h_
                                refine stepsi ha 118 9 (.tmp 117) (.const (.int .i64 2)) a0 .i64 2 rfl KR KR KR (by decide) (show (2 : Int) < ((a0).size : Int) from hA1645) KR ?_; clear ha a; intro a ha
                                refine stepp ha 119 (.int .u8 ((bt a0 2).fdiv 16)) KR KR ?_; clear ha a; intro a ha
                                refine stepp ha 120 (.bool (((bt a0 2).fdiv 16) == 0)) KR KR ?_; clear ha a; intro a ha
                                refine stepp ha 121 (.bool (((bt a0 2).fdiv 16) == 0)) KR KR ?_; clear ha a; intro a ha
                                refine stepp ha 122 (.bool (((bt a0 2).fdiv 16) == 0)) KR KR ?_; clear ha a; intro a ha
                                by_cases hp1646 : ((bt a0 2).fdiv 16) = 0
                                · skip
                                  replace h := ite_pos' h hp1646
                                  replace ha := ha.bool 122 KR (ieq_t hp1646)
                                  refine stepp ha 123 (.pointer (some ⟨b1567, 5, none⟩)) KR KR ?_; clear ha a; intro a ha
                                  refine stepl ha 124 (HW.ca (i := 3) (b := b1567) (C := #[.int .i64 (IntKind.wrap .i64 ((IntKind.wrap .i64 (256 * x1562.f0)) + (IntKind.wrap .i64 (band .u8 (bt a0 1) 31)))), .int .i64 t1574, .int .i64 t1578, .bool false, .int .i64 0, .int .i64 t1582, .int .i64 0]) (T := 39) (fr := (0, 0)) KR) 3 5 (.tmp 123) (.int .i64 t1582) rfl KR KR KR ?_; clear ha a; intro a ha
                                  refine stepp ha 125 (.bool (t1582 == 24)) KR KR ?_; clear ha a; intro a ha
                                  refine stepp ha 126 (.bool (t1582 == 24)) KR KR ?_; clear ha a; intro a ha
                                  refine stepp ha 8 (.bool (t1582 == 24)) KR KR ?_; clear ha a; intro a ha
                                  refine endl ?_
                                  exact thenN ⟨(t1582 == 24), h, ha.sub (subs_cons KR (subs_cons KR (subs_cons KR (subs_cons KR (subs_cons KR (subs_cons KR (subs_nil _))))))), HW.pick [0, 1, 2, 3] [] (by decide) (by decide) KR KR⟩
                                · skip
                                  replace h := ite_neg' h hp1646
                                  replace ha := ha.bool 122 KR (ieq_f hp1646)
                                  refine stepo ha 123 KR ?_; clear ha a; intro a ha
                                  refine stepo ha 124 KR ?_; clear ha a; intro a ha
                                  refine stepo ha 125 KR ?_; clear ha a; intro a ha
                                  refine stepp ha 126 (.bool false) KR KR ?_; clear ha a; intro a ha
                                  refine stepp ha 8 (.bool false) KR KR ?_; clear ha a; intro a ha
                                  refine endl ?_
                                  exact thenN ⟨false, h, ha.sub (subs_cons KR (subs_cons KR (subs_cons KR (subs_cons KR (subs_cons KR (subs_cons KR (subs_nil _))))))), HW.pick [0, 1, 2, 3] [] (by decide) (by decide) KR KR⟩
                              · skip
                                replace h := ite_neg' h hp1644
                                replace ha := ha.bool 116 KR (bool_f hp1644)
                                refine stepo ha 117 KR ?_; clear ha a; intro a ha
                                refine stepo ha 118 KR ?_; clear ha a; intro a ha
                                refine stepo ha 119 KR ?_; clear ha a; intro a ha
                                refine stepo ha 120 KR ?_; clear ha a; intro a ha
                                refine stepp ha 121 (.bool false) KR KR ?_; clear ha a; intro a ha
                                refine stepp ha 122 (.bool false) KR KR ?_; clear ha a; intro a ha
                                refine stepo ha 123 KR ?_; clear ha a; intro a ha
                                refine stepo ha 124 KR ?_; clear ha a; intro a ha
                                refine stepo ha 125 KR ?_; clear ha a; intro a ha
                                refine stepp ha 126 (.bool false) KR KR ?_; clear ha a; intro a ha
                                refine stepp ha 8 (.bool false) KR KR ?_; clear ha a; intro a ha
                                refine endl ?_
                                exact thenN ⟨false, h, ha.sub (subs_cons KR (subs_cons KR (subs_cons KR (subs_cons KR (subs_cons KR (subs_cons KR (subs_nil _))))))), HW.pick [0, 1, 2, 3] [] (by decide) (by decide) KR KR⟩
                            · skip
                              intro a W1648 hJ
                              obtain ⟨x1647, h, ha, HW⟩ := hJ
                              replace h : cdb_Parse.j2 K a0 x1562 t1574 t1578 t1582 x1647 = some r := h
                              unfold cdb_Parse.j2 at h
                              refine hK1643 _ _ ?_; clear hK1643
                              refine wp_seq_k (fun K1649 hK1650 => ?_)
                              refine wp_region_lit ?_
                              refine stepp ha 127 (.int .i64 (IntKind.wrap .i64 (band .u8 (bt a0 1) 31))) KR KR ?_; clear ha a; intro a ha
                              obtain ⟨t1651, ht1652, h_⟩ := bind_some' h; clear h; have h := h_; clear h_
                              refine stepc ha 128 KR KR (cdb_typed.calls (IntKind.wrap .i64 (band .u8 (bt a0 1) 31)) t1651 _ ht1652) ?_; clear ha a; rintro e W1653 ⟨rfl, HX1654⟩
                              refine ⟨_, rfl, ?_⟩; intro a ha; replace HW := HW.callw HX1654; clear HX1654
                              refine endl ?_
                              refine thenN (hK1650 _ _ ?_); clear hK1650
                              by_cases hp1655 : t1651 = true
                              · skip
                                replace h := ite_pos' h hp1655
                                refine condT ha KR KR (t := t1651) (hp1655) ?_
                                refine wp_seq_k (fun K1656 hK1657 => ?_)
                                refine wp_region_lit ?_
                                refine stepl ha 129 (HW.ca (i := 0) (b := b1526) (C := #[.string a0]) (T := 9) (fr := (0, 0)) KR) 9 0 (.tmp 1) (.string a0) rfl KR KR KR ?_; clear ha a; intro a ha
                                obtain ⟨hA1658, h_⟩ := asrt_some h; clear h; have h := h_; clear h_
                                refine stepsi ha 130 9 (.tmp 129) (.const (.int .i64 2)) a0 .i64 2 rfl KR KR KR (by decide) (show (2 : Int) < ((a0).size : Int) from hA1658) KR ?_; clear ha a; intro a ha
                                refine stepp ha 131 (.int .u8 (band .u8 (bt a0 2) 15)) KR KR ?_; clear ha a; intro a ha
                                refine stepp ha 132 (.int .i64 (IntKind.wrap .i64 (band .u8 (bt a0 2) 15))) KR KR ?_; clear ha a; intro a ha
                                obtain ⟨t1659, ht1660, h_⟩ := bind_some' h; clear h; have h := h_; clear h_
                                refine stepc ha 133 KR KR (cdb_Type.calls K (IntKind.wrap .i64 (band .u8 (bt a0 2) 15)) t1659 _ (HW.ca0 hG0) ht1660) ?_; clear ha a; rintro e W1661 ⟨rfl, HX1662⟩
                                refine ⟨_, rfl, ?_⟩; intro a ha; replace HW := HW.callw HX1662; clear HX1662
                                refine stepp ha 134 (.pointer (some ⟨b1567, 6, none⟩)) KR KR ?_; clear ha a; intro a ha
                                refine stepst ha HW 3 (b := b1567) (C := #[.int .i64 (IntKind.wrap .i64 ((IntKind.wrap .i64 (256 * x1562.f0)) + (IntKind.wrap .i64 (band .u8 (bt a0 1) 31)))), .int .i64 t1574, .int .i64 t1578, .bool false, .int .i64 0, .int .i64 t1582, .int .i64 0]) (T := 39) KR 3 6 (.tmp 134) (.tmp 133) (.int .i64 t1659) #[.int .i64 (IntKind.wrap .i64 ((IntKind.wrap .i64 (256 * x1562.f0)) + (IntKind.wrap .i64 (band .u8 (bt a0 1) 31)))), .int .i64 t1574, .int .i64 t1578, .bool false, .int .i64 0, .int .i64 t1582, .int .i64 t1659] rfl KR KR KR KR KR KR KR ?_; clear ha HW a; intro a W1663 HW ha
                                refine endl ?_
                                refine thenN (hK1657 _ _ ?_); clear hK1657
                                refine wp_region_lit ?_
                                refine stepp ha 135 (.bool x1647) KR KR ?_; clear ha a; intro a ha
                                refine stepp ha 136 (.bool x1647) KR KR ?_; clear ha a; intro a ha
                                by_cases hp1664 : x1647 = true
                                · skip
                                  replace h := ite_pos' h hp1664
                                  replace ha := ha.bool 136 KR (hp1664)
                                  refine stepp ha 137 (.pointer (some ⟨b1567, 6, none⟩)) KR KR ?_; clear ha a; intro a ha
                                  refine stepl ha 138 (HW.ca (i := 3) (b := b1567) (C := #[.int .i64 (IntKind.wrap .i64 ((IntKind.wrap .i64 (256 * x1562.f0)) + (IntKind.wrap .i64 (band .u8 (bt a0 1) 31)))), .int .i64 t1574, .int .i64 t1578, .bool false, .int .i64 0, .int .i64 t1582, .int .i64 t1659]) (T := 39) (fr := (0, 0)) KR) 3 6 (.tmp 137) (.int .i64 t1659) rfl KR KR KR ?_; clear ha a; intro a ha
                                  refine stepp ha 139 (.bool (t1659 != 0)) KR KR ?_; clear ha a; intro a ha
                                  refine stepp ha 140 (.bool (t1659 != 0)) KR KR ?_; clear ha a; intro a ha
                                  refine stepp ha 8 (.bool (t1659 != 0)) KR KR ?_; clear ha a; intro a ha
                                  refine endl ?_
                                  refine blkN ?_
                                  exact thenN ⟨(t1659 != 0), IntKind.wrap .i64 ((IntKind.wrap .i64 (256 * x1562.f0)) + (IntKind.wrap .i64 (band .u8 (bt a0 1) 31))), false, 0, t1659, h, ha.sub (subs_cons KR (subs_cons KR (subs_cons KR (subs_cons KR (subs_nil _))))), HW.pick [1, 2, 3] [] (by decide) (by decide) KR KR⟩
                                · skip
                                  replace h := ite_neg' h hp1664
                                  replace ha := ha.bool 136 KR (bool_f hp1664)
                                  refine stepo ha 137 KR ?_; clear ha a; intro a ha
                                  refine stepo ha 138 KR ?_; clear ha a; intro a ha
                                  refine stepo ha 139 KR ?_; clear ha a; intro a ha
                                  refine stepp ha 140 (.bool false) KR KR ?_; clear ha a; intro a ha
                                  refine stepp ha 8 (.bool false) KR KR ?_; clear ha a; intro a ha
                                  refine endl ?_
                                  refine blkN ?_
                                  exact thenN ⟨false, IntKind.wrap .i64 ((IntKind.wrap .i64 (256 * x1562.f0)) + (IntKind.wrap .i64 (band .u8 (bt a0 1) 31))), false, 0, t1659, h, ha.sub (subs_cons KR (subs_cons KR (subs_cons KR (subs_cons KR (subs_nil _))))), HW.pick [1, 2, 3] [] (by decide) (by decide) KR KR⟩
                              · skip
                                replace h := ite_neg' h hp1655
                                refine condF ha KR KR (t := t1651) (bool_f hp1655) ?_
                                refine wp_skip ?_
                                refine blkN ?_
                                exact thenN ⟨x1647, IntKind.wrap .i64 ((IntKind.wrap .i64 (256 * x1562.f0)) + (IntKind.wrap .i64 (band .u8 (bt a0 1) 31))), false, 0, 0, h, ha.sub (subs_cons KR (subs_cons KR (subs_cons KR (subs_cons KR (subs_nil _))))), HW.pick [1, 2, 3] [] (by decide) (by decide) KR KR⟩
                          · skip
                            replace h := ite_neg' h hp1641
                            refine condF ha KR KR (t := (x1562.f0 == 95)) (ieq_f hp1641) ?_
                            refine wp_skip ?_
                            refine blkN ?_
                            exact thenN ⟨t1635, IntKind.wrap .i64 ((IntKind.wrap .i64 (256 * x1562.f0)) + (IntKind.wrap .i64 (band .u8 (bt a0 1) 31))), false, 0, 0, h, ha.sub (subs_cons KR (subs_cons KR (subs_cons KR (subs_cons KR (subs_nil _))))), HW.pick [1, 2, 3] [] (by decide) (by decide) KR KR⟩
                        · skip
                          replace h := ite_neg' h hp1626
                          refine condF ha KR KR (t := x1624) (bool_f hp1626) ?_
                          refine wp_skip ?_
                          refine blkN ?_
                          exact thenN ⟨true, x1562.f0, false, 0, 0, h, ha.sub (subs_cons KR (subs_cons KR (subs_cons KR (subs_cons KR (subs_nil _))))), HW.pick [1, 2, 3] [] (by decide) (by decide) KR KR⟩
            · skip
              intro a W1670 hJ
              obtain ⟨x1665, x1666, x1667, x1668, x1669, h, ha, HW⟩ := hJ
              replace h : cdb_Parse.j3 K x1562 t1574 t1578 t1582 x1665 x1666 x1667 x1668 x1669 = some r := h
              unfold cdb_Parse.j3 at h
              refine hK1593 _ _ ?_; clear hK1593
              refine wp_seq_k (fun K1671 hK1672 => ?_)
              refine wp_seq_k (fun K1673 hK1674 => ?_)
              refine wp_region_lit ?_
              refine stepp ha 141 (.bool x1665) KR KR ?_; clear ha a; intro a ha
              refine stepp ha 142 (.bool (!x1665)) KR KR ?_; clear ha a; intro a ha
              refine stepp ha 143 (.bool (!x1665)) KR KR ?_; clear ha a; intro a ha
              by_cases hp1675 : x1665 = true
              · skip
                replace h := ite_pos' h hp1675
                replace ha := ha.bool 143 KR (not_f (hp1675))
                refine stepp ha 144 (.pointer (some ⟨b1559, 0, none⟩)) KR KR ?_; clear ha a; intro a ha
                refine stepp ha 145 (.pointer (some ⟨b1559, 0, none⟩)) KR KR ?_; clear ha a; intro a ha
                refine stepp ha 146 (.pointer (some ⟨b1559, 1, none⟩)) KR KR ?_; clear ha a; intro a ha
                refine stepl ha 147 (HW.ca (i := 1) (b := b1559) (C := #[.int .i64 x1562.f0, .int .i64 x1562.f1, .int .i64 x1562.f2.f0, .int .i64 x1562.f2.f1, .int .i64 x1562.f3.f0, .int .i64 x1562.f3.f1, .int .i64 x1562.f4.f0, .int .i64 x1562.f4.f1]) (T := 75) (fr := (0, 0)) KR) 3 1 (.tmp 146) (.int .i64 x1562.f1) rfl KR KR KR ?_; clear ha a; intro a ha
                refine stepp ha 148 (.bool (x1562.f1 == 16)) KR KR ?_; clear ha a; intro a ha
                refine stepp ha 149 (.bool (x1562.f1 == 16)) KR KR ?_; clear ha a; intro a ha
                by_cases hp1676 : x1562.f1 = 16
                · skip
                  replace h := ite_pos' h hp1676
                  replace ha := ha.bool 149 KR (ieq_t hp1676)
                  refine stepp ha 150 (.pointer (some ⟨b1567, 1, none⟩)) KR KR ?_; clear ha a; intro a ha
                  refine stepl ha 151 (HW.ca (i := 2) (b := b1567) (C := #[.int .i64 x1666, .int .i64 t1574, .int .i64 t1578, .bool x1667, .int .i64 x1668, .int .i64 t1582, .int .i64 x1669]) (T := 39) (fr := (0, 0)) KR) 3 1 (.tmp 150) (.int .i64 t1574) rfl KR KR KR ?_; clear ha a; intro a ha
                  refine stepp ha 152 (.bool (decide (t1574 ≥ 2147483648))) KR KR ?_; clear ha a; intro a ha
                  refine stepp ha 153 (.bool (decide (t1574 ≥ 2147483648))) KR KR ?_; clear ha a; intro a ha
                  by_cases hp1677 : t1574 ≥ 2147483648
                  · skip
                    replace h := ite_pos' h hp1677
                    replace ha := ha.bool 153 KR (decide_eq_true hp1677)
                    refine stepo ha 154 KR ?_; clear ha a; intro a ha
                    refine stepo ha 155 KR ?_; clear ha a; intro a ha
                    refine stepo ha 156 KR ?_; clear ha a; intro a ha
                    refine stepp ha 157 (.bool true) KR KR ?_; clear ha a; intro a ha
                    refine stepp ha 158 (.bool true) KR KR ?_; clear ha a; intro a ha
                    refine stepp ha 159 (.bool true) KR KR ?_; clear ha a; intro a ha
                    refine endl ?_
                    refine thenN (hK1674 _ _ ?_); clear hK1674
                    refine condT ha KR KR (t := true) (rfl) ?_
                    refine wp_seq_k (fun K1678 hK1679 => ?_)
                    refine wp_region_lit ?_
                    refine stepp ha 160 (.agg #[.int .i64 0, .int .i64 0, .int .i64 0, .bool false, .int .i64 0, .int .i64 0, .int .i64 0]) KR KR ?_; clear ha a; intro a ha
                    refine stepst ha HW 0 (b := b1528) (C := #[.int .i64 0, .int .i64 0, .int .i64 0, .bool false, .int .i64 0, .int .i64 0, .int .i64 0]) (T := 39) KR 39 0 (.tmp 2) (.tmp 160) (.agg #[.int .i64 0, .int .i64 0, .int .i64 0, .bool false, .int .i64 0, .int .i64 0, .int .i64 0]) #[.int .i64 0, .int .i64 0, .int .i64 0, .bool false, .int .i64 0, .int .i64 0, .int .i64 0] rfl KR KR KR KR KR KR KR ?_; clear ha HW a; intro a W1680 HW ha
                    refine stepp ha 3 (.int .i64 150) KR KR ?_; clear ha a; intro a ha
                    refine endl ?_
                    refine thenN (hK1679 _ _ ?_); clear hK1679
                    refine wp_ret ?_
                    refine thenR ?_
                    obtain rfl := Option.some.inj h
                    exact finv ha _ _ rfl (.cell (ad := ⟨b1528, 0, none⟩) (v := .agg #[.int .i64 0, .int .i64 0, .int .i64 0, .bool false, .int .i64 0, .int .i64 0, .int .i64 0]) KR (run_loadVar_ca0 (HW.ca (i := 0) (b := b1528) (C := #[.int .i64 0, .int .i64 0, .int .i64 0, .bool false, .int .i64 0, .int .i64 0, .int .i64 0]) (T := 39) (fr := (0, 0)) KR) 39 0 (.agg #[.int .i64 0, .int .i64 0, .int .i64 0, .bool false, .int .i64 0, .int .i64 0, .int .i64 0]) KR) (.tmp (v := .int .i64 150) KR .nil)) (.tuple #[.agg #[.int .i64 0, .int .i64 0, .int .i64 0, .bool false, .int .i64 0, .int .i64 0, .int .i64 0], .int .i64 150]) rfl ⟨rfl, HW.pick [] [] (by decide) (by decide) rfl KR⟩
                  · skip
                    replace h := ite_neg' h hp1677
                    replace ha := ha.bool 153 KR (decide_eq_false hp1677)
                    refine stepp ha 154 (.pointer (some ⟨b1567, 2, none⟩)) KR KR ?_; clear ha a; intro a ha
                    refine stepl ha 155 (HW.ca (i := 2) (b := b1567) (C := #[.int .i64 x1666, .int .i64 t1574, .int .i64 t1578, .bool x1667, .int .i64 x1668, .int .i64 t1582, .int .i64 x1669]) (T := 39) (fr := (0, 0)) KR) 3 2 (.tmp 154) (.int .i64 t1578) rfl KR KR KR ?_; clear ha a; intro a ha
                    refine stepp ha 156 (.bool (decide (t1578 ≥ 2147483648))) KR KR ?_; clear ha a; intro a ha
                    refine stepp ha 157 (.bool (decide (t1578 ≥ 2147483648))) KR KR ?_; clear ha a; intro a ha
                    refine stepp ha 158 (.bool (decide (t1578 ≥ 2147483648))) KR KR ?_; clear ha a; intro a ha
                    refine stepp ha 159 (.bool (decide (t1578 ≥ 2147483648))) KR KR ?_; clear ha a; intro a ha
                    refine endl ?_
                    refine thenN (hK1674 _ _ ?_); clear hK1674
                    by_cases hp1681 : t1578 ≥ 2147483648
                    · skip
                      replace h := ite_pos' h hp1681
                      refine condT ha KR KR (t := decide (t1578 ≥ 2147483648)) (decide_eq_true hp1681) ?_
                      refine wp_seq_k (fun K1682 hK1683 => ?_)
                      refine wp_region_lit ?_
                      refine stepp ha 160 (.agg #[.int .i64 0, .int .i64 0, .int .i64 0, .bool false, .int .i64 0, .int .i64 0, .int .i64 0]) KR KR ?_; clear ha a; intro a ha
                      refine stepst ha HW 0 (b := b1528) (C := #[.int .i64 0, .int .i64 0, .int .i64 0, .bool false, .int .i64 0, .int .i64 0, .int .i64 0]) (T := 39) KR 39 0 (.tmp 2) (.tmp 160) (.agg #[.int .i64 0, .int .i64 0, .int .i64 0, .bool false, .int .i64 0, .int .i64 0, .int .i64 0]) #[.int .i64 0, .int .i64 0, .int .i64 0, .bool false, .int .i64 0, .int .i64 0, .int .i64 0] rfl KR KR KR KR KR KR KR ?_; clear ha HW a; intro a W1684 HW ha
                      refine stepp ha 3 (.int .i64 150) KR KR ?_; clear ha a; intro a ha
                      refine endl ?_
                      refine thenN (hK1683 _ _ ?_); clear hK1683
                      refine wp_ret ?_
                      refine thenR ?_
                      obtain rfl := Option.some.inj h
                      exact finv ha _ _ rfl (.cell (ad := ⟨b1528, 0, none⟩) (v := .agg #[.int .i64 0, .int .i64 0, .int .i64 0, .bool false, .int .i64 0, .int .i64 0, .int .i64 0]) KR (run_loadVar_ca0 (HW.ca (i := 0) (b := b1528) (C := #[.int .i64 0, .int .i64 0, .int .i64 0, .bool false, .int .i64 0, .int .i64 0, .int .i64 0]) (T := 39) (fr := (0, 0)) KR) 39 0 (.agg #[.int .i64 0, .int .i64 0, .int .i64 0, .bool false, .int .i64 0, .int .i64 0, .int .i64 0]) KR) (.tmp (v := .int .i64 150) KR .nil)) (.tuple #[.agg #[.int .i64 0, .int .i64 0, .int .i64 0, .bool false, .int .i64 0, .int .i64 0, .int .i64 0], .int .i64 150]) rfl ⟨rfl, HW.pick [] [] (by decide) (by decide) rfl KR⟩
                    · skip
                      replace h := ite_neg' h hp1681
                      refine condF ha KR KR (t := decide (t1578 ≥ 2147483648)) (decide_eq_false hp1681) ?_
                      refine wp_skip ?_
                      refine thenN (hK1672 _ _ ?_); clear hK1672
                      refine wp_seq_k (fun K1688 hK1689 => ?_)
                      refine wp_region_lit ?_
                      refine stepl ha 161 (HW.ca (i := 2) (b := b1567) (C := #[.int .i64 x1666, .int .i64 t1574, .int .i64 t1578, .bool x1667, .int .i64 x1668, .int .i64 t1582, .int .i64 x1669]) (T := 39) (fr := (0, 0)) KR) 39 0 (.tmp 6) (.agg #[.int .i64 x1666, .int .i64 t1574, .int .i64 t1578, .bool x1667, .int .i64 x1668, .int .i64 t1582, .int .i64 x1669]) rfl KR KR KR ?_; clear ha a; intro a ha
                      refine stepst ha HW 0 (b := b1528) (C := #[.int .i64 0, .int .i64 0, .int .i64 0, .bool false, .int .i64 0, .int .i64 0, .int .i64 0]) (T := 39) KR 39 0 (.tmp 2) (.tmp 161) (.agg #[.int .i64 x1666, .int .i64 t1574, .int .i64 t1578, .bool x1667, .int .i64 x1668, .int .i64 t1582, .int .i64 x1669]) #[.int .i64 x1666, .int .i64 t1574, .int .i64 t1578, .bool x1667, .int .i64 x1668, .int .i64 t1582, .int .i64 x1669] rfl KR KR KR KR KR KR KR ?_; clear ha HW a; intro a W1690 HW ha
                      refine stepp ha 3 (.int .i64 0) KR KR ?_; clear ha a; intro a ha
                      refine endl ?_
                      refine thenN (hK1689 _ _ ?_); clear hK1689
                      refine wp_ret ?_
                      obtain rfl := Option.some.inj h
                      exact finv ha _ _ rfl (.cell (ad := ⟨b1528, 0, none⟩) (v := .agg #[.int .i64 x1666, .int .i64 t1574, .int .i64 t1578, .bool x1667, .int .i64 x1668, .int .i64 t1582, .int .i64 x1669]) KR (run_loadVar_ca0 (HW.ca (i := 0) (b := b1528) (C := #[.int .i64 x1666, .int .i64 t1574, .int .i64 t1578, .bool x1667, .int .i64 x1668, .int .i64 t1582, .int .i64 x1669]) (T := 39) (fr := (0, 0)) KR) 39 0 (.agg #[.int .i64 x1666, .int .i64 t1574, .int .i64 t1578, .bool x1667, .int .i64 x1668, .int .i64 t1582, .int .i64 x1669]) KR) (.tmp (v := .int .i64 0) KR .nil)) (.tuple #[.agg #[.int .i64 x1666, .int .i64 t1574, .int .i64 t1578, .bool x1667, .int .i64 x1668, .int .i64 t1582, .int .i64 x1669], .int .i64 0]) rfl ⟨rfl, HW.pick [] [] (by decide) (by decide) rfl KR⟩
                · skip
                  replace h := ite_neg' h hp1676
                  replace ha := ha.bool 149 KR (ieq_f hp1676)
                  refine stepo ha 150 KR ?_; clear ha a; intro a ha
                  refine stepo ha 151 KR ?_; clear ha a; intro a ha
                  refine stepo ha 152 KR ?_; clear ha a; intro a ha
                  refine stepo ha 153 KR ?_; clear ha a; intro a ha
                  refine stepo ha 154 KR ?_; clear ha a; intro a ha
                  refine stepo ha 155 KR ?_; clear ha a; intro a ha
                  refine stepo ha 156 KR ?_; clear ha a; intro a ha
                  refine stepo ha 157 KR ?_; clear ha a; intro a ha
                  refine stepp ha 158 (.bool false) KR KR ?_; clear ha a; intro a ha
                  refine stepp ha 159 (.bool false) KR KR ?_; clear ha a; intro a ha
                  refine endl ?_
                  refine thenN (hK1674 _ _ ?_); clear hK1674
                  refine condF ha KR KR (t := false) (rfl) ?_
                  refine wp_skip ?_
                  refine thenN (hK1672 _ _ ?_); clear hK1672
                  refine wp_seq_k (fun K1691 hK1692 => ?_)
                  refine wp_region_lit ?_
                  refine stepl ha 161 (HW.ca (i := 2) (b := b1567) (C := #[.int .i64 x1666, .int .i64 t1574, .int .i64 t1578, .bool x1667, .int .i64 x1668, .int .i64 t1582, .int .i64 x1669]) (T := 39) (fr := (0, 0)) KR) 39 0 (.tmp 6) (.agg #[.int .i64 x1666, .int .i64 t1574, .int .i64 t1578, .bool x1667, .int .i64 x1668, .int .i64 t1582, .int .i64 x1669]) rfl KR KR KR ?_; clear ha a; intro a ha
                  refine stepst ha HW 0 (b := b1528) (C := #[.int .i64 0, .int .i64 0, .int .i64 0, .bool false, .int .i64 0, .int .i64 0, .int .i64 0]) (T := 39) KR 39 0 (.tmp 2) (.tmp 161) (.agg #[.int .i64 x1666, .int .i64 t1574, .int .i64 t1578, .bool x1667, .int .i64 x1668, .int .i64 t1582, .int .i64 x1669]) #[.int .i64 x1666, .int .i64 t1574, .int .i64 t1578, .bool x1667, .int .i64 x1668, .int .i64 t1582, .int .i64 x1669] rfl KR KR KR KR KR KR KR ?_; clear ha HW a; intro a W1693 HW ha
                  refine stepp ha 3 (.int .i64 0) KR KR ?_; clear ha a; intro a ha
                  refine endl ?_
                  refine thenN (hK1692 _ _ ?_); clear hK1692
                  refine wp_ret ?_
                  obtain rfl := Option.some.inj h
                  exact finv ha _ _ rfl (.cell (ad := ⟨b1528, 0, none⟩) (v := .agg #[.int .i64 x1666, .int .i64 t1574, .int .i64 t1578, .bool x1667, .int .i64 x1668, .int .i64 t1582, .int .i64 x1669]) KR (run_loadVar_ca0 (HW.ca (i := 0) (b := b1528) (C := #[.int .i64 x1666, .int .i64 t1574, .int .i64 t1578, .bool x1667, .int .i64 x1668, .int .i64 t1582, .int .i64 x1669]) (T := 39) (fr := (0, 0)) KR) 39 0 (.agg #[.int .i64 x1666, .int .i64 t1574, .int .i64 t1578, .bool x1667, .int .i64 x1668, .int .i64 t1582, .int .i64 x1669]) KR) (.tmp (v := .int .i64 0) KR .nil)) (.tuple #[.agg #[.int .i64 x1666, .int .i64 t1574, .int .i64 t1578, .bool x1667, .int .i64 x1668, .int .i64 t1582, .int .i64 x1669], .int .i64 0]) rfl ⟨rfl, HW.pick [] [] (by decide) (by decide) rfl KR⟩
              · skip
                replace h := ite_neg' h hp1675
                replace ha := ha.bool 143 KR (not_t (bool_f hp1675))
                refine stepo ha 144 KR ?_; clear ha a; intro a ha
                refine stepo ha 145 KR ?_; clear ha a; intro a ha
                refine stepo ha 146 KR ?_; clear ha a; intro a ha
                refine stepo ha 147 KR ?_; clear ha a; intro a ha
                refine stepo ha 148 KR ?_; clear ha a; intro a ha
                refine stepo ha 149 KR ?_; clear ha a; intro a ha
                refine stepo ha 150 KR ?_; clear ha a; intro a ha
                refine stepo ha 151 KR ?_; clear ha a; intro a ha
                refine stepo ha 152 KR ?_; clear ha a; intro a ha
                refine stepo ha 153 KR ?_; clear ha a; intro a ha
                refine stepo ha 154 KR ?_; clear ha a; intro a ha
                refine stepo ha 155 KR ?_; clear ha a; intro a ha
                refine stepo ha 156 KR ?_; clear ha a; intro a ha
                refine stepo ha 157 KR ?_; clear ha a; intro a ha
                refine stepo ha 158 KR ?_; clear ha a; intro a ha
                refine stepp ha 159 (.bool true) KR KR ?_; clear ha a; intro a ha
                refine endl ?_
                refine thenN (hK1674 _ _ ?_); clear hK1674
                refine condT ha KR KR (t := true) (rfl) ?_
                refine wp_seq_k (fun K1685 hK1686 => ?_)
                refine wp_region_lit ?_
                refine stepp ha 160 (.agg #[.int .i64 0, .int .i64 0, .int .i64 0, .bool false, .int .i64 0, .int .i64 0, .int .i64 0]) KR KR ?_; clear ha a; intro a ha
                refine stepst ha HW 0 (b := b1528) (C := #[.int .i64 0, .int .i64 0, .int .i64 0, .bool false, .int .i64 0, .int .i64 0, .int .i64 0]) (T := 39) KR 39 0 (.tmp 2) (.tmp 160) (.agg #[.int .i64 0, .int .i64 0, .int .i64 0, .bool false, .int .i64 0, .int .i64 0, .int .i64 0]) #[.int .i64 0, .int .i64 0, .int .i64 0, .bool false, .int .i64 0, .int .i64 0, .int .i64 0] rfl KR KR KR KR KR KR KR ?_; clear ha HW a; intro a W1687 HW ha
                refine stepp ha 3 (.int .i64 150) KR KR ?_; clear ha a; intro a ha
                refine endl ?_
                refine thenN (hK1686 _ _ ?_); clear hK1686
                refine wp_ret ?_
                refine thenR ?_
                obtain rfl := Option.some.inj h
                exact finv ha _ _ rfl (.cell (ad := ⟨b1528, 0, none⟩) (v := .agg #[.int .i64 0, .int .i64 0, .int .i64 0, .bool false, .int .i64 0, .int .i64 0, .int .i64 0]) KR (run_loadVar_ca0 (HW.ca (i := 0) (b := b1528) (C := #[.int .i64 0, .int .i64 0, .int .i64 0, .bool false, .int .i64 0, .int .i64 0, .int .i64 0]) (T := 39) (fr := (0, 0)) KR) 39 0 (.agg #[.int .i64 0, .int .i64 0, .int .i64 0, .bool false, .int .i64 0, .int .i64 0, .int .i64 0]) KR) (.tmp (v := .int .i64 150) KR .nil)) (.tuple #[.agg #[.int .i64 0, .int .i64 0, .int .i64 0, .bool false, .int .i64 0, .int .i64 0, .int .i64 0], .int .i64 150]) rfl ⟨rfl, HW.pick [] [] (by decide) (by decide) rfl KR⟩
      · skip
        replace h := ite_neg' h hp1547
        refine condT ha KR KR (t := ((bt a0 (IntKind.wrap .i64 (t1532 - 1))) != 0)) (ineq_t hp1547) ?_
        refine wp_seq_k (fun K1548 hK1549 => ?_)
        refine wp_region_lit ?_
        refine stepp ha 27 (.agg #[.int .i64 0, .int .i64 0, .int .i64 0, .bool false, .int .i64 0, .int .i64 0, .int .i64 0]) KR KR ?_; clear ha a; intro a ha
        refine stepst ha HW 0 (b := b1528) (C := #[.int .i64 0, .int .i64 0, .int .i64 0, .bool false, .int .i64 0, .int .i64 0, .int .i64 0]) (T := 39) KR 39 0 (.tmp 2) (.tmp 27) (.agg #[.int .i64 0, .int .i64 0, .int .i64 0, .bool false, .int .i64 0, .int .i64 0, .int .i64 0]) #[.int .i64 0, .int .i64 0, .int .i64 0, .bool false, .int .i64 0, .int .i64 0, .int .i64 0] rfl KR KR KR KR KR KR KR ?_; clear ha HW a; intro a W1550 HW ha
        refine stepp ha 3 (.int .i64 150) KR KR ?_; clear ha a; intro a ha
        refine endl ?_
        refine thenN (hK1549 _ _ ?_); clear hK1549
        refine wp_ret ?_
        refine thenR ?_
        obtain rfl := Option.some.inj h
        exact finv ha _ _ rfl (.cell (ad := ⟨b1528, 0, none⟩) (v := .agg #[.int .i64 0, .int .i64 0, .int .i64 0, .bool false, .int .i64 0, .int .i64 0, .int .i64 0]) KR (run_loadVar_ca0 (HW.ca (i := 0) (b := b1528) (C := #[.int .i64 0, .int .i64 0, .int .i64 0, .bool false, .int .i64 0, .int .i64 0, .int .i64 0]) (T := 39) (fr := (0, 0)) KR) 39 0 (.agg #[.int .i64 0, .int .i64 0, .int .i64 0, .bool false, .int .i64 0, .int .i64 0, .int .i64 0]) KR) (.tmp (v := .int .i64 150) KR .nil)) (.tuple #[.agg #[.int .i64 0, .int .i64 0, .int .i64 0, .bool false, .int .i64 0, .int .i64 0, .int .i64 0], .int .i64 150]) rfl ⟨rfl, HW.pick [] [] (by decide) (by decide) rfl KR⟩
    · skip
      replace h := ite_neg' h hp1541
      replace ha := ha.bool 20 KR (ineq_t hp1541)
      refine stepo ha 21 KR ?_; clear ha a; intro a ha
      refine stepo ha 22 KR ?_; clear ha a; intro a ha
      refine stepo ha 23 KR ?_; clear ha a; intro a ha
      refine stepo ha 24 KR ?_; clear ha a; intro a ha
      refine stepo ha 25 KR ?_; clear ha a; intro a ha
      refine stepp ha 26 (.bool true) KR KR ?_; clear ha a; intro a ha
      refine endl ?_
      refine thenN (hK1539 _ _ ?_); clear hK1539
      refine condT ha KR KR (t := true) (rfl) ?_
      refine wp_seq_k (fun K1551 hK1552 => ?_)
      refine wp_region_lit ?_
      refine stepp ha 27 (.agg #[.int .i64 0, .int .i64 0, .int .i64 0, .bool false, .int .i64 0, .int .i64 0, .int .i64 0]) KR KR ?_; clear ha a; intro a ha
      refine stepst ha HW 0 (b := b1528) (C := #[.int .i64 0, .int .i64 0, .int .i64 0, .bool false, .int .i64 0, .int .i64 0, .int .i64 0]) (T := 39) KR 39 0 (.tmp 2) (.tmp 27) (.agg #[.int .i64 0, .int .i64 0, .int .i64 0, .bool false, .int .i64 0, .int .i64 0, .int .i64 0]) #[.int .i64 0, .int .i64 0, .int .i64 0, .bool false, .int .i64 0, .int .i64 0, .int .i64 0] rfl KR KR KR KR KR KR KR ?_; clear ha HW a; intro a W1553 HW ha
      refine stepp ha 3 (.int .i64 150) KR KR ?_; clear ha a; intro a ha
      refine endl ?_
      refine thenN (hK1552 _ _ ?_); clear hK1552
      refine wp_ret ?_
      refine thenR ?_
      obtain rfl := Option.some.inj h
      exact finv ha _ _ rfl (.cell (ad := ⟨b1528, 0, none⟩) (v := .agg #[.int .i64 0, .int .i64 0, .int .i64 0, .bool false, .int .i64 0, .int .i64 0, .int .i64 0]) KR (run_loadVar_ca0 (HW.ca (i := 0) (b := b1528) (C := #[.int .i64 0, .int .i64 0, .int .i64 0, .bool false, .int .i64 0, .int .i64 0, .int .i64 0]) (T := 39) (fr := (0, 0)) KR) 39 0 (.agg #[.int .i64 0, .int .i64 0, .int .i64 0, .bool false, .int .i64 0, .int .i64 0, .int .i64 0]) KR) (.tmp (v := .int .i64 150) KR .nil)) (.tuple #[.agg #[.int .i64 0, .int .i64 0, .int .i64 0, .bool false, .int .i64 0, .int .i64 0, .int .i64 0], .int .i64 150]) rfl ⟨rfl, HW.pick [] [] (by decide) (by decide) rfl KR⟩
/-! ### headgate/fields.Set: function 39 -/
def fields_Set.f (a0 : ByteArray) (a1 : Int) (a2 : ByteArray) : Option (ByteArray × Bool) :=
  if a1 < 0 then (some ((⟨#[]⟩ : ByteArray), false)) else (if (a2.size : Int) > (a0.size : Int) then (some ((⟨#[]⟩ : ByteArray), false)) else (if a1 > (IntKind.wrap .i64 ((a0.size : Int) - (a2.size : Int))) then (some ((⟨#[]⟩ : ByteArray), false)) else (asrt (0 ≤ a1) (asrt (a1 ≤ (a0.size : Int)) (asrt ((a0.extract 0 (a1 : Int).toNat).size + a2.size ≤ 9223372036854775807) (asrt (0 ≤ (IntKind.wrap .i64 (a1 + (a2.size : Int)))) (asrt ((IntKind.wrap .i64 (a1 + (a2.size : Int))) ≤ (a0.size : Int)) (asrt (((a0.extract 0 (a1 : Int).toNat) ++ a2).size + (a0.extract (IntKind.wrap .i64 (a1 + (a2.size : Int)) : Int).toNat (a0).size).size ≤ 9223372036854775807) (some (((a0.extract 0 (a1 : Int).toNat) ++ a2) ++ (a0.extract (IntKind.wrap .i64 (a1 + (a2.size : Int)) : Int).toNat (a0).size), true))))))))))
set_option maxRecDepth 100000 in
set_option maxHeartbeats 4000000 in
theorem fields_Set.calls (a0 : ByteArray) (a1 : Int) (a2 : ByteArray)  (r : ByteArray × Bool) (w : World)  (h : fields_Set.f a0 a1 a2 = some r) :
    Calls Tryd.prog 39 #[.string a0, .int .i64 a1, .string a2] w (fun e W' => e = .returned (.tuple #[.string r.1, .bool r.2]) ∧ Wd w W' [] [] ) := by
  refine sxstart (n := 38) (l := [(0, .string a0), (1, .int .i64 a1), (2, .string a2)]) Tryd.func39 rfl rfl (Nat.le_of_ble_eq_true KR) (subsA_cons rfl (subsA_cons rfl (subsA_cons rfl (subsA_nil _)))) ?_
  intro a ha
  have HW := Wd.refl w
  unfold fields_Set.f at h
  refine wp_seq_k (fun K1694 hK1695 => ?_)
  refine wp_region_lit ?_
  refine stepp ha 6 (.string (⟨#[]⟩ : ByteArray)) KR KR ?_; clear ha a; intro a ha
  refine stepp ha 7 (.bool false) KR KR ?_; clear ha a; intro a ha
  refine endl ?_
  refine thenN (hK1695 _ _ ?_); clear hK1695
  refine wp_seq_k (fun K1696 hK1697 => ?_)
  refine wp_seq_k (fun K1698 hK1699 => ?_)
  refine wp_region_lit ?_
  refine stepp ha 8 (.int .i64 a1) KR KR ?_; clear ha a; intro a ha
  refine stepp ha 9 (.bool (decide (a1 < 0))) KR KR ?_; clear ha a; intro a ha
  refine stepp ha 10 (.bool (decide (a1 < 0))) KR KR ?_; clear ha a; intro a ha
  by_cases hp1700 : a1 < 0
  · skip
    replace h := ite_pos' h hp1700
    replace ha := ha.bool 10 KR (decide_eq_true hp1700)
    refine stepo ha 11 KR ?_; clear ha a; intro a ha
    refine stepo ha 12 KR ?_; clear ha a; intro a ha
    refine stepo ha 13 KR ?_; clear ha a; intro a ha
    refine stepo ha 14 KR ?_; clear ha a; intro a ha
    refine stepo ha 15 KR ?_; clear ha a; intro a ha
    refine stepp ha 16 (.bool true) KR KR ?_; clear ha a; intro a ha
    refine stepp ha 17 (.bool true) KR KR ?_; clear ha a; intro a ha
    refine stepo ha 18 KR ?_; clear ha a; intro a ha
    refine stepo ha 19 KR ?_; clear ha a; intro a ha
    refine stepo ha 20 KR ?_; clear ha a; intro a ha
    refine stepo ha 21 KR ?_; clear ha a; intro a ha
    refine stepo ha 22 KR ?_; clear ha a; intro a ha
    refine stepo ha 23 KR ?_; clear ha a; intro a ha
    refine stepo ha 24 KR ?_; clear ha a; intro a ha
    refine stepp ha 25 (.bool true) KR KR ?_; clear ha a; intro a ha
    refine endl ?_
    refine thenN (hK1699 _ _ ?_); clear hK1699
    refine condT ha KR KR (t := true) (rfl) ?_
    refine wp_seq_k (fun K1702 hK1703 => ?_)
    refine wp_region_lit ?_
    refine stepp ha 6 (.string (⟨#[]⟩ : ByteArray)) KR KR ?_; clear ha a; intro a ha
    refine stepp ha 7 (.bool false) KR KR ?_; clear ha a; intro a ha
    refine endl ?_
    refine thenN (hK1703 _ _ ?_); clear hK1703
    refine wp_ret ?_
    refine thenR ?_
    obtain rfl := Option.some.inj h
    exact finv ha _ _ rfl (.tmp (v := .string (⟨#[]⟩ : ByteArray)) KR (.tmp (v := .bool false) KR .nil)) (.tuple #[.string (⟨#[]⟩ : ByteArray), .bool false]) rfl ⟨rfl, HW.pick [] [] (by decide) (by decide) rfl KR⟩
  · skip
    replace h := ite_neg' h hp1700
    replace ha := ha.bool 10 KR (decide_eq_false hp1700)
    refine stepp ha 11 (.string a2) KR KR ?_; clear ha a; intro a ha
    refine stepp ha 12 (.int .i64 (a2.size : Int)) KR KR ?_; clear ha a; intro a ha
    refine stepp ha 13 (.string a0) KR KR ?_; clear ha a; intro a ha
    refine stepp ha 14 (.int .i64 (a0.size : Int)) KR KR ?_; clear ha a; intro a ha
    refine stepp ha 15 (.bool (decide ((a2.size : Int) > (a0.size : Int)))) KR KR ?_; clear ha a; intro a ha
    refine stepp ha 16 (.bool (decide ((a2.size : Int) > (a0.size : Int)))) KR KR ?_; clear ha a; intro a ha
    refine stepp ha 17 (.bool (decide ((a2.size : Int) > (a0.size : Int)))) KR KR ?_; clear ha a; intro a ha
    by_cases hp1701 : (a2.size : Int) > (a0.size : Int)
    · skip
      replace h := ite_pos' h hp1701
      replace ha := ha.bool 17 KR (decide_eq_true hp1701)
      refine stepo ha 18 KR ?_; clear ha a; intro a ha
      refine stepo ha 19 KR ?_; clear ha a; intro a ha
      refine stepo ha 20 KR ?_; clear ha a; intro a ha
      refine stepo ha 21 KR ?_; clear ha a; intro a ha
      refine stepo ha 22 KR ?_; clear ha a; intro a ha
      refine stepo ha 23 KR ?_; clear ha a; intro a ha
      refine stepo ha 24 KR ?_; clear ha a; intro a ha
      refine stepp ha 25 (.bool true) KR KR ?_; clear ha a; intro a ha
      refine endl ?_
      refine thenN (hK1699 _ _ ?_); clear hK1699
      refine condT ha KR KR (t := true) (rfl) ?_
      refine wp_seq_k (fun K1704 hK1705 => ?_)
      refine wp_region_lit ?_
      refine stepp ha 6 (.string (⟨#[]⟩ : ByteArray)) KR KR ?_; clear ha a; intro a ha
      refine stepp ha 7 (.bool false) KR KR ?_; clear ha a; intro a ha
      refine endl ?_
      refine thenN (hK1705 _ _ ?_); clear hK1705
      refine wp_ret ?_
      refine thenR ?_
      obtain rfl := Option.some.inj h
      exact finv ha _ _ rfl (.tmp (v := .string (⟨#[]⟩ : ByteArray)) KR (.tmp (v := .bool false) KR .nil)) (.tuple #[.string (⟨#[]⟩ : ByteArray), .bool false]) rfl ⟨rfl, HW.pick [] [] (by decide) (by decide) rfl KR⟩
    · skip
      replace h := ite_neg' h hp1701
      replace ha := ha.bool 17 KR (decide_eq_false hp1701)
      refine stepp ha 18 (.int .i64 a1) KR KR ?_; clear ha a; intro a ha
      refine stepp ha 19 (.string a0) KR KR ?_; clear ha a; intro a ha
      refine stepp ha 20 (.int .i64 (a0.size : Int)) KR KR ?_; clear ha a; intro a ha
      refine stepp ha 21 (.string a2) KR KR ?_; clear ha a; intro a ha
      refine stepp ha 22 (.int .i64 (a2.size : Int)) KR KR ?_; clear ha a; intro a ha
      refine stepp ha 23 (.int .i64 (IntKind.wrap .i64 ((a0.size : Int) - (a2.size : Int)))) KR KR ?_; clear ha a; intro a ha
      refine stepp ha 24 (.bool (decide (a1 > (IntKind.wrap .i64 ((a0.size : Int) - (a2.size : Int)))))) KR KR ?_; clear ha a; intro a ha
      refine stepp ha 25 (.bool (decide (a1 > (IntKind.wrap .i64 ((a0.size : Int) - (a2.size : Int)))))) KR KR ?_; clear ha a; intro a ha
      refine endl ?_
      refine thenN (hK1699 _ _ ?_); clear hK1699
      by_cases hp1706 : a1 > (IntKind.wrap .i64 ((a0.size : Int) - (a2.size : Int)))
      · skip
        replace h := ite_pos' h hp1706
        refine condT ha KR KR (t := decide (a1 > (IntKind.wrap .i64 ((a0.size : Int) - (a2.size : Int))))) (decide_eq_true hp1706) ?_
        refine wp_seq_k (fun K1707 hK1708 => ?_)
        refine wp_region_lit ?_
        refine stepp ha 6 (.string (⟨#[]⟩ : ByteArray)) KR KR ?_; clear ha a; intro a ha
        refine stepp ha 7 (.bool false) KR KR ?_; clear ha a; intro a ha
        refine endl ?_
        refine thenN (hK1708 _ _ ?_); clear hK1708
        refine wp_ret ?_
        refine thenR ?_
        obtain rfl := Option.some.inj h
        exact finv ha _ _ rfl (.tmp (v := .string (⟨#[]⟩ : ByteArray)) KR (.tmp (v := .bool false) KR .nil)) (.tuple #[.string (⟨#[]⟩ : ByteArray), .bool false]) rfl ⟨rfl, HW.pick [] [] (by decide) (by decide) rfl KR⟩
      · skip
        replace h := ite_neg' h hp1706
        refine condF ha KR KR (t := decide (a1 > (IntKind.wrap .i64 ((a0.size : Int) - (a2.size : Int))))) (decide_eq_false hp1706) ?_
        refine wp_skip ?_
        refine thenN (hK1697 _ _ ?_); clear hK1697
        refine wp_seq_k (fun K1709 hK1710 => ?_)
        obtain ⟨hA1711, h_⟩ := asrt_some h; clear h; have h := h_; clear h_
        obtain ⟨hA1712, h_⟩ := asrt_some h; clear h; have h := h_; clear h_
        obtain ⟨hA1713, h_⟩ := asrt_some h; clear h; have h := h_; clear h_
        obtain ⟨hA1714, h_⟩ := asrt_some h; clear h; have h := h_; clear h_
        obtain ⟨hA1715, h_⟩ := asrt_some h; clear h; have h := h_; clear h_
        obtain ⟨hA1716, h_⟩ := asrt_some h; clear h; have h := h_; clear h_
        refine regionG 12 KR KR ha HW [.fix (.string a0), .fix (.int .i64 a1), .fix (.string (a0.extract 0 (a1 : Int).toNat)), .fix (.string a2), .fix (.string ((a0.extract 0 (a1 : Int).toNat) ++ a2)), .fix (.string a0), .fix (.int .i64 a1), .fix (.string a2), .fix (.int .i64 (a2.size : Int)), .fix (.int .i64 (IntKind.wrap .i64 (a1 + (a2.size : Int)))), .fix (.string (a0.extract (IntKind.wrap .i64 (a1 + (a2.size : Int)) : Int).toNat (a0).size)), .fix (.string (((a0.extract 0 (a1 : Int).toNat) ++ a2) ++ (a0.extract (IntKind.wrap .i64 (a1 + (a2.size : Int)) : Int).toNat (a0).size)))] ?_ ?_
        · skip
          refine ⟨?_, ?_, ?_, ?_, ?_, ?_, ?_, ?_, ?_, ?_, ?_, ?_, trivial⟩
          · skip
            intro a wr hn hd HW hs; have ha := hasNil hn hd
            have ha := ha.add (seeE hs 0 (.string a0) KR KR)
            refine yStep ha 26 KR ?_; intro l_ ha HK
            refine stepp ha 26 (.string a0) KR KR ?_; intro ax hax; exact HK _ _ _ hax rfl (Below.refl _ _)
          · skip
            intro a wr hn hd HW hs; have ha := hasNil hn hd
            have ha := ha.add (seeE hs 1 (.int .i64 a1) KR KR)
            refine yStep ha 27 KR ?_; intro l_ ha HK
            refine stepp ha 27 (.int .i64 a1) KR KR ?_; intro ax hax; exact HK _ _ _ hax rfl (Below.refl _ _)
          · skip
            intro a wr hn hd HW hs; have ha := hasNil hn hd
            have ha := ha.add (seeF hs 26 0 (.string a0) KR KR)
            have ha := ha.add (seeF hs 27 1 (.int .i64 a1) KR KR)
            refine yStep ha 28 KR ?_; intro l_ ha HK
            refine stepssh ha 28 9 (.tmp 26) (.tmp 27) a0 .i64 a1 rfl KR KR KR hA1711 (show (a1 : Int) ≤ ((a0).size : Int) from hA1712) KR ?_; intro ax hax; exact HK _ _ _ hax rfl (Below.refl _ _)
          · skip
            intro a wr hn hd HW hs; have ha := hasNil hn hd
            have ha := ha.add (seeE hs 2 (.string a2) KR KR)
            refine yStep ha 29 KR ?_; intro l_ ha HK
            refine stepp ha 29 (.string a2) KR KR ?_; intro ax hax; exact HK _ _ _ hax rfl (Below.refl _ _)
          · skip
            intro a wr hn hd HW hs; have ha := hasNil hn hd
            have ha := ha.add (seeF hs 28 2 (.string (a0.extract 0 (a1 : Int).toNat)) KR KR)
            have ha := ha.add (seeF hs 29 3 (.string a2) KR KR)
            refine yStep ha 30 KR ?_; intro l_ ha HK
            refine stepsa ha 30 9 9 (.tmp 28) (.tmp 29) (a0.extract 0 (a1 : Int).toNat) a2 rfl KR KR (show (a0.extract 0 (a1 : Int).toNat).size + (a2).size ≤ 9223372036854775807 from hA1713) KR ?_; intro ax hax; exact HK _ _ _ hax rfl (Below.refl _ _)
          · skip
            intro a wr hn hd HW hs; have ha := hasNil hn hd
            have ha := ha.add (seeE hs 0 (.string a0) KR KR)
            refine yStep ha 31 KR ?_; intro l_ ha HK
            refine stepp ha 31 (.string a0) KR KR ?_; intro ax hax; exact HK _ _ _ hax rfl (Below.refl _ _)
          · skip
            intro a wr hn hd HW hs; have ha := hasNil hn hd
            have ha := ha.add (seeE hs 1 (.int .i64 a1) KR KR)
            refine yStep ha 32 KR ?_; intro l_ ha HK
            refine stepp ha 32 (.int .i64 a1) KR KR ?_; intro ax hax; exact HK _ _ _ hax rfl (Below.refl _ _)
          · skip
            intro a wr hn hd HW hs; have ha := hasNil hn hd
            have ha := ha.add (seeE hs 2 (.string a2) KR KR)
            refine yStep ha 33 KR ?_; intro l_ ha HK
            refine stepp ha 33 (.string a2) KR KR ?_; intro ax hax; exact HK _ _ _ hax rfl (Below.refl _ _)
          · skip
            intro a wr hn hd HW hs; have ha := hasNil hn hd
            have ha := ha.add (seeF hs 33 7 (.string a2) KR KR)
            refine yStep ha 34 KR ?_; intro l_ ha HK
            refine stepp ha 34 (.int .i64 (a2.size : Int)) KR KR ?_; intro ax hax; exact HK _ _ _ hax rfl (Below.refl _ _)
          · skip
            intro a wr hn hd HW hs; have ha := hasNil hn hd
            have ha := ha.add (seeF hs 32 6 (.int .i64 a1) KR KR)
            have ha := ha.add (seeF hs 34 8 (.int .i64 (a2.size : Int)) KR KR)
            refine yStep ha 35 KR ?_; intro l_ ha HK
            refine stepp ha 35 (.int .i64 (IntKind.wrap .i64 (a1 + (a2.size : Int)))) KR KR ?_; intro ax hax; exact HK _ _ _ hax rfl (Below.refl _ _)
          · skip
            intro a wr hn hd HW hs; have ha := hasNil hn hd
            have ha := ha.add (seeF hs 31 5 (.string a0) KR KR)
            have ha := ha.add (seeF hs 35 9 (.int .i64 (IntKind.wrap .i64 (a1 + (a2.size : Int)))) KR KR)
            refine yStep ha 36 KR ?_; intro l_ ha HK
            refine stepssl ha 36 9 (.tmp 31) (.tmp 35) a0 .i64 (IntKind.wrap .i64 (a1 + (a2.size : Int))) rfl KR KR KR hA1714 (show (IntKind.wrap .i64 (a1 + (a2.size : Int)) : Int) ≤ ((a0).size : Int) from hA1715) KR ?_; intro ax hax; exact HK _ _ _ hax rfl (Below.refl _ _)
          · skip
            intro a wr hn hd HW hs; have ha := hasNil hn hd
            have ha := ha.add (seeF hs 30 4 (.string ((a0.extract 0 (a1 : Int).toNat) ++ a2)) KR KR)
            have ha := ha.add (seeF hs 36 10 (.string (a0.extract (IntKind.wrap .i64 (a1 + (a2.size : Int)) : Int).toNat (a0).size)) KR KR)
            refine yStep ha 37 KR ?_; intro l_ ha HK
            refine stepsa ha 37 9 9 (.tmp 30) (.tmp 36) ((a0.extract 0 (a1 : Int).toNat) ++ a2) (a0.extract (IntKind.wrap .i64 (a1 + (a2.size : Int)) : Int).toNat (a0).size) rfl KR KR (show ((a0.extract 0 (a1 : Int).toNat) ++ a2).size + (a0.extract (IntKind.wrap .i64 (a1 + (a2.size : Int)) : Int).toNat (a0).size).size ≤ 9223372036854775807 from hA1716) KR ?_; intro ax hax; exact HK _ _ _ hax rfl (Below.refl _ _)
        · skip
          intro a W1717 ha HW he hf
          replace ha := ha.add (gotF (m := 12) (j := 11) (d := 37) (v := .string (((a0.extract 0 (a1 : Int).toNat) ++ a2) ++ (a0.extract (IntKind.wrap .i64 (a1 + (a2.size : Int)) : Int).toNat (a0).size))) hf KR KR KR)
          clear he hf
          refine stepp ha 6 (.string (((a0.extract 0 (a1 : Int).toNat) ++ a2) ++ (a0.extract (IntKind.wrap .i64 (a1 + (a2.size : Int)) : Int).toNat (a0).size))) KR KR ?_; clear ha a; intro a ha
          refine stepp ha 7 (.bool true) KR KR ?_; clear ha a; intro a ha
          refine endl ?_
          refine thenN (hK1710 _ _ ?_); clear hK1710
          refine wp_ret ?_
          obtain rfl := Option.some.inj h
          exact finv ha _ _ rfl (.tmp (v := .string (((a0.extract 0 (a1 : Int).toNat) ++ a2) ++ (a0.extract (IntKind.wrap .i64 (a1 + (a2.size : Int)) : Int).toNat (a0).size))) KR (.tmp (v := .bool true) KR .nil)) (.tuple #[.string (((a0.extract 0 (a1 : Int).toNat) ++ a2) ++ (a0.extract (IntKind.wrap .i64 (a1 + (a2.size : Int)) : Int).toNat (a0).size)), .bool true]) rfl ⟨rfl, HW.pick [] [] (by decide) (by decide) rfl KR⟩
end Go.Proofs.YtpjcipadjegmlaaDoor.F
