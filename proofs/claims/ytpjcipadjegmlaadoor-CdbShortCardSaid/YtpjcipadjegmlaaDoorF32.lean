/- headgate/cdb.formOf, headgate/cdb.Length, headgate/cdb.Type, headgate/cdb.Parse$1, headgate/cdb.known, headgate/cdb.typed: plain functions, and that the calls come to what they say. No condition. -/
import Derived.Test.YtpjcipadjegmlaaDoorFT
import Derived.Test.YtpjcipadjegmlaaDoorF48
namespace Go.Proofs.YtpjcipadjegmlaaDoor.F
open Go Go.RowKit Go.Proofs.YtpjcipadjegmlaaDoor.X
set_option linter.unusedVariables false
set_option linter.unusedSimpArgs false
/-! ### headgate/cdb.formOf: function 32 -/
def cdb_formOf.b0 (K : Nat) (a0 : Int) (again1560 : Int → Option (Option T_cdb_form)) (x1561 : Int) : Option (Option T_cdb_form) :=
  if x1561 < 14 then (asrt (0 ≤ x1561) (if ((rdL T_cdb_form.z G_cdb_forms x1561).f0) = a0 then (some (some (⟨(rdL T_cdb_form.z G_cdb_forms x1561).f0, (rdL T_cdb_form.z G_cdb_forms x1561).f1, (⟨(rdL T_cdb_form.z G_cdb_forms x1561).f2.f0, (rdL T_cdb_form.z G_cdb_forms x1561).f2.f1⟩ : T_cdb_span), (⟨(rdL T_cdb_form.z G_cdb_forms x1561).f3.f0, (rdL T_cdb_form.z G_cdb_forms x1561).f3.f1⟩ : T_cdb_span), (⟨(rdL T_cdb_form.z G_cdb_forms x1561).f4.f0, (rdL T_cdb_form.z G_cdb_forms x1561).f4.f1⟩ : T_cdb_span)⟩ : T_cdb_form) : Option T_cdb_form)) else (again1560 (IntKind.wrap .i64 (x1561 + 1))))) else (some (none : Option T_cdb_form))
def cdb_formOf.l0 (K : Nat) (a0 : Int) : Nat → Int → Option (Option T_cdb_form)
  | 0, _ => none
  | k_ + 1, x1561 => cdb_formOf.b0 K a0 (cdb_formOf.l0 K a0 k_) x1561
def cdb_formOf.f (K : Nat) (a0 : Int) : Option (Option T_cdb_form) :=
  cdb_formOf.l0 K a0 K 0
set_option maxRecDepth 100000 in
set_option maxHeartbeats 4000000 in
theorem cdb_formOf.calls (K : Nat) (a0 : Int)  (r : Option T_cdb_form) (w : World) (hG1 : CA w 1 0 (encs T_cdb_form.enc G_cdb_forms).toArray) (h : cdb_formOf.f K a0 = some r) :
    Calls Tryd.prog 32 #[.int .i64 a0] w (fun e W' => ∃ b_, e = .returned (pv r b_) ∧ Wd w W' (pb T_cdb_form.enc 75 r b_) []) := by
  refine sxstart (n := 14) (l := [(0, .int .i64 a0)]) Tryd.func32 rfl rfl (Nat.le_of_ble_eq_true KR) (subsA_cons rfl (subsA_nil _)) ?_
  intro a ha
  have HW := Wd.refl w
  unfold cdb_formOf.f at h
  refine wp_seq_k (fun K1517 hK1518 => ?_)
  refine wp_region_lit ?_
  refine stepp ha 2 (.pointer none) KR KR ?_; clear ha a; intro a ha
  refine endl ?_
  refine thenN (hK1518 _ _ ?_); clear hK1518
  refine wp_seq_k (fun K1519 hK1520 => ?_)
  refine wp_seq_k (fun K1521 hK1522 => ?_)
  refine wp_region_lit ?_
  refine stepl ha 5 (HW.ca0 hG1) 91 0 (.global 1) (.agg (encs T_cdb_form.enc G_cdb_forms).toArray) rfl KR KR KR ?_; clear ha a; intro a ha
  refine stepp ha 6 (.int .i64 0) KR KR ?_; clear ha a; intro a ha
  refine endl ?_
  refine thenN (hK1522 _ _ ?_); clear hK1522
  refine wp_block ?_
  refine loopk (fun k => fun a W1562 => ∃ (x1561 : Int), cdb_formOf.l0 K a0 k x1561 = some r ∧ Has 14 [(0, .int .i64 a0), (5, .agg (encs T_cdb_form.enc G_cdb_forms).toArray), (6, .int .i64 x1561)] a ∧ Wd w W1562 [] []) K ?_ ?_
  · skip
    exact ⟨0, h, ha.sub (subs_cons KR (subs_cons KR (subs_cons KR (subs_nil _)))), HW.pick [] [] (by decide) (by decide) KR KR⟩
  · skip
    intro k a W1562 hI
    obtain ⟨x1561, h, ha, HW⟩ := hI
    cases k with
    | zero => exact (none_some (show none = some r from h)).elim
    | succ k1563 =>
      replace h : cdb_formOf.b0 K a0 (cdb_formOf.l0 K a0 k1563) x1561 = some r := h
      obtain ⟨again1560, hag1564⟩ : ∃ g_, g_ = cdb_formOf.l0 K a0 k1563 := ⟨_, rfl⟩
      rw [← hag1564] at h
      unfold cdb_formOf.b0 at h
      refine wp_seq_k (fun K1565 hK1566 => ?_)
      refine wp_region_lit ?_
      refine stepp ha 7 (.bool (decide (x1561 < 14))) KR KR ?_; clear ha a; intro a ha
      refine endl ?_
      refine thenN (hK1566 _ _ ?_); clear hK1566
      refine wp_seq_k (fun K1567 hK1568 => ?_)
      by_cases hp1569 : x1561 < 14
      · skip
        replace h := ite_pos' h hp1569
        refine condT ha KR KR (t := decide (x1561 < 14)) (decide_eq_true hp1569) ?_
        refine wp_skip ?_
        refine thenN (hK1568 _ _ ?_); clear hK1568
        refine wp_seq_k (fun K1570 hK1571 => ?_)
        refine wp_block ?_
        refine wp_seq_k (fun K1572 hK1573 => ?_)
        refine wp_region_lit ?_
        obtain ⟨hA1574, h_⟩ := asrt_some h; clear h; have h := h_; clear h_
        refine stepag T_cdb_form.enc T_cdb_form.z ha 8 91 14 75 (.tmp 5) (.tmp 6) .i64 x1561 G_cdb_forms (.agg #[.int .i64 ((rdL T_cdb_form.z G_cdb_forms x1561).f0), .int .i64 ((rdL T_cdb_form.z G_cdb_forms x1561).f1), .int .i64 ((rdL T_cdb_form.z G_cdb_forms x1561).f2.f0), .int .i64 ((rdL T_cdb_form.z G_cdb_forms x1561).f2.f1), .int .i64 ((rdL T_cdb_form.z G_cdb_forms x1561).f3.f0), .int .i64 ((rdL T_cdb_form.z G_cdb_forms x1561).f3.f1), .int .i64 ((rdL T_cdb_form.z G_cdb_forms x1561).f4.f0), .int .i64 ((rdL T_cdb_form.z G_cdb_forms x1561).f4.f1)]) rfl KR KR KR KR (fun _ => rfl) hA1574 hp1569 KR rfl ?_; clear ha a; intro a ha
        refine stepnew ha HW 4 #[.int .i64 0, .int .i64 0, .int .i64 0, .int .i64 0, .int .i64 0, .int .i64 0, .int .i64 0, .int .i64 0] 75 KR KR ?_; clear ha HW a; intro b1575 a W1576 HW ha
        refine stepst ha HW 0 (b := b1575) (C := #[.int .i64 0, .int .i64 0, .int .i64 0, .int .i64 0, .int .i64 0, .int .i64 0, .int .i64 0, .int .i64 0]) (T := 75) KR 75 0 (.tmp 4) (.tmp 8) (.agg #[.int .i64 ((rdL T_cdb_form.z G_cdb_forms x1561).f0), .int .i64 ((rdL T_cdb_form.z G_cdb_forms x1561).f1), .int .i64 ((rdL T_cdb_form.z G_cdb_forms x1561).f2.f0), .int .i64 ((rdL T_cdb_form.z G_cdb_forms x1561).f2.f1), .int .i64 ((rdL T_cdb_form.z G_cdb_forms x1561).f3.f0), .int .i64 ((rdL T_cdb_form.z G_cdb_forms x1561).f3.f1), .int .i64 ((rdL T_cdb_form.z G_cdb_forms x1561).f4.f0), .int .i64 ((rdL T_cdb_form.z G_cdb_forms x1561).f4.f1)]) #[.int .i64 ((rdL T_cdb_form.z G_cdb_forms x1561).f0), .int .i64 ((rdL T_cdb_form.z G_cdb_forms x1561).f1), .int .i64 ((rdL T_cdb_form.z G_cdb_forms x1561).f2.f0), .int .i64 ((rdL T_cdb_form.z G_cdb_forms x1561).f2.f1), .int .i64 ((rdL T_cdb_form.z G_cdb_forms x1561).f3.f0), .int .i64 ((rdL T_cdb_form.z G_cdb_forms x1561).f3.f1), .int .i64 ((rdL T_cdb_form.z G_cdb_forms x1561).f4.f0), .int .i64 ((rdL T_cdb_form.z G_cdb_forms x1561).f4.f1)] rfl KR KR KR KR KR KR KR ?_; clear ha HW a; intro a W1577 HW ha
        refine endl ?_
        refine thenN (hK1573 _ _ ?_); clear hK1573
        refine wp_seq_k (fun K1578 hK1579 => ?_)
        refine wp_region_lit ?_
        refine stepp ha 9 (.pointer (some ⟨b1575, 0, none⟩)) KR KR ?_; clear ha a; intro a ha
        refine stepl ha 10 (HW.ca (i := 0) (b := b1575) (C := #[.int .i64 ((rdL T_cdb_form.z G_cdb_forms x1561).f0), .int .i64 ((rdL T_cdb_form.z G_cdb_forms x1561).f1), .int .i64 ((rdL T_cdb_form.z G_cdb_forms x1561).f2.f0), .int .i64 ((rdL T_cdb_form.z G_cdb_forms x1561).f2.f1), .int .i64 ((rdL T_cdb_form.z G_cdb_forms x1561).f3.f0), .int .i64 ((rdL T_cdb_form.z G_cdb_forms x1561).f3.f1), .int .i64 ((rdL T_cdb_form.z G_cdb_forms x1561).f4.f0), .int .i64 ((rdL T_cdb_form.z G_cdb_forms x1561).f4.f1)]) (T := 75) (fr := (0, 0)) KR) 3 0 (.tmp 9) (.int .i64 ((rdL T_cdb_form.z G_cdb_forms x1561).f0)) rfl KR KR KR ?_; clear ha a; intro a ha
        refine stepp ha 11 (.int .i64 a0) KR KR ?_; clear ha a; intro a ha
        refine stepp ha 12 (.bool (((rdL T_cdb_form.z G_cdb_forms x1561).f0) == a0)) KR KR ?_; clear ha a; intro a ha
        refine endl ?_
        refine thenN (hK1579 _ _ ?_); clear hK1579
        by_cases hp1580 : ((rdL T_cdb_form.z G_cdb_forms x1561).f0) = a0
        · skip
          replace h := ite_pos' h hp1580
          refine condT ha KR KR (t := (((rdL T_cdb_form.z G_cdb_forms x1561).f0) == a0)) (ieq_t hp1580) ?_
          refine wp_seq_k (fun K1581 hK1582 => ?_)
          refine wp_region_lit ?_
          refine stepp ha 2 (.pointer (some ⟨b1575, 0, none⟩)) KR KR ?_; clear ha a; intro a ha
          refine endl ?_
          refine thenN (hK1582 _ _ ?_); clear hK1582
          refine wp_ret ?_
          refine blkR ?_
          refine thenR ?_
          refine thenR ?_
          refine blkR ?_
          refine thenR ?_
          obtain rfl := Option.some.inj h
          exact finv ha _ _ rfl (.tmp (v := .pointer (some ⟨b1575, 0, none⟩)) KR .nil) (.pointer (some ⟨b1575, 0, none⟩)) rfl ⟨b1575, rfl, HW.pick [0] [] (by decide) (by decide) KR rfl⟩
        · skip
          replace h := ite_neg' h hp1580
          refine condF ha KR KR (t := (((rdL T_cdb_form.z G_cdb_forms x1561).f0) == a0)) (ieq_f hp1580) ?_
          refine wp_skip ?_
          refine blkN ?_
          refine thenN (hK1571 _ _ ?_); clear hK1571
          refine wp_region_lit ?_
          refine stepp ha 13 (.int .i64 (IntKind.wrap .i64 (x1561 + 1))) KR KR ?_; clear ha a; intro a ha
          refine stepp ha 6 (.int .i64 (IntKind.wrap .i64 (x1561 + 1))) KR KR ?_; clear ha a; intro a ha
          refine endl ?_
          exact thenN ⟨k1563, Nat.lt_succ_self k1563, IntKind.wrap .i64 (x1561 + 1), (by rw [← hag1564]; exact h), ha.sub (subs_cons KR (subs_cons KR (subs_cons KR (subs_nil _)))), HW.pick [] [] (by decide) (by decide) KR KR⟩
      · skip
        replace h := ite_neg' h hp1569
        refine condF ha KR KR (t := decide (x1561 < 14)) (decide_eq_false hp1569) ?_
        refine wp_exit ?_
        refine thenE ?_
        refine thenE ?_
        refine inBlk ?_
        refine thenN (hK1520 _ _ ?_); clear hK1520
        refine wp_seq_k (fun K1583 hK1584 => ?_)
        refine wp_region_lit ?_
        refine stepp ha 2 (.pointer none) KR KR ?_; clear ha a; intro a ha
        refine endl ?_
        refine thenN (hK1584 _ _ ?_); clear hK1584
        refine wp_ret ?_
        obtain rfl := Option.some.inj h
        exact finv ha _ _ rfl (.tmp (v := .pointer none) KR .nil) (.pointer none) rfl ⟨0, rfl, HW.pick [] [] (by decide) (by decide) rfl rfl⟩
/-! ### headgate/cdb.Length: function 20 -/
def cdb_Length.f (K : Nat) (a0 : ByteArray) : Option Int :=
  if a0 = (⟨#[]⟩ : ByteArray) then (some 0) else (asrt (0 < (a0.size : Int)) ((cdb_formOf.f K (IntKind.wrap .i64 (bt a0 0))).bind fun t1599 => (optc t1599 (some 0) (fun x1604 => (some x1604.f1)))))
set_option maxRecDepth 100000 in
set_option maxHeartbeats 4000000 in
theorem cdb_Length.calls (K : Nat) (a0 : ByteArray)  (r : Int) (w : World) (hG1 : CA w 1 0 (encs T_cdb_form.enc G_cdb_forms).toArray) (h : cdb_Length.f K a0 = some r) :
    Calls Tryd.prog 20 #[.string a0] w (fun e W' => e = .returned (.int .i64 r) ∧ Wd w W' [] [] ) := by
  refine sxstart (n := 16) (l := [(0, .string a0)]) Tryd.func20 rfl rfl (Nat.le_of_ble_eq_true KR) (subsA_cons rfl (subsA_nil _)) ?_
  intro a ha
  have HW := Wd.refl w
  unfold cdb_Length.f at h
  refine wp_seq_k (fun K1585 hK1586 => ?_)
  refine wp_region_lit ?_
  refine stepp ha 2 (.int .i64 0) KR KR ?_; clear ha a; intro a ha
  refine endl ?_
  refine thenN (hK1586 _ _ ?_); clear hK1586
  refine wp_seq_k (fun K1587 hK1588 => ?_)
  refine wp_seq_k (fun K1589 hK1590 => ?_)
  refine wp_region_lit ?_
  refine stepp ha 4 (.string a0) KR KR ?_; clear ha a; intro a ha
  refine stepp ha 5 (.bool (a0.toList == (⟨#[]⟩ : ByteArray).toList)) KR KR ?_; clear ha a; intro a ha
  refine endl ?_
  refine thenN (hK1590 _ _ ?_); clear hK1590
  by_cases hp1591 : a0 = (⟨#[]⟩ : ByteArray)
  · skip
    replace h := ite_pos' h hp1591
    refine condT ha KR KR (t := (a0.toList == (⟨#[]⟩ : ByteArray).toList)) (str_eq_t hp1591) ?_
    refine wp_seq_k (fun K1592 hK1593 => ?_)
    refine wp_region_lit ?_
    refine stepp ha 2 (.int .i64 0) KR KR ?_; clear ha a; intro a ha
    refine endl ?_
    refine thenN (hK1593 _ _ ?_); clear hK1593
    refine wp_ret ?_
    refine thenR ?_
    obtain rfl := Option.some.inj h
    exact finv ha _ _ rfl (.tmp (v := .int .i64 0) KR .nil) (.int .i64 0) rfl ⟨rfl, HW.pick [] [] (by decide) (by decide) rfl KR⟩
  · skip
    replace h := ite_neg' h hp1591
    refine condF ha KR KR (t := (a0.toList == (⟨#[]⟩ : ByteArray).toList)) (str_eq_f hp1591) ?_
    refine wp_skip ?_
    refine thenN (hK1588 _ _ ?_); clear hK1588
    refine wp_seq_k (fun K1594 hK1595 => ?_)
    refine wp_seq_k (fun K1596 hK1597 => ?_)
    refine wp_region_lit ?_
    refine stepp ha 6 (.string a0) KR KR ?_; clear ha a; intro a ha
    obtain ⟨hA1598, h_⟩ := asrt_some h; clear h; have h := h_; clear h_
    refine stepsi ha 7 9 (.tmp 6) (.const (.int .i64 0)) a0 .i64 0 rfl KR KR KR (by decide) (show (0 : Int) < ((a0).size : Int) from hA1598) KR ?_; clear ha a; intro a ha
    refine stepp ha 8 (.int .i64 (IntKind.wrap .i64 (bt a0 0))) KR KR ?_; clear ha a; intro a ha
    obtain ⟨t1599, ht1600, h_⟩ := bind_some' h; clear h; have h := h_; clear h_
    refine stepc ha 9 KR KR (cdb_formOf.calls K (IntKind.wrap .i64 (bt a0 0)) t1599 _ (HW.ca0 hG1) ht1600) ?_; clear ha a; rintro e W1602 ⟨b1601, rfl, HX1603⟩
    refine ⟨_, rfl, ?_⟩; intro a ha; replace HW := HW.callw HX1603; clear HX1603
    rcases t1599 with _ | x1604
    · skip
      replace h := optc_n h
      replace HW : Wd w W1602 [] [] := HW
      replace ha := ha.turn 9 (v := .pointer none) KR rfl
      refine stepp ha 3 (.pointer none) KR KR ?_; clear ha a; intro a ha
      refine endl ?_
      refine thenN (hK1597 _ _ ?_); clear hK1597
      refine wp_seq_k (fun K1605 hK1606 => ?_)
      refine wp_region_lit ?_
      refine stepp ha 10 (.pointer none) KR KR ?_; clear ha a; intro a ha
      refine stepp ha 11 (.bool false) KR KR ?_; clear ha a; intro a ha
      refine endl ?_
      refine thenN (hK1606 _ _ ?_); clear hK1606
      refine condF ha KR KR (t := false) (rfl) ?_
      refine wp_skip ?_
      refine thenN (hK1595 _ _ ?_); clear hK1595
      refine wp_seq_k (fun K1611 hK1612 => ?_)
      refine wp_region_lit ?_
      refine stepp ha 2 (.int .i64 0) KR KR ?_; clear ha a; intro a ha
      refine endl ?_
      refine thenN (hK1612 _ _ ?_); clear hK1612
      refine wp_ret ?_
      obtain rfl := Option.some.inj h
      exact finv ha _ _ rfl (.tmp (v := .int .i64 0) KR .nil) (.int .i64 0) rfl ⟨rfl, HW.pick [] [] (by decide) (by decide) rfl KR⟩
    · skip
      replace h := optc_s h
      replace HW : Wd w W1602 [(b1601, .cells #[.int .i64 x1604.f0, .int .i64 x1604.f1, .int .i64 x1604.f2.f0, .int .i64 x1604.f2.f1, .int .i64 x1604.f3.f0, .int .i64 x1604.f3.f1, .int .i64 x1604.f4.f0, .int .i64 x1604.f4.f1] 75 (0, 0))] [] := HW
      replace ha := ha.turn 9 (v := .pointer (some ⟨b1601, 0, none⟩)) KR rfl
      refine stepp ha 3 (.pointer (some ⟨b1601, 0, none⟩)) KR KR ?_; clear ha a; intro a ha
      refine endl ?_
      refine thenN (hK1597 _ _ ?_); clear hK1597
      refine wp_seq_k (fun K1607 hK1608 => ?_)
      refine wp_region_lit ?_
      refine stepp ha 10 (.pointer (some ⟨b1601, 0, none⟩)) KR KR ?_; clear ha a; intro a ha
      refine stepp ha 11 (.bool true) KR KR ?_; clear ha a; intro a ha
      refine endl ?_
      refine thenN (hK1608 _ _ ?_); clear hK1608
      refine condT ha KR KR (t := true) (rfl) ?_
      refine wp_seq_k (fun K1609 hK1610 => ?_)
      refine wp_region_lit ?_
      refine stepp ha 12 (.pointer (some ⟨b1601, 0, none⟩)) KR KR ?_; clear ha a; intro a ha
      refine stepp ha 13 (.pointer (some ⟨b1601, 0, none⟩)) KR KR ?_; clear ha a; intro a ha
      refine stepp ha 14 (.pointer (some ⟨b1601, 1, none⟩)) KR KR ?_; clear ha a; intro a ha
      refine stepl ha 15 (HW.ca (i := 0) (b := b1601) (C := #[.int .i64 x1604.f0, .int .i64 x1604.f1, .int .i64 x1604.f2.f0, .int .i64 x1604.f2.f1, .int .i64 x1604.f3.f0, .int .i64 x1604.f3.f1, .int .i64 x1604.f4.f0, .int .i64 x1604.f4.f1]) (T := 75) (fr := (0, 0)) KR) 3 1 (.tmp 14) (.int .i64 x1604.f1) rfl KR KR KR ?_; clear ha a; intro a ha
      refine stepp ha 2 (.int .i64 x1604.f1) KR KR ?_; clear ha a; intro a ha
      refine endl ?_
      refine thenN (hK1610 _ _ ?_); clear hK1610
      refine wp_ret ?_
      refine thenR ?_
      obtain rfl := Option.some.inj h
      exact finv ha _ _ rfl (.tmp (v := .int .i64 x1604.f1) KR .nil) (.int .i64 x1604.f1) rfl ⟨rfl, HW.pick [] [] (by decide) (by decide) rfl KR⟩
/-! ### headgate/cdb.Type: function 24 -/
def cdb_Type.b0 (K : Nat) (a0 : Int) (again1652 : Int → Option Int) (x1653 : Int) : Option Int :=
  if x1653 < 7 then (asrt (0 ≤ x1653) (if (rdL (0 : Int) G_cdb_numbers x1653) = a0 then (if a0 = 0 then (again1652 (IntKind.wrap .i64 (x1653 + 1))) else (some x1653)) else (again1652 (IntKind.wrap .i64 (x1653 + 1))))) else (some 0)
def cdb_Type.l0 (K : Nat) (a0 : Int) : Nat → Int → Option Int
  | 0, _ => none
  | k_ + 1, x1653 => cdb_Type.b0 K a0 (cdb_Type.l0 K a0 k_) x1653
def cdb_Type.f (K : Nat) (a0 : Int) : Option Int :=
  cdb_Type.l0 K a0 K 0
set_option maxRecDepth 100000 in
set_option maxHeartbeats 4000000 in
theorem cdb_Type.calls (K : Nat) (a0 : Int)  (r : Int) (w : World) (hG0 : CA w 0 0 (encs (encI .i64) G_cdb_numbers).toArray) (h : cdb_Type.f K a0 = some r) :
    Calls Tryd.prog 24 #[.int .i64 a0] w (fun e W' => e = .returned (.int .i64 r) ∧ Wd w W' [] [] ) := by
  refine sxstart (n := 19) (l := [(0, .int .i64 a0)]) Tryd.func24 rfl rfl (Nat.le_of_ble_eq_true KR) (subsA_cons rfl (subsA_nil _)) ?_
  intro a ha
  have HW := Wd.refl w
  unfold cdb_Type.f at h
  refine wp_seq_k (fun K1613 hK1614 => ?_)
  refine wp_region_lit ?_
  refine stepp ha 2 (.int .i64 0) KR KR ?_; clear ha a; intro a ha
  refine endl ?_
  refine thenN (hK1614 _ _ ?_); clear hK1614
  refine wp_seq_k (fun K1615 hK1616 => ?_)
  refine wp_seq_k (fun K1617 hK1618 => ?_)
  refine wp_region_lit ?_
  refine stepl ha 5 (HW.ca0 hG0) 69 0 (.global 0) (.agg (encs (encI .i64) G_cdb_numbers).toArray) rfl KR KR KR ?_; clear ha a; intro a ha
  refine stepp ha 6 (.int .i64 0) KR KR ?_; clear ha a; intro a ha
  refine endl ?_
  refine thenN (hK1618 _ _ ?_); clear hK1618
  refine wp_block ?_
  refine loopk (fun k => fun a W1654 => ∃ (x1653 : Int), cdb_Type.l0 K a0 k x1653 = some r ∧ Has 19 [(0, .int .i64 a0), (5, .agg (encs (encI .i64) G_cdb_numbers).toArray), (6, .int .i64 x1653)] a ∧ Wd w W1654 [] []) K ?_ ?_
  · skip
    exact ⟨0, h, ha.sub (subs_cons KR (subs_cons KR (subs_cons KR (subs_nil _)))), HW.pick [] [] (by decide) (by decide) KR KR⟩
  · skip
    intro k a W1654 hI
    obtain ⟨x1653, h, ha, HW⟩ := hI
    cases k with
    | zero => exact (none_some (show none = some r from h)).elim
    | succ k1655 =>
      replace h : cdb_Type.b0 K a0 (cdb_Type.l0 K a0 k1655) x1653 = some r := h
      obtain ⟨again1652, hag1656⟩ : ∃ g_, g_ = cdb_Type.l0 K a0 k1655 := ⟨_, rfl⟩
      rw [← hag1656] at h
      unfold cdb_Type.b0 at h
      refine wp_seq_k (fun K1657 hK1658 => ?_)
      refine wp_region_lit ?_
      refine stepp ha 7 (.bool (decide (x1653 < 7))) KR KR ?_; clear ha a; intro a ha
      refine endl ?_
      refine thenN (hK1658 _ _ ?_); clear hK1658
      refine wp_seq_k (fun K1659 hK1660 => ?_)
      by_cases hp1661 : x1653 < 7
      · skip
        replace h := ite_pos' h hp1661
        refine condT ha KR KR (t := decide (x1653 < 7)) (decide_eq_true hp1661) ?_
        refine wp_skip ?_
        refine thenN (hK1660 _ _ ?_); clear hK1660
        refine wp_seq_k (fun K1662 hK1663 => ?_)
        refine wp_block ?_
        refine wp_seq_k (fun K1664 hK1665 => ?_)
        refine wp_region_lit ?_
        refine stepp ha 8 (.int .i64 x1653) KR KR ?_; clear ha a; intro a ha
        obtain ⟨hA1666, h_⟩ := asrt_some h; clear h; have h := h_; clear h_
        refine stepai (Value.int .i64) (0 : Int) ha 9 69 7 3 (.tmp 5) (.tmp 6) .i64 x1653 G_cdb_numbers rfl KR KR KR KR hA1666 hp1661 KR ?_; clear ha a; intro a ha
        refine stepp ha 3 (.int .i64 x1653) KR KR ?_; clear ha a; intro a ha
        refine stepp ha 4 (.int .i64 (rdL (0 : Int) G_cdb_numbers x1653)) KR KR ?_; clear ha a; intro a ha
        refine endl ?_
        refine thenN (hK1665 _ _ ?_); clear hK1665
        refine wp_seq_k (fun K1667 hK1668 => ?_)
        refine wp_region_lit ?_
        refine stepp ha 10 (.int .i64 (rdL (0 : Int) G_cdb_numbers x1653)) KR KR ?_; clear ha a; intro a ha
        refine stepp ha 11 (.int .i64 a0) KR KR ?_; clear ha a; intro a ha
        refine stepp ha 12 (.bool ((rdL (0 : Int) G_cdb_numbers x1653) == a0)) KR KR ?_; clear ha a; intro a ha
        refine stepp ha 13 (.bool ((rdL (0 : Int) G_cdb_numbers x1653) == a0)) KR KR ?_; clear ha a; intro a ha
        by_cases hp1669 : (rdL (0 : Int) G_cdb_numbers x1653) = a0
        · skip
          replace h := ite_pos' h hp1669
          replace ha := ha.bool 13 KR (ieq_t hp1669)
          refine stepp ha 14 (.int .i64 a0) KR KR ?_; clear ha a; intro a ha
          refine stepp ha 15 (.bool (a0 != 0)) KR KR ?_; clear ha a; intro a ha
          refine stepp ha 16 (.bool (a0 != 0)) KR KR ?_; clear ha a; intro a ha
          refine endl ?_
          refine thenN (hK1668 _ _ ?_); clear hK1668
          by_cases hp1670 : a0 = 0
          · skip
            replace h := ite_pos' h hp1670
            refine condF ha KR KR (t := (a0 != 0)) (ineq_f hp1670) ?_
            refine wp_skip ?_
            refine blkN ?_
            refine thenN (hK1663 _ _ ?_); clear hK1663
            refine wp_region_lit ?_
            refine stepp ha 18 (.int .i64 (IntKind.wrap .i64 (x1653 + 1))) KR KR ?_; clear ha a; intro a ha
            refine stepp ha 6 (.int .i64 (IntKind.wrap .i64 (x1653 + 1))) KR KR ?_; clear ha a; intro a ha
            refine endl ?_
            exact thenN ⟨k1655, Nat.lt_succ_self k1655, IntKind.wrap .i64 (x1653 + 1), (by rw [← hag1656]; exact h), ha.sub (subs_cons KR (subs_cons KR (subs_cons KR (subs_nil _)))), HW.pick [] [] (by decide) (by decide) KR KR⟩
          · skip
            replace h := ite_neg' h hp1670
            refine condT ha KR KR (t := (a0 != 0)) (ineq_t hp1670) ?_
            refine wp_seq_k (fun K1671 hK1672 => ?_)
            refine wp_region_lit ?_
            refine stepp ha 17 (.int .i64 x1653) KR KR ?_; clear ha a; intro a ha
            refine stepp ha 2 (.int .i64 x1653) KR KR ?_; clear ha a; intro a ha
            refine endl ?_
            refine thenN (hK1672 _ _ ?_); clear hK1672
            refine wp_ret ?_
            refine blkR ?_
            refine thenR ?_
            refine thenR ?_
            refine blkR ?_
            refine thenR ?_
            obtain rfl := Option.some.inj h
            exact finv ha _ _ rfl (.tmp (v := .int .i64 x1653) KR .nil) (.int .i64 x1653) rfl ⟨rfl, HW.pick [] [] (by decide) (by decide) rfl KR⟩
        · skip
          replace h := ite_neg' h hp1669
          replace ha := ha.bool 13 KR (ieq_f hp1669)
          refine stepo ha 14 KR ?_; clear ha a; intro a ha
          refine stepo ha 15 KR ?_; clear ha a; intro a ha
          refine stepp ha 16 (.bool false) KR KR ?_; clear ha a; intro a ha
          refine endl ?_
          refine thenN (hK1668 _ _ ?_); clear hK1668
          refine condF ha KR KR (t := false) (rfl) ?_
          refine wp_skip ?_
          refine blkN ?_
          refine thenN (hK1663 _ _ ?_); clear hK1663
          refine wp_region_lit ?_
          refine stepp ha 18 (.int .i64 (IntKind.wrap .i64 (x1653 + 1))) KR KR ?_; clear ha a; intro a ha
          refine stepp ha 6 (.int .i64 (IntKind.wrap .i64 (x1653 + 1))) KR KR ?_; clear ha a; intro a ha
          refine endl ?_
          exact thenN ⟨k1655, Nat.lt_succ_self k1655, IntKind.wrap .i64 (x1653 + 1), (by rw [← hag1656]; exact h), ha.sub (subs_cons KR (subs_cons KR (subs_cons KR (subs_nil _)))), HW.pick [] [] (by decide) (by decide) KR KR⟩
      · skip
        replace h := ite_neg' h hp1661
        refine condF ha KR KR (t := decide (x1653 < 7)) (decide_eq_false hp1661) ?_
        refine wp_exit ?_
        refine thenE ?_
        refine thenE ?_
        refine inBlk ?_
        refine thenN (hK1616 _ _ ?_); clear hK1616
        refine wp_seq_k (fun K1673 hK1674 => ?_)
        refine wp_region_lit ?_
        refine stepp ha 2 (.int .i64 0) KR KR ?_; clear ha a; intro a ha
        refine endl ?_
        refine thenN (hK1674 _ _ ?_); clear hK1674
        refine wp_ret ?_
        obtain rfl := Option.some.inj h
        exact finv ha _ _ rfl (.tmp (v := .int .i64 0) KR .nil) (.int .i64 0) rfl ⟨rfl, HW.pick [] [] (by decide) (by decide) rfl KR⟩
/-! ### headgate/cdb.Parse$1: function 33 -/
def cdb_Parse_1.f (K : Nat) (a0 : T_cdb_span) (k0 : ByteArray) : Option Int :=
  (fields_Big.f K k0 a0.f0 a0.f1).bind fun t1681 => (some (IntKind.wrap .i64 (mn t1681.1 4611686018427387904)))
set_option maxRecDepth 100000 in
set_option maxHeartbeats 4000000 in
theorem cdb_Parse_1.calls (K : Nat) (a0 : T_cdb_span) (k0 : ByteArray) (cb0 : Nat) (r : Int) (w : World) (hc0 : CA w cb0 0 #[.string k0]) (h : cdb_Parse_1.f K a0 k0 = some r) :
    Calls Tryd.prog 33 #[.agg #[.int .i64 a0.f0, .int .i64 a0.f1], .pointer (some ⟨cb0, 0, none⟩)] w (fun e W' => e = .returned (.int .i64 r) ∧ Wd w W' [] [] ) := by
  refine sxstart (n := 18) (l := [(0, .agg #[.int .i64 a0.f0, .int .i64 a0.f1]), (1, .pointer (some ⟨cb0, 0, none⟩))]) Tryd.func33 rfl rfl (Nat.le_of_ble_eq_true KR) (subsA_cons rfl (subsA_cons rfl (subsA_nil _))) ?_
  intro a ha
  have HW := Wd.refl w
  unfold cdb_Parse_1.f at h
  refine wp_seq_k (fun K1675 hK1676 => ?_)
  refine wp_region_lit ?_
  refine stepnew ha HW 2 #[.int .i64 a0.f0, .int .i64 a0.f1] 73 KR KR ?_; clear ha HW a; intro b1677 a W1678 HW ha
  refine stepp ha 3 (.int .i64 0) KR KR ?_; clear ha a; intro a ha
  refine endl ?_
  refine thenN (hK1676 _ _ ?_); clear hK1676
  refine wp_seq_k (fun K1679 hK1680 => ?_)
  refine wp_region_lit ?_
  refine stepl ha 7 (HW.ca0 hc0) 9 0 (.tmp 1) (.string k0) rfl KR KR KR ?_; clear ha a; intro a ha
  refine stepp ha 8 (.pointer (some ⟨b1677, 0, none⟩)) KR KR ?_; clear ha a; intro a ha
  refine stepl ha 9 (HW.ca (i := 0) (b := b1677) (C := #[.int .i64 a0.f0, .int .i64 a0.f1]) (T := 73) (fr := (0, 0)) KR) 3 0 (.tmp 8) (.int .i64 a0.f0) rfl KR KR KR ?_; clear ha a; intro a ha
  refine stepp ha 10 (.pointer (some ⟨b1677, 1, none⟩)) KR KR ?_; clear ha a; intro a ha
  refine stepl ha 11 (HW.ca (i := 0) (b := b1677) (C := #[.int .i64 a0.f0, .int .i64 a0.f1]) (T := 73) (fr := (0, 0)) KR) 3 1 (.tmp 10) (.int .i64 a0.f1) rfl KR KR KR ?_; clear ha a; intro a ha
  obtain ⟨t1681, ht1682, h_⟩ := bind_some' h; clear h; have h := h_; clear h_
  refine stepc ha 12 KR KR (fields_Big.calls K k0 a0.f0 a0.f1 t1681 _ ht1682) ?_; clear ha a; rintro e W1683 ⟨rfl, HX1684⟩
  refine ⟨_, rfl, ?_⟩; intro a ha; replace HW := HW.callw HX1684; clear HX1684
  refine stepp ha 6 (.tuple #[.int .u64 t1681.1, .bool t1681.2]) KR KR ?_; clear ha a; intro a ha
  refine stepp ha 13 (.int .u64 t1681.1) KR KR ?_; clear ha a; intro a ha
  refine stepp ha 14 (.bool t1681.2) KR KR ?_; clear ha a; intro a ha
  refine stepp ha 4 (.int .u64 t1681.1) KR KR ?_; clear ha a; intro a ha
  refine stepp ha 5 (.bool t1681.2) KR KR ?_; clear ha a; intro a ha
  refine endl ?_
  refine thenN (hK1680 _ _ ?_); clear hK1680
  refine wp_seq_k (fun K1685 hK1686 => ?_)
  refine wp_region_lit ?_
  refine stepp ha 15 (.int .u64 t1681.1) KR KR ?_; clear ha a; intro a ha
  refine stepmn ha 16 #[32, 32] (.tmp 15) (.const (.int .u64 4611686018427387904)) .u64 t1681.1 4611686018427387904 rfl KR KR KR ?_; clear ha a; intro a ha
  refine stepp ha 17 (.int .i64 (IntKind.wrap .i64 (mn t1681.1 4611686018427387904))) KR KR ?_; clear ha a; intro a ha
  refine stepp ha 3 (.int .i64 (IntKind.wrap .i64 (mn t1681.1 4611686018427387904))) KR KR ?_; clear ha a; intro a ha
  refine endl ?_
  refine thenN (hK1686 _ _ ?_); clear hK1686
  refine wp_ret ?_
  obtain rfl := Option.some.inj h
  exact finv ha _ _ rfl (.tmp (v := .int .i64 (IntKind.wrap .i64 (mn t1681.1 4611686018427387904))) KR .nil) (.int .i64 (IntKind.wrap .i64 (mn t1681.1 4611686018427387904))) rfl ⟨rfl, HW.pick [] [] (by decide) (by decide) rfl KR⟩
/-! ### headgate/cdb.known: function 35 -/
def cdb_known.f (a0 : Int) (a1 : Int) : Option Bool :=
  if a0 = 94 then (some (decide (a1 ≤ 1))) else (if a1 ≤ 4 then (some true) else (some (a1 == 6)))
set_option maxRecDepth 100000 in
set_option maxHeartbeats 4000000 in
theorem cdb_known.calls (a0 : Int) (a1 : Int)  (r : Bool) (w : World)  (h : cdb_known.f a0 a1 = some r) :
    Calls Tryd.prog 35 #[.int .i64 a0, .int .i64 a1] w (fun e W' => e = .returned (.bool r) ∧ Wd w W' [] [] ) := by
  refine sxstart (n := 15) (l := [(0, .int .i64 a0), (1, .int .i64 a1)]) Tryd.func35 rfl rfl (Nat.le_of_ble_eq_true KR) (subsA_cons rfl (subsA_cons rfl (subsA_nil _))) ?_
  intro a ha
  have HW := Wd.refl w
  unfold cdb_known.f at h
  refine wp_seq_k (fun K1687 hK1688 => ?_)
  refine wp_region_lit ?_
  refine stepp ha 4 (.bool false) KR KR ?_; clear ha a; intro a ha
  refine endl ?_
  refine thenN (hK1688 _ _ ?_); clear hK1688
  refine wp_seq_k (fun K1689 hK1690 => ?_)
  refine wp_seq_k (fun K1691 hK1692 => ?_)
  refine wp_region_lit ?_
  refine stepp ha 5 (.int .i64 a0) KR KR ?_; clear ha a; intro a ha
  refine stepp ha 6 (.bool (a0 == 94)) KR KR ?_; clear ha a; intro a ha
  refine endl ?_
  refine thenN (hK1692 _ _ ?_); clear hK1692
  by_cases hp1693 : a0 = 94
  · skip
    replace h := ite_pos' h hp1693
    refine condT ha KR KR (t := (a0 == 94)) (ieq_t hp1693) ?_
    refine wp_seq_k (fun K1694 hK1695 => ?_)
    refine wp_region_lit ?_
    refine stepp ha 7 (.int .i64 a1) KR KR ?_; clear ha a; intro a ha
    refine stepp ha 8 (.bool (decide (a1 ≤ 1))) KR KR ?_; clear ha a; intro a ha
    refine stepp ha 4 (.bool (decide (a1 ≤ 1))) KR KR ?_; clear ha a; intro a ha
    refine endl ?_
    refine thenN (hK1695 _ _ ?_); clear hK1695
    refine wp_ret ?_
    refine thenR ?_
    obtain rfl := Option.some.inj h
    exact finv ha _ _ rfl (.tmp (v := .bool (decide (a1 ≤ 1))) KR .nil) (.bool (decide (a1 ≤ 1))) rfl ⟨rfl, HW.pick [] [] (by decide) (by decide) rfl KR⟩
  · skip
    replace h := ite_neg' h hp1693
    refine condF ha KR KR (t := (a0 == 94)) (ieq_f hp1693) ?_
    refine wp_skip ?_
    refine thenN (hK1690 _ _ ?_); clear hK1690
    refine wp_seq_k (fun K1696 hK1697 => ?_)
    refine wp_region_lit ?_
    refine stepp ha 9 (.int .i64 a1) KR KR ?_; clear ha a; intro a ha
    refine stepp ha 10 (.bool (decide (a1 ≤ 4))) KR KR ?_; clear ha a; intro a ha
    refine stepp ha 11 (.bool (decide (a1 ≤ 4))) KR KR ?_; clear ha a; intro a ha
    by_cases hp1698 : a1 ≤ 4
    · skip
      replace h := ite_pos' h hp1698
      replace ha := ha.bool 11 KR (decide_eq_true hp1698)
      refine stepo ha 12 KR ?_; clear ha a; intro a ha
      refine stepo ha 13 KR ?_; clear ha a; intro a ha
      refine stepp ha 14 (.bool true) KR KR ?_; clear ha a; intro a ha
      refine stepp ha 4 (.bool true) KR KR ?_; clear ha a; intro a ha
      refine endl ?_
      refine thenN (hK1697 _ _ ?_); clear hK1697
      refine wp_ret ?_
      obtain rfl := Option.some.inj h
      exact finv ha _ _ rfl (.tmp (v := .bool true) KR .nil) (.bool true) rfl ⟨rfl, HW.pick [] [] (by decide) (by decide) rfl KR⟩
    · skip
      replace h := ite_neg' h hp1698
      replace ha := ha.bool 11 KR (decide_eq_false hp1698)
      refine stepp ha 12 (.int .i64 a1) KR KR ?_; clear ha a; intro a ha
      refine stepp ha 13 (.bool (a1 == 6)) KR KR ?_; clear ha a; intro a ha
      refine stepp ha 14 (.bool (a1 == 6)) KR KR ?_; clear ha a; intro a ha
      refine stepp ha 4 (.bool (a1 == 6)) KR KR ?_; clear ha a; intro a ha
      refine endl ?_
      refine thenN (hK1697 _ _ ?_); clear hK1697
      refine wp_ret ?_
      obtain rfl := Option.some.inj h
      exact finv ha _ _ rfl (.tmp (v := .bool (a1 == 6)) KR .nil) (.bool (a1 == 6)) rfl ⟨rfl, HW.pick [] [] (by decide) (by decide) rfl KR⟩
/-! ### headgate/cdb.typed: function 36 -/
def cdb_typed.f (a0 : Int) : Option Bool :=
  if a0 = 1 then (some true) else (if a0 = 2 then (some true) else (some (a0 == 4)))
set_option maxRecDepth 100000 in
set_option maxHeartbeats 4000000 in
theorem cdb_typed.calls (a0 : Int)  (r : Bool) (w : World)  (h : cdb_typed.f a0 = some r) :
    Calls Tryd.prog 36 #[.int .i64 a0] w (fun e W' => e = .returned (.bool r) ∧ Wd w W' [] [] ) := by
  refine sxstart (n := 13) (l := [(0, .int .i64 a0)]) Tryd.func36 rfl rfl (Nat.le_of_ble_eq_true KR) (subsA_cons rfl (subsA_nil _)) ?_
  intro a ha
  have HW := Wd.refl w
  unfold cdb_typed.f at h
  refine wp_seq_k (fun K1699 hK1700 => ?_)
  refine wp_region_lit ?_
  refine stepp ha 2 (.bool false) KR KR ?_; clear ha a; intro a ha
  refine endl ?_
  refine thenN (hK1700 _ _ ?_); clear hK1700
  refine wp_seq_k (fun K1701 hK1702 => ?_)
  refine wp_region_lit ?_
  refine stepp ha 3 (.int .i64 a0) KR KR ?_; clear ha a; intro a ha
  refine stepp ha 4 (.bool (a0 == 1)) KR KR ?_; clear ha a; intro a ha
  refine stepp ha 5 (.bool (a0 == 1)) KR KR ?_; clear ha a; intro a ha
  by_cases hp1703 : a0 = 1
  · skip
    replace h := ite_pos' h hp1703
    replace ha := ha.bool 5 KR (ieq_t hp1703)
    refine stepo ha 6 KR ?_; clear ha a; intro a ha
    refine stepo ha 7 KR ?_; clear ha a; intro a ha
    refine stepp ha 8 (.bool true) KR KR ?_; clear ha a; intro a ha
    refine stepp ha 9 (.bool true) KR KR ?_; clear ha a; intro a ha
    refine stepo ha 10 KR ?_; clear ha a; intro a ha
    refine stepo ha 11 KR ?_; clear ha a; intro a ha
    refine stepp ha 12 (.bool true) KR KR ?_; clear ha a; intro a ha
    refine stepp ha 2 (.bool true) KR KR ?_; clear ha a; intro a ha
    refine endl ?_
    refine thenN (hK1702 _ _ ?_); clear hK1702
    refine wp_ret ?_
    obtain rfl := Option.some.inj h
    exact finv ha _ _ rfl (.tmp (v := .bool true) KR .nil) (.bool true) rfl ⟨rfl, HW.pick [] [] (by decide) (by decide) rfl KR⟩
  · skip
    replace h := ite_neg' h hp1703
    replace ha := ha.bool 5 KR (ieq_f hp1703)
    refine stepp ha 6 (.int .i64 a0) KR KR ?_; clear ha a; intro a ha
    refine stepp ha 7 (.bool (a0 == 2)) KR KR ?_; clear ha a; intro a ha
    refine stepp ha 8 (.bool (a0 == 2)) KR KR ?_; clear ha a; intro a ha
    refine stepp ha 9 (.bool (a0 == 2)) KR KR ?_; clear ha a; intro a ha
    by_cases hp1704 : a0 = 2
    · skip
      replace h := ite_pos' h hp1704
      replace ha := ha.bool 9 KR (ieq_t hp1704)
      refine stepo ha 10 KR ?_; clear ha a; intro a ha
      refine stepo ha 11 KR ?_; clear ha a; intro a ha
      refine stepp ha 12 (.bool true) KR KR ?_; clear ha a; intro a ha
      refine stepp ha 2 (.bool true) KR KR ?_; clear ha a; intro a ha
      refine endl ?_
      refine thenN (hK1702 _ _ ?_); clear hK1702
      refine wp_ret ?_
      obtain rfl := Option.some.inj h
      exact finv ha _ _ rfl (.tmp (v := .bool true) KR .nil) (.bool true) rfl ⟨rfl, HW.pick [] [] (by decide) (by decide) rfl KR⟩
    · skip
      replace h := ite_neg' h hp1704
      replace ha := ha.bool 9 KR (ieq_f hp1704)
      refine stepp ha 10 (.int .i64 a0) KR KR ?_; clear ha a; intro a ha
      refine stepp ha 11 (.bool (a0 == 4)) KR KR ?_; clear ha a; intro a ha
      refine stepp ha 12 (.bool (a0 == 4)) KR KR ?_; clear ha a; intro a ha
      refine stepp ha 2 (.bool (a0 == 4)) KR KR ?_; clear ha a; intro a ha
      refine endl ?_
      refine thenN (hK1702 _ _ ?_); clear hK1702
      refine wp_ret ?_
      obtain rfl := Option.some.inj h
      exact finv ha _ _ rfl (.tmp (v := .bool (a0 == 4)) KR .nil) (.bool (a0 == 4)) rfl ⟨rfl, HW.pick [] [] (by decide) (by decide) rfl KR⟩
end Go.Proofs.YtpjcipadjegmlaaDoor.F
