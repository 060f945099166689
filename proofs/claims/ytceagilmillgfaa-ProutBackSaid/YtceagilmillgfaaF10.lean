/- headgate/headgateref18.List: a plain function, and that the call comes to what it says. No condition. -/
import Derived.Test.YtceagilmillgfaaFT
import Derived.Test.YtceagilmillgfaaF8
import Derived.Test.YtceagilmillgfaaF11
import Derived.Test.YtceagilmillgfaaF18
namespace Go.Proofs.Ytceagilmillgfaa.F
open Go Go.RowKit Go.Proofs.Ytceagilmillgfaa.X
set_option linter.unusedVariables false
set_option linter.unusedSimpArgs false
/-! ### headgate/headgateref18.List: function 10 -/
def headgateref18_List.j0 (K : Nat) (a0 : T_api_Cmd) (x1579 : Int) (x1580 : Int) (x1581 : Int) : Option (T_headgateref18_Listed × Int) :=
  (headgateref01_PutBig.f K a0.f8 8).bind fun t1585 => ((headgateref01_PutBig.f K x1579 8).bind fun t1589 => (asrt (t1585.size + t1589.size ≤ 9223372036854775807) (asrt ((t1585 ++ t1589).size + (strOfNums ([0, 0, 0, 0, x1580, 0, 0, 0] : List Int)).size ≤ 9223372036854775807) ((headgateref18_Change.f K x1581 a0.f11 ((t1585 ++ t1589) ++ (strOfNums ([0, 0, 0, 0, x1580, 0, 0, 0] : List Int)))).bind fun t1605 => (if t1605.2 = 0 then ((headgatekeep_Cmds.f K a0 (⟨t1605.1.f0, t1605.1.f1, t1605.1.f2, t1605.1.f3, t1605.1.f4, t1605.1.f5, t1605.1.f6, t1605.1.f7, t1605.1.f8, t1605.1.f9, t1605.1.f10, t1605.1.f11, t1605.1.f12, t1605.1.f13⟩ : T_api_Cmd)).bind fun t1620 => (if t1620 = true then (some ((⟨x1581, (t1585 ++ t1589) ++ (strOfNums ([0, 0, 0, 0, x1580, 0, 0, 0] : List Int))⟩ : T_headgateref18_Listed), 0)) else (some ((⟨0, (⟨#[]⟩ : ByteArray)⟩ : T_headgateref18_Listed), 180)))) else (some ((⟨0, (⟨#[]⟩ : ByteArray)⟩ : T_headgateref18_Listed), 180)))))))
def headgateref18_List.f (K : Nat) (a0 : T_api_Cmd) : Option (T_headgateref18_Listed × Int) :=
  if a0.f0 = 8 then (if a0.f12 = true then (if a0.f13 = 2 then (headgateref18_List.j0 K a0 a0.f9 1 6) else (headgateref18_List.j0 K a0 a0.f9 0 6)) else (if a0.f13 = 2 then (headgateref18_List.j0 K a0 a0.f9 1 0) else (headgateref18_List.j0 K a0 a0.f9 0 0))) else (if a0.f0 = 9 then (headgateref18_List.j0 K a0 a0.f10 0 1) else (if a0.f0 = 10 then (headgateref18_List.j0 K a0 a0.f10 0 2) else (if a0.f0 = 11 then (headgateref18_List.j0 K a0 a0.f10 0 3) else (if a0.f0 = 12 then (headgateref18_List.j0 K a0 a0.f10 0 4) else (some ((⟨0, (⟨#[]⟩ : ByteArray)⟩ : T_headgateref18_Listed), 180))))))
set_option maxRecDepth 100000 in
set_option maxHeartbeats 4000000 in
theorem headgateref18_List.calls (K : Nat) (a0 : T_api_Cmd) (A0_0 : Option Addr) (c0_0 : Nat) (r : T_headgateref18_Listed × Int) (w : World) (hr0_0 : Rd 2 w (.slice A0_0 a0.f7.length c0_0) a0.f7.length (encs T_api_Range.enc a0.f7)) (h : headgateref18_List.f K a0 = some r) :
    Calls Try.prog 10 #[.agg #[.int .i64 a0.f0, .int .i64 a0.f1, .string a0.f2, .int .i64 a0.f3, .int .i64 a0.f4, .string a0.f5, .bool a0.f6, .slice A0_0 a0.f7.length c0_0, .int .u64 a0.f8, .int .u64 a0.f9, .int .u64 a0.f10, .int .i64 a0.f11, .bool a0.f12, .int .i64 a0.f13]] w (fun e W' => e = .returned (.tuple #[.agg #[.int .i64 r.1.f0, .string r.1.f1], .int .i64 r.2]) ∧ Wd w W' [] [] ) := by
  refine sxstart (n := 67) (l := [(0, .agg #[.int .i64 a0.f0, .int .i64 a0.f1, .string a0.f2, .int .i64 a0.f3, .int .i64 a0.f4, .string a0.f5, .bool a0.f6, .slice A0_0 a0.f7.length c0_0, .int .u64 a0.f8, .int .u64 a0.f9, .int .u64 a0.f10, .int .i64 a0.f11, .bool a0.f12, .int .i64 a0.f13])]) Try.func10 rfl rfl (Nat.le_of_ble_eq_true (by kernel_rfl)) (subsA_cons rfl (subsA_nil _)) ?_
  intro a ha
  have HW := Wd.refl w
  unfold headgateref18_List.f at h
  refine wp_seq_k (fun K1527 hK1528 => ?_)
  refine wp_region_lit ?_
  refine stepnew ha HW 1 #[.int .i64 a0.f0, .int .i64 a0.f1, .string a0.f2, .int .i64 a0.f3, .int .i64 a0.f4, .string a0.f5, .bool a0.f6, .slice A0_0 a0.f7.length c0_0, .int .u64 a0.f8, .int .u64 a0.f9, .int .u64 a0.f10, .int .i64 a0.f11, .bool a0.f12, .int .i64 a0.f13] 26 (by kernel_rfl) (by kernel_rfl) ?_; clear ha HW a; intro b1529 a W1530 HW ha
  refine stepnew ha HW 2 #[.int .i64 0, .string (⟨#[]⟩ : ByteArray)] 37 (by kernel_rfl) (by kernel_rfl) ?_; clear ha HW a; intro b1531 a W1532 HW ha
  refine stepp ha 3 (.int .i64 0) (by kernel_rfl) (by kernel_rfl) ?_; clear ha a; intro a ha
  refine endl ?_
  refine thenN (hK1528 _ _ ?_); clear hK1528
  refine wp_seq_k (fun K1533 hK1534 => ?_)
  refine wp_region_lit ?_
  refine stepnew ha HW 4 #[.int .i64 0, .string (⟨#[]⟩ : ByteArray)] 37 (by kernel_rfl) (by kernel_rfl) ?_; clear ha HW a; intro b1535 a W1536 HW ha
  refine endl ?_
  refine thenN (hK1534 _ _ ?_); clear hK1534
  refine wp_seq_k (fun K1537 hK1538 => ?_)
  refine wp_region_lit ?_
  refine stepp ha 9 (.pointer (some ⟨b1529, 10, none⟩)) (by kernel_rfl) (by kernel_rfl) ?_; clear ha a; intro a ha
  refine stepl ha 10 (HW.ca (i := 2) (b := b1529) (C := #[.int .i64 a0.f0, .int .i64 a0.f1, .string a0.f2, .int .i64 a0.f3, .int .i64 a0.f4, .string a0.f5, .bool a0.f6, .slice A0_0 a0.f7.length c0_0, .int .u64 a0.f8, .int .u64 a0.f9, .int .u64 a0.f10, .int .i64 a0.f11, .bool a0.f12, .int .i64 a0.f13]) (T := 26) (fr := (0, 0)) (by kernel_rfl)) 24 10 (.tmp 9) (.int .u64 a0.f10) rfl (by kernel_rfl) (by kernel_rfl) (by kernel_rfl) ?_; clear ha a; intro a ha
  refine stepp ha 5 (.int .u64 a0.f10) (by kernel_rfl) (by kernel_rfl) ?_; clear ha a; intro a ha
  refine stepp ha 6 (.int .u8 0) (by kernel_rfl) (by kernel_rfl) ?_; clear ha a; intro a ha
  refine endl ?_
  refine thenN (hK1538 _ _ ?_); clear hK1538
  refine wp_seq_k (fun K1539 hK1540 => ?_)
  refine cutn (fun a W1582 => ∃ (x1579 : Int), ∃ (x1580 : Int), ∃ (x1581 : Int), headgateref18_List.j0 K a0 x1579 x1580 x1581 = some r ∧ Has 67 [(1, .pointer (some ⟨b1529, 0, none⟩)), (2, .pointer (some ⟨b1531, 0, none⟩)), (4, .pointer (some ⟨b1535, 0, none⟩)), (5, .int .u64 x1579), (6, .int .u8 x1580)] a ∧ Wd w W1582 [(b1529, .cells #[.int .i64 a0.f0, .int .i64 a0.f1, .string a0.f2, .int .i64 a0.f3, .int .i64 a0.f4, .string a0.f5, .bool a0.f6, .slice A0_0 a0.f7.length c0_0, .int .u64 a0.f8, .int .u64 a0.f9, .int .u64 a0.f10, .int .i64 a0.f11, .bool a0.f12, .int .i64 a0.f13] 26 (0, 0)), (b1531, .cells #[.int .i64 0, .string (⟨#[]⟩ : ByteArray)] 37 (0, 0)), (b1535, .cells #[.int .i64 x1581, .string (⟨#[]⟩ : ByteArray)] 37 (0, 0))] []) ?_ ?_
  · skip
    refine wp_seq_k (fun K1541 hK1542 => ?_)
    refine wp_region_lit ?_
    refine stepp ha 11 (.pointer (some ⟨b1529, 0, none⟩)) (by kernel_rfl) (by kernel_rfl) ?_; clear ha a; intro a ha
    refine stepl ha 12 (HW.ca (i := 2) (b := b1529) (C := #[.int .i64 a0.f0, .int .i64 a0.f1, .string a0.f2, .int .i64 a0.f3, .int .i64 a0.f4, .string a0.f5, .bool a0.f6, .slice A0_0 a0.f7.length c0_0, .int .u64 a0.f8, .int .u64 a0.f9, .int .u64 a0.f10, .int .i64 a0.f11, .bool a0.f12, .int .i64 a0.f13]) (T := 26) (fr := (0, 0)) (by kernel_rfl)) 3 0 (.tmp 11) (.int .i64 a0.f0) rfl (by kernel_rfl) (by kernel_rfl) (by kernel_rfl) ?_; clear ha a; intro a ha
    refine endl ?_
    refine thenN (hK1542 _ _ ?_); clear hK1542
    refine wp_block ?_
    refine wp_seq_k (fun K1543 hK1544 => ?_)
    refine wp_region_lit ?_
    refine stepp ha 15 (.bool (a0.f0 == 8)) (by kernel_rfl) (by kernel_rfl) ?_; clear ha a; intro a ha
    refine stepp ha 14 (.bool (a0.f0 == 8)) (by kernel_rfl) (by kernel_rfl) ?_; clear ha a; intro a ha
    refine endl ?_
    refine thenN (hK1544 _ _ ?_); clear hK1544
    by_cases hp1545 : a0.f0 = 8
    · skip
      replace h := ite_pos' h hp1545
      refine condT ha (by kernel_rfl) (by kernel_rfl) (t := (a0.f0 == 8)) (ieq_t hp1545) ?_
      refine wp_seq_k (fun K1546 hK1547 => ?_)
      refine wp_region_lit ?_
      refine stepp ha 16 (.pointer (some ⟨b1529, 9, none⟩)) (by kernel_rfl) (by kernel_rfl) ?_; clear ha a; intro a ha
      refine stepl ha 17 (HW.ca (i := 2) (b := b1529) (C := #[.int .i64 a0.f0, .int .i64 a0.f1, .string a0.f2, .int .i64 a0.f3, .int .i64 a0.f4, .string a0.f5, .bool a0.f6, .slice A0_0 a0.f7.length c0_0, .int .u64 a0.f8, .int .u64 a0.f9, .int .u64 a0.f10, .int .i64 a0.f11, .bool a0.f12, .int .i64 a0.f13]) (T := 26) (fr := (0, 0)) (by kernel_rfl)) 24 9 (.tmp 16) (.int .u64 a0.f9) rfl (by kernel_rfl) (by kernel_rfl) (by kernel_rfl) ?_; clear ha a; intro a ha
      refine stepp ha 5 (.int .u64 a0.f9) (by kernel_rfl) (by kernel_rfl) ?_; clear ha a; intro a ha
      refine endl ?_
      refine thenN (hK1547 _ _ ?_); clear hK1547
      refine wp_seq_k (fun K1548 hK1549 => ?_)
      refine wp_seq_k (fun K1550 hK1551 => ?_)
      refine wp_region_lit ?_
      refine stepp ha 18 (.pointer (some ⟨b1529, 12, none⟩)) (by kernel_rfl) (by kernel_rfl) ?_; clear ha a; intro a ha
      refine stepl ha 19 (HW.ca (i := 2) (b := b1529) (C := #[.int .i64 a0.f0, .int .i64 a0.f1, .string a0.f2, .int .i64 a0.f3, .int .i64 a0.f4, .string a0.f5, .bool a0.f6, .slice A0_0 a0.f7.length c0_0, .int .u64 a0.f8, .int .u64 a0.f9, .int .u64 a0.f10, .int .i64 a0.f11, .bool a0.f12, .int .i64 a0.f13]) (T := 26) (fr := (0, 0)) (by kernel_rfl)) 4 12 (.tmp 18) (.bool a0.f12) rfl (by kernel_rfl) (by kernel_rfl) (by kernel_rfl) ?_; clear ha a; intro a ha
      refine endl ?_
      refine thenN (hK1551 _ _ ?_); clear hK1551
      by_cases hp1552 : a0.f12 = true
      · skip
        replace h := ite_pos' h hp1552
        refine condT ha (by kernel_rfl) (by kernel_rfl) (t := a0.f12) (hp1552) ?_
        refine wp_region_lit ?_
        refine stepp ha 20 (.pointer (some ⟨b1535, 0, none⟩)) (by kernel_rfl) (by kernel_rfl) ?_; clear ha a; intro a ha
        refine stepst ha HW 0 (b := b1535) (C := #[.int .i64 0, .string (⟨#[]⟩ : ByteArray)]) (T := 37) (by kernel_rfl) 3 0 (.tmp 20) (.const (.int .i64 6)) (.int .i64 6) #[.int .i64 6, .string (⟨#[]⟩ : ByteArray)] rfl (by kernel_rfl) (by kernel_rfl) (by kernel_rfl) (by kernel_rfl) (by kernel_rfl) (by kernel_rfl) (by kernel_rfl) ?_; clear ha HW a; intro a W1553 HW ha
        refine endl ?_
        refine thenN (hK1549 _ _ ?_); clear hK1549
        refine wp_seq_k (fun K1554 hK1555 => ?_)
        refine wp_region_lit ?_
        refine stepp ha 21 (.pointer (some ⟨b1529, 13, none⟩)) (by kernel_rfl) (by kernel_rfl) ?_; clear ha a; intro a ha
        refine stepl ha 22 (HW.ca (i := 2) (b := b1529) (C := #[.int .i64 a0.f0, .int .i64 a0.f1, .string a0.f2, .int .i64 a0.f3, .int .i64 a0.f4, .string a0.f5, .bool a0.f6, .slice A0_0 a0.f7.length c0_0, .int .u64 a0.f8, .int .u64 a0.f9, .int .u64 a0.f10, .int .i64 a0.f11, .bool a0.f12, .int .i64 a0.f13]) (T := 26) (fr := (0, 0)) (by kernel_rfl)) 3 13 (.tmp 21) (.int .i64 a0.f13) rfl (by kernel_rfl) (by kernel_rfl) (by kernel_rfl) ?_; clear ha a; intro a ha
        refine stepp ha 23 (.bool (a0.f13 == 2)) (by kernel_rfl) (by kernel_rfl) ?_; clear ha a; intro a ha
        refine endl ?_
        refine thenN (hK1555 _ _ ?_); clear hK1555
        by_cases hp1556 : a0.f13 = 2
        · skip
          replace h := ite_pos' h hp1556
          refine condT ha (by kernel_rfl) (by kernel_rfl) (t := (a0.f13 == 2)) (ieq_t hp1556) ?_
          refine wp_region_lit ?_
          refine stepp ha 6 (.int .u8 1) (by kernel_rfl) (by kernel_rfl) ?_; clear ha a; intro a ha
          refine endl ?_
          refine blkN ?_
          exact thenN ⟨a0.f9, 1, 6, h, ha.sub (subs_cons (by kernel_rfl) (subs_cons (by kernel_rfl) (subs_cons (by kernel_rfl) (subs_cons (by kernel_rfl) (subs_cons (by kernel_rfl) (subs_nil _)))))), HW.pick [2, 1, 0] [] (by decide) (by decide) (by kernel_rfl) (by kernel_rfl)⟩
        · skip
          replace h := ite_neg' h hp1556
          refine condF ha (by kernel_rfl) (by kernel_rfl) (t := (a0.f13 == 2)) (ieq_f hp1556) ?_
          refine wp_skip ?_
          refine blkN ?_
          exact thenN ⟨a0.f9, 0, 6, h, ha.sub (subs_cons (by kernel_rfl) (subs_cons (by kernel_rfl) (subs_cons (by kernel_rfl) (subs_cons (by kernel_rfl) (subs_cons (by kernel_rfl) (subs_nil _)))))), HW.pick [2, 1, 0] [] (by decide) (by decide) (by kernel_rfl) (by kernel_rfl)⟩
      · skip
        replace h := ite_neg' h hp1552
        refine condF ha (by kernel_rfl) (by kernel_rfl) (t := a0.f12) (bool_f hp1552) ?_
        refine wp_skip ?_
        refine thenN (hK1549 _ _ ?_); clear hK1549
        refine wp_seq_k (fun K1557 hK1558 => ?_)
        refine wp_region_lit ?_
        refine stepp ha 21 (.pointer (some ⟨b1529, 13, none⟩)) (by kernel_rfl) (by kernel_rfl) ?_; clear ha a; intro a ha
        refine stepl ha 22 (HW.ca (i := 2) (b := b1529) (C := #[.int .i64 a0.f0, .int .i64 a0.f1, .string a0.f2, .int .i64 a0.f3, .int .i64 a0.f4, .string a0.f5, .bool a0.f6, .slice A0_0 a0.f7.length c0_0, .int .u64 a0.f8, .int .u64 a0.f9, .int .u64 a0.f10, .int .i64 a0.f11, .bool a0.f12, .int .i64 a0.f13]) (T := 26) (fr := (0, 0)) (by kernel_rfl)) 3 13 (.tmp 21) (.int .i64 a0.f13) rfl (by kernel_rfl) (by kernel_rfl) (by kernel_rfl) ?_; clear ha a; intro a ha
        refine stepp ha 23 (.bool (a0.f13 == 2)) (by kernel_rfl) (by kernel_rfl) ?_; clear ha a; intro a ha
        refine endl ?_
        refine thenN (hK1558 _ _ ?_); clear hK1558
        by_cases hp1559 : a0.f13 = 2
        · skip
          replace h := ite_pos' h hp1559
          refine condT ha (by kernel_rfl) (by kernel_rfl) (t := (a0.f13 == 2)) (ieq_t hp1559) ?_
          refine wp_region_lit ?_
          refine stepp ha 6 (.int .u8 1) (by kernel_rfl) (by kernel_rfl) ?_; clear ha a; intro a ha
          refine endl ?_
          refine blkN ?_
          exact thenN ⟨a0.f9, 1, 0, h, ha.sub (subs_cons (by kernel_rfl) (subs_cons (by kernel_rfl) (subs_cons (by kernel_rfl) (subs_cons (by kernel_rfl) (subs_cons (by kernel_rfl) (subs_nil _)))))), HW.pick [2, 1, 0] [] (by decide) (by decide) (by kernel_rfl) (by kernel_rfl)⟩
        · skip
          replace h := ite_neg' h hp1559
          refine condF ha (by kernel_rfl) (by kernel_rfl) (t := (a0.f13 == 2)) (ieq_f hp1559) ?_
          refine wp_skip ?_
          refine blkN ?_
          exact thenN ⟨a0.f9, 0, 0, h, ha.sub (subs_cons (by kernel_rfl) (subs_cons (by kernel_rfl) (subs_cons (by kernel_rfl) (subs_cons (by kernel_rfl) (subs_cons (by kernel_rfl) (subs_nil _)))))), HW.pick [2, 1, 0] [] (by decide) (by decide) (by kernel_rfl) (by kernel_rfl)⟩
    · skip
      replace h := ite_neg' h hp1545
      refine condF ha (by kernel_rfl) (by kernel_rfl) (t := (a0.f0 == 8)) (ieq_f hp1545) ?_
      refine wp_seq_k (fun K1560 hK1561 => ?_)
      refine wp_region_lit ?_
      refine stepp ha 25 (.bool (a0.f0 == 9)) (by kernel_rfl) (by kernel_rfl) ?_; clear ha a; intro a ha
      refine stepp ha 24 (.bool (a0.f0 == 9)) (by kernel_rfl) (by kernel_rfl) ?_; clear ha a; intro a ha
      refine endl ?_
      refine thenN (hK1561 _ _ ?_); clear hK1561
      by_cases hp1562 : a0.f0 = 9
      · skip
        replace h := ite_pos' h hp1562
        refine condT ha (by kernel_rfl) (by kernel_rfl) (t := (a0.f0 == 9)) (ieq_t hp1562) ?_
        refine wp_region_lit ?_
        refine stepp ha 26 (.pointer (some ⟨b1535, 0, none⟩)) (by kernel_rfl) (by kernel_rfl) ?_; clear ha a; intro a ha
        refine stepst ha HW 0 (b := b1535) (C := #[.int .i64 0, .string (⟨#[]⟩ : ByteArray)]) (T := 37) (by kernel_rfl) 3 0 (.tmp 26) (.const (.int .i64 1)) (.int .i64 1) #[.int .i64 1, .string (⟨#[]⟩ : ByteArray)] rfl (by kernel_rfl) (by kernel_rfl) (by kernel_rfl) (by kernel_rfl) (by kernel_rfl) (by kernel_rfl) (by kernel_rfl) ?_; clear ha HW a; intro a W1563 HW ha
        refine endl ?_
        refine blkN ?_
        exact thenN ⟨a0.f10, 0, 1, h, ha.sub (subs_cons (by kernel_rfl) (subs_cons (by kernel_rfl) (subs_cons (by kernel_rfl) (subs_cons (by kernel_rfl) (subs_cons (by kernel_rfl) (subs_nil _)))))), HW.pick [2, 1, 0] [] (by decide) (by decide) (by kernel_rfl) (by kernel_rfl)⟩
      · skip
        replace h := ite_neg' h hp1562
        refine condF ha (by kernel_rfl) (by kernel_rfl) (t := (a0.f0 == 9)) (ieq_f hp1562) ?_
        refine wp_seq_k (fun K1564 hK1565 => ?_)
        refine wp_region_lit ?_
        refine stepp ha 28 (.bool (a0.f0 == 10)) (by kernel_rfl) (by kernel_rfl) ?_; clear ha a; intro a ha
        refine stepp ha 27 (.bool (a0.f0 == 10)) (by kernel_rfl) (by kernel_rfl) ?_; clear ha a; intro a ha
        refine endl ?_
        refine thenN (hK1565 _ _ ?_); clear hK1565
        by_cases hp1566 : a0.f0 = 10
        · skip
          replace h := ite_pos' h hp1566
          refine condT ha (by kernel_rfl) (by kernel_rfl) (t := (a0.f0 == 10)) (ieq_t hp1566) ?_
          refine wp_region_lit ?_
          refine stepp ha 29 (.pointer (some ⟨b1535, 0, none⟩)) (by kernel_rfl) (by kernel_rfl) ?_; clear ha a; intro a ha
          refine stepst ha HW 0 (b := b1535) (C := #[.int .i64 0, .string (⟨#[]⟩ : ByteArray)]) (T := 37) (by kernel_rfl) 3 0 (.tmp 29) (.const (.int .i64 2)) (.int .i64 2) #[.int .i64 2, .string (⟨#[]⟩ : ByteArray)] rfl (by kernel_rfl) (by kernel_rfl) (by kernel_rfl) (by kernel_rfl) (by kernel_rfl) (by kernel_rfl) (by kernel_rfl) ?_; clear ha HW a; intro a W1567 HW ha
          refine endl ?_
          refine blkN ?_
          exact thenN ⟨a0.f10, 0, 2, h, ha.sub (subs_cons (by kernel_rfl) (subs_cons (by kernel_rfl) (subs_cons (by kernel_rfl) (subs_cons (by kernel_rfl) (subs_cons (by kernel_rfl) (subs_nil _)))))), HW.pick [2, 1, 0] [] (by decide) (by decide) (by kernel_rfl) (by kernel_rfl)⟩
        · skip
          replace h := ite_neg' h hp1566
          refine condF ha (by kernel_rfl) (by kernel_rfl) (t := (a0.f0 == 10)) (ieq_f hp1566) ?_
          refine wp_seq_k (fun K1568 hK1569 => ?_)
          refine wp_region_lit ?_
          refine stepp ha 31 (.bool (a0.f0 == 11)) (by kernel_rfl) (by kernel_rfl) ?_; clear ha a; intro a ha
          refine stepp ha 30 (.bool (a0.f0 == 11)) (by kernel_rfl) (by kernel_rfl) ?_; clear ha a; intro a ha
          refine endl ?_
          refine thenN (hK1569 _ _ ?_); clear hK1569
          by_cases hp1570 : a0.f0 = 11
          · skip
            replace h := ite_pos' h hp1570
            refine condT ha (by kernel_rfl) (by kernel_rfl) (t := (a0.f0 == 11)) (ieq_t hp1570) ?_
            refine wp_region_lit ?_
            refine stepp ha 32 (.pointer (some ⟨b1535, 0, none⟩)) (by kernel_rfl) (by kernel_rfl) ?_; clear ha a; intro a ha
            refine stepst ha HW 0 (b := b1535) (C := #[.int .i64 0, .string (⟨#[]⟩ : ByteArray)]) (T := 37) (by kernel_rfl) 3 0 (.tmp 32) (.const (.int .i64 3)) (.int .i64 3) #[.int .i64 3, .string (⟨#[]⟩ : ByteArray)] rfl (by kernel_rfl) (by kernel_rfl) (by kernel_rfl) (by kernel_rfl) (by kernel_rfl) (by kernel_rfl) (by kernel_rfl) ?_; clear ha HW a; intro a W1571 HW ha
            refine endl ?_
            refine blkN ?_
            exact thenN ⟨a0.f10, 0, 3, h, ha.sub (subs_cons (by kernel_rfl) (subs_cons (by kernel_rfl) (subs_cons (by kernel_rfl) (subs_cons (by kernel_rfl) (subs_cons (by kernel_rfl) (subs_nil _)))))), HW.pick [2, 1, 0] [] (by decide) (by decide) (by kernel_rfl) (by kernel_rfl)⟩
          · skip
            replace h := ite_neg' h hp1570
            refine condF ha (by kernel_rfl) (by kernel_rfl) (t := (a0.f0 == 11)) (ieq_f hp1570) ?_
            refine wp_seq_k (fun K1572 hK1573 => ?_)
            refine wp_region_lit ?_
            refine stepp ha 34 (.bool (a0.f0 == 12)) (by kernel_rfl) (by kernel_rfl) ?_; clear ha a; intro a ha
            refine stepp ha 33 (.bool (a0.f0 == 12)) (by kernel_rfl) (by kernel_rfl) ?_; clear ha a; intro a ha
            refine endl ?_
            refine thenN (hK1573 _ _ ?_); clear hK1573
            by_cases hp1574 : a0.f0 = 12
            · skip
              replace h := ite_pos' h hp1574
              refine condT ha (by kernel_rfl) (by kernel_rfl) (t := (a0.f0 == 12)) (ieq_t hp1574) ?_
              refine wp_region_lit ?_
              refine stepp ha 35 (.pointer (some ⟨b1535, 0, none⟩)) (by kernel_rfl) (by kernel_rfl) ?_; clear ha a; intro a ha
              refine stepst ha HW 0 (b := b1535) (C := #[.int .i64 0, .string (⟨#[]⟩ : ByteArray)]) (T := 37) (by kernel_rfl) 3 0 (.tmp 35) (.const (.int .i64 4)) (.int .i64 4) #[.int .i64 4, .string (⟨#[]⟩ : ByteArray)] rfl (by kernel_rfl) (by kernel_rfl) (by kernel_rfl) (by kernel_rfl) (by kernel_rfl) (by kernel_rfl) (by kernel_rfl) ?_; clear ha HW a; intro a W1575 HW ha
              refine endl ?_
              refine blkN ?_
              exact thenN ⟨a0.f10, 0, 4, h, ha.sub (subs_cons (by kernel_rfl) (subs_cons (by kernel_rfl) (subs_cons (by kernel_rfl) (subs_cons (by kernel_rfl) (subs_cons (by kernel_rfl) (subs_nil _)))))), HW.pick [2, 1, 0] [] (by decide) (by decide) (by kernel_rfl) (by kernel_rfl)⟩
            · skip
              replace h := ite_neg' h hp1574
              refine condF ha (by kernel_rfl) (by kernel_rfl) (t := (a0.f0 == 12)) (ieq_f hp1574) ?_
              refine wp_seq_k (fun K1576 hK1577 => ?_)
              refine wp_region_lit ?_
              refine stepp ha 13 (.agg #[.int .i64 0, .string (⟨#[]⟩ : ByteArray)]) (by kernel_rfl) (by kernel_rfl) ?_; clear ha a; intro a ha
              refine stepst ha HW 1 (b := b1531) (C := #[.int .i64 0, .string (⟨#[]⟩ : ByteArray)]) (T := 37) (by kernel_rfl) 37 0 (.tmp 2) (.tmp 13) (.agg #[.int .i64 0, .string (⟨#[]⟩ : ByteArray)]) #[.int .i64 0, .string (⟨#[]⟩ : ByteArray)] rfl (by kernel_rfl) (by kernel_rfl) (by kernel_rfl) (by kernel_rfl) (by kernel_rfl) (by kernel_rfl) (by kernel_rfl) ?_; clear ha HW a; intro a W1578 HW ha
              refine stepp ha 3 (.int .i64 180) (by kernel_rfl) (by kernel_rfl) ?_; clear ha a; intro a ha
              refine endl ?_
              refine thenN (hK1577 _ _ ?_); clear hK1577
              refine wp_ret ?_
              refine blkR ?_
              refine thenR ?_
              obtain rfl := Option.some.inj h
              exact finv ha _ _ rfl (.cell (ad := ⟨b1531, 0, none⟩) (v := .agg #[.int .i64 0, .string (⟨#[]⟩ : ByteArray)]) (by kernel_rfl) (run_loadVar_ca0 (HW.ca (i := 1) (b := b1531) (C := #[.int .i64 0, .string (⟨#[]⟩ : ByteArray)]) (T := 37) (fr := (0, 0)) (by kernel_rfl)) 37 0 (.agg #[.int .i64 0, .string (⟨#[]⟩ : ByteArray)]) (by kernel_rfl)) (.tmp (v := .int .i64 180) (by kernel_rfl) .nil)) (.tuple #[.agg #[.int .i64 0, .string (⟨#[]⟩ : ByteArray)], .int .i64 180]) rfl ⟨rfl, HW.pick [] [] (by decide) (by decide) rfl (by kernel_rfl)⟩
  · skip
    intro a W1582 hJ
    obtain ⟨x1579, x1580, x1581, h, ha, HW⟩ := hJ
    replace h : headgateref18_List.j0 K a0 x1579 x1580 x1581 = some r := h
    unfold headgateref18_List.j0 at h
    refine hK1540 _ _ ?_; clear hK1540
    refine wp_seq_k (fun K1583 hK1584 => ?_)
    obtain ⟨t1585, ht1586, h_⟩ := bind_some' h; clear h; have h := h_; clear h_
    obtain ⟨t1589, ht1590, h_⟩ := bind_some' h; clear h; have h := h_; clear h_
    obtain ⟨hA1593, h_⟩ := asrt_some h; clear h; have h := h_; clear h_
    obtain ⟨hA1600, h_⟩ := asrt_some h; clear h; have h := h_; clear h_
    refine regionG 10 (by kernel_rfl) (by kernel_rfl) ha HW [.fix (.pointer (some ⟨b1529, 8, none⟩)), .fix (.int .u64 a0.f8), .fix (.string t1585), .fix (.int .u64 x1579), .fix (.string t1589), .fix (.string (t1585 ++ t1589)), .fix (.int .u8 x1580), .rd 1 ([0, 0, 0, 0, x1580, 0, 0, 0] : List Int).length (encs (encI .u8) ([0, 0, 0, 0, x1580, 0, 0, 0] : List Int)), .fix (.string (strOfNums ([0, 0, 0, 0, x1580, 0, 0, 0] : List Int))), .fix (.string ((t1585 ++ t1589) ++ (strOfNums ([0, 0, 0, 0, x1580, 0, 0, 0] : List Int))))] ?_ ?_
    · skip
      refine ⟨?_, ?_, ?_, ?_, ?_, ?_, ?_, ?_, ?_, ?_, trivial⟩
      · skip
        intro a wr hn hd HW hs; have ha := hasNil hn hd
        have ha := ha.add (seeE hs 1 (.pointer (some ⟨b1529, 0, none⟩)) (by kernel_rfl) (by kernel_rfl))
        refine yStep ha 36 (by kernel_rfl) ?_; intro l_ ha HK
        refine stepp ha 36 (.pointer (some ⟨b1529, 8, none⟩)) (by kernel_rfl) (by kernel_rfl) ?_; intro ax hax; exact HK _ _ _ hax rfl (Below.refl _ _)
      · skip
        intro a wr hn hd HW hs; have ha := hasNil hn hd
        have ha := ha.add (seeF hs 36 0 (.pointer (some ⟨b1529, 8, none⟩)) (by kernel_rfl) (by kernel_rfl))
        refine yStep ha 37 (by kernel_rfl) ?_; intro l_ ha HK
        refine stepl ha 37 (HW.ca (i := 0) (b := b1529) (C := #[.int .i64 a0.f0, .int .i64 a0.f1, .string a0.f2, .int .i64 a0.f3, .int .i64 a0.f4, .string a0.f5, .bool a0.f6, .slice A0_0 a0.f7.length c0_0, .int .u64 a0.f8, .int .u64 a0.f9, .int .u64 a0.f10, .int .i64 a0.f11, .bool a0.f12, .int .i64 a0.f13]) (T := 26) (fr := (0, 0)) (by kernel_rfl)) 24 8 (.tmp 36) (.int .u64 a0.f8) rfl (by kernel_rfl) (by kernel_rfl) (by kernel_rfl) ?_; intro ax hax; exact HK _ _ _ hax rfl (Below.refl _ _)
      · skip
        intro a wr hn hd HW hs; have ha := hasNil hn hd
        have ha := ha.add (seeF hs 37 1 (.int .u64 a0.f8) (by kernel_rfl) (by kernel_rfl))
        refine yStep ha 38 (by kernel_rfl) ?_; intro l_ ha HK
        refine stepc ha 38 (by kernel_rfl) (by kernel_rfl) (headgateref01_PutBig.calls K a0.f8 8 t1585 _ ht1586) ?_; rintro e W1587 ⟨rfl, HX1588⟩
        refine ⟨_, rfl, ?_⟩; intro ax hax; exact HK _ _ _ hax rfl HX1588.below
      · skip
        intro a wr hn hd HW hs; have ha := hasNil hn hd
        have ha := ha.add (seeE hs 5 (.int .u64 x1579) (by kernel_rfl) (by kernel_rfl))
        refine yStep ha 39 (by kernel_rfl) ?_; intro l_ ha HK
        refine stepp ha 39 (.int .u64 x1579) (by kernel_rfl) (by kernel_rfl) ?_; intro ax hax; exact HK _ _ _ hax rfl (Below.refl _ _)
      · skip
        intro a wr hn hd HW hs; have ha := hasNil hn hd
        have ha := ha.add (seeF hs 39 3 (.int .u64 x1579) (by kernel_rfl) (by kernel_rfl))
        refine yStep ha 40 (by kernel_rfl) ?_; intro l_ ha HK
        refine stepc ha 40 (by kernel_rfl) (by kernel_rfl) (headgateref01_PutBig.calls K x1579 8 t1589 _ ht1590) ?_; rintro e W1591 ⟨rfl, HX1592⟩
        refine ⟨_, rfl, ?_⟩; intro ax hax; exact HK _ _ _ hax rfl HX1592.below
      · skip
        intro a wr hn hd HW hs; have ha := hasNil hn hd
        have ha := ha.add (seeF hs 38 2 (.string t1585) (by kernel_rfl) (by kernel_rfl))
        have ha := ha.add (seeF hs 40 4 (.string t1589) (by kernel_rfl) (by kernel_rfl))
        refine yStep ha 41 (by kernel_rfl) ?_; intro l_ ha HK
        refine stepsa ha 41 9 9 (.tmp 38) (.tmp 40) t1585 t1589 rfl (by kernel_rfl) (by kernel_rfl) (show (t1585).size + (t1589).size ≤ 9223372036854775807 from hA1593) (by kernel_rfl) ?_; intro ax hax; exact HK _ _ _ hax rfl (Below.refl _ _)
      · skip
        intro a wr hn hd HW hs; have ha := hasNil hn hd
        have ha := ha.add (seeE hs 6 (.int .u8 x1580) (by kernel_rfl) (by kernel_rfl))
        refine yStep ha 42 (by kernel_rfl) ?_; intro l_ ha HK
        refine stepp ha 42 (.int .u8 x1580) (by kernel_rfl) (by kernel_rfl) ?_; intro ax hax; exact HK _ _ _ hax rfl (Below.refl _ _)
      · skip
        intro a wr hn hd HW hs; have ha := hasNil hn hd
        have ha := ha.add (seeF hs 42 6 (.int .u8 x1580) (by kernel_rfl) (by kernel_rfl))
        refine yStep ha 43 (by kernel_rfl) ?_; intro l_ ha HK
        refine stepbs ha (Wd.refl wr) 43 5 1 8 #[.int .u8 0, .int .u8 0, .int .u8 0, .int .u8 0, .int .u8 x1580, .int .u8 0, .int .u8 0, .int .u8 0] [.int .u8 0, .int .u8 0, .int .u8 0, .int .u8 0, .int .u8 x1580, .int .u8 0, .int .u8 0, .int .u8 0] (by decide) (by kernel_rfl) (by kernel_rfl) (by kernel_rfl) (by kernel_rfl) ?_; intro b1594 ax W1595 HV hax
        exact HK _ _ _ hax (show Rd 1 _ _ ([0, 0, 0, 0, x1580, 0, 0, 0] : List Int).length (encs (encI .u8) ([0, 0, 0, 0, x1580, 0, 0, 0] : List Int)) from HV.rdo (i := 0) (q := ⟨5, 1, .slice (some ⟨b1594, 0, none⟩) 8 8, 8, [.int .u8 0, .int .u8 0, .int .u8 0, .int .u8 0, .int .u8 x1580, .int .u8 0, .int .u8 0, .int .u8 0]⟩) (by kernel_rfl)) HV.below
      · skip
        intro a wr hn hd HW hs; have ha := hasNil hn hd
        obtain ⟨A1597, c1598, he_, hR1599⟩ := seeR hs 43 7 1 ([0, 0, 0, 0, x1580, 0, 0, 0] : List Int).length (encs (encI .u8) ([0, 0, 0, 0, x1580, 0, 0, 0] : List Int)) (by kernel_rfl) (by kernel_rfl); have ha := ha.add he_
        refine yStep ha 44 (by kernel_rfl) ?_; intro l_ ha HK
        refine stepbt ha 44 55 9 5 (.tmp 43) (v := .slice A1597 ([0, 0, 0, 0, x1580, 0, 0, 0] : List Int).length c1598) (xs := ([0, 0, 0, 0, x1580, 0, 0, 0] : List Int)) hR1599 rfl (by kernel_rfl) (by kernel_rfl) (by kernel_rfl) (by kernel_rfl) (by kernel_rfl) ?_; intro ax hax; exact HK _ _ _ hax rfl (Below.refl _ _)
      · skip
        intro a wr hn hd HW hs; have ha := hasNil hn hd
        have ha := ha.add (seeF hs 41 5 (.string (t1585 ++ t1589)) (by kernel_rfl) (by kernel_rfl))
        have ha := ha.add (seeF hs 44 8 (.string (strOfNums ([0, 0, 0, 0, x1580, 0, 0, 0] : List Int))) (by kernel_rfl) (by kernel_rfl))
        refine yStep ha 45 (by kernel_rfl) ?_; intro l_ ha HK
        refine stepsa ha 45 9 9 (.tmp 41) (.tmp 44) (t1585 ++ t1589) (strOfNums ([0, 0, 0, 0, x1580, 0, 0, 0] : List Int)) rfl (by kernel_rfl) (by kernel_rfl) (show (t1585 ++ t1589).size + (strOfNums ([0, 0, 0, 0, x1580, 0, 0, 0] : List Int)).size ≤ 9223372036854775807 from hA1600) (by kernel_rfl) ?_; intro ax hax; exact HK _ _ _ hax rfl (Below.refl _ _)
    · skip
      intro a W1601 ha HW he hf
      replace ha := ha.add (he 1 (.pointer (some ⟨b1529, 0, none⟩)) (by kernel_rfl) (by kernel_rfl))
      replace ha := ha.add (he 2 (.pointer (some ⟨b1531, 0, none⟩)) (by kernel_rfl) (by kernel_rfl))
      replace ha := ha.add (he 4 (.pointer (some ⟨b1535, 0, none⟩)) (by kernel_rfl) (by kernel_rfl))
      replace ha := ha.add (gotF (m := 10) (j := 9) (d := 45) (v := .string ((t1585 ++ t1589) ++ (strOfNums ([0, 0, 0, 0, x1580, 0, 0, 0] : List Int)))) hf (by kernel_rfl) (by kernel_rfl) (by kernel_rfl))
      clear he hf
      refine stepp ha 46 (.pointer (some ⟨b1535, 1, none⟩)) (by kernel_rfl) (by kernel_rfl) ?_; clear ha a; intro a ha
      refine stepst ha HW 2 (b := b1535) (C := #[.int .i64 x1581, .string (⟨#[]⟩ : ByteArray)]) (T := 37) (by kernel_rfl) 9 1 (.tmp 46) (.tmp 45) (.string ((t1585 ++ t1589) ++ (strOfNums ([0, 0, 0, 0, x1580, 0, 0, 0] : List Int)))) #[.int .i64 x1581, .string ((t1585 ++ t1589) ++ (strOfNums ([0, 0, 0, 0, x1580, 0, 0, 0] : List Int)))] rfl (by kernel_rfl) (by kernel_rfl) (by kernel_rfl) (by kernel_rfl) (by kernel_rfl) (by kernel_rfl) (by kernel_rfl) ?_; clear ha HW a; intro a W1602 HW ha
      refine endl ?_
      refine thenN (hK1584 _ _ ?_); clear hK1584
      refine wp_seq_k (fun K1603 hK1604 => ?_)
      refine wp_region_lit ?_
      refine stepp ha 48 (.pointer (some ⟨b1535, 0, none⟩)) (by kernel_rfl) (by kernel_rfl) ?_; clear ha a; intro a ha
      refine stepl ha 49 (HW.ca (i := 2) (b := b1535) (C := #[.int .i64 x1581, .string ((t1585 ++ t1589) ++ (strOfNums ([0, 0, 0, 0, x1580, 0, 0, 0] : List Int)))]) (T := 37) (fr := (0, 0)) (by kernel_rfl)) 3 0 (.tmp 48) (.int .i64 x1581) rfl (by kernel_rfl) (by kernel_rfl) (by kernel_rfl) ?_; clear ha a; intro a ha
      refine stepp ha 50 (.pointer (some ⟨b1529, 11, none⟩)) (by kernel_rfl) (by kernel_rfl) ?_; clear ha a; intro a ha
      refine stepl ha 51 (HW.ca (i := 0) (b := b1529) (C := #[.int .i64 a0.f0, .int .i64 a0.f1, .string a0.f2, .int .i64 a0.f3, .int .i64 a0.f4, .string a0.f5, .bool a0.f6, .slice A0_0 a0.f7.length c0_0, .int .u64 a0.f8, .int .u64 a0.f9, .int .u64 a0.f10, .int .i64 a0.f11, .bool a0.f12, .int .i64 a0.f13]) (T := 26) (fr := (0, 0)) (by kernel_rfl)) 3 11 (.tmp 50) (.int .i64 a0.f11) rfl (by kernel_rfl) (by kernel_rfl) (by kernel_rfl) ?_; clear ha a; intro a ha
      refine stepp ha 52 (.pointer (some ⟨b1535, 1, none⟩)) (by kernel_rfl) (by kernel_rfl) ?_; clear ha a; intro a ha
      refine stepl ha 53 (HW.ca (i := 2) (b := b1535) (C := #[.int .i64 x1581, .string ((t1585 ++ t1589) ++ (strOfNums ([0, 0, 0, 0, x1580, 0, 0, 0] : List Int)))]) (T := 37) (fr := (0, 0)) (by kernel_rfl)) 9 1 (.tmp 52) (.string ((t1585 ++ t1589) ++ (strOfNums ([0, 0, 0, 0, x1580, 0, 0, 0] : List Int)))) rfl (by kernel_rfl) (by kernel_rfl) (by kernel_rfl) ?_; clear ha a; intro a ha
      obtain ⟨t1605, ht1606, h_⟩ := bind_some' h; clear h; have h := h_; clear h_
      refine stepc ha 54 (by kernel_rfl) (by kernel_rfl) (headgateref18_Change.calls K x1581 a0.f11 ((t1585 ++ t1589) ++ (strOfNums ([0, 0, 0, 0, x1580, 0, 0, 0] : List Int))) t1605 _ ht1606) ?_; clear ha a; rintro e W1610 ⟨A1607, c1608, rfl, HX1611⟩
      refine ⟨_, rfl, ?_⟩; intro a ha; replace HW := HW.callw HX1611; clear HX1611
      refine stepp ha 47 (.tuple #[.agg #[.int .i64 t1605.1.f0, .int .i64 t1605.1.f1, .string t1605.1.f2, .int .i64 t1605.1.f3, .int .i64 t1605.1.f4, .string t1605.1.f5, .bool t1605.1.f6, .slice A1607 t1605.1.f7.length c1608, .int .u64 t1605.1.f8, .int .u64 t1605.1.f9, .int .u64 t1605.1.f10, .int .i64 t1605.1.f11, .bool t1605.1.f12, .int .i64 t1605.1.f13], .int .i64 t1605.2]) (by kernel_rfl) (by kernel_rfl) ?_; clear ha a; intro a ha
      refine stepp ha 55 (.agg #[.int .i64 t1605.1.f0, .int .i64 t1605.1.f1, .string t1605.1.f2, .int .i64 t1605.1.f3, .int .i64 t1605.1.f4, .string t1605.1.f5, .bool t1605.1.f6, .slice A1607 t1605.1.f7.length c1608, .int .u64 t1605.1.f8, .int .u64 t1605.1.f9, .int .u64 t1605.1.f10, .int .i64 t1605.1.f11, .bool t1605.1.f12, .int .i64 t1605.1.f13]) (by kernel_rfl) (by kernel_rfl) ?_; clear ha a; intro a ha
      refine stepp ha 56 (.int .i64 t1605.2) (by kernel_rfl) (by kernel_rfl) ?_; clear ha a; intro a ha
      refine stepnew ha HW 7 #[.int .i64 0, .int .i64 0, .string (⟨#[]⟩ : ByteArray), .int .i64 0, .int .i64 0, .string (⟨#[]⟩ : ByteArray), .bool false, .slice none 0 0, .int .u64 0, .int .u64 0, .int .u64 0, .int .i64 0, .bool false, .int .i64 0] 26 (by kernel_rfl) (by kernel_rfl) ?_; clear ha HW a; intro b1612 a W1613 HW ha
      refine stepst ha HW 0 (b := b1612) (C := #[.int .i64 0, .int .i64 0, .string (⟨#[]⟩ : ByteArray), .int .i64 0, .int .i64 0, .string (⟨#[]⟩ : ByteArray), .bool false, .slice none 0 0, .int .u64 0, .int .u64 0, .int .u64 0, .int .i64 0, .bool false, .int .i64 0]) (T := 26) (by kernel_rfl) 26 0 (.tmp 7) (.tmp 55) (.agg #[.int .i64 t1605.1.f0, .int .i64 t1605.1.f1, .string t1605.1.f2, .int .i64 t1605.1.f3, .int .i64 t1605.1.f4, .string t1605.1.f5, .bool t1605.1.f6, .slice A1607 t1605.1.f7.length c1608, .int .u64 t1605.1.f8, .int .u64 t1605.1.f9, .int .u64 t1605.1.f10, .int .i64 t1605.1.f11, .bool t1605.1.f12, .int .i64 t1605.1.f13]) #[.int .i64 t1605.1.f0, .int .i64 t1605.1.f1, .string t1605.1.f2, .int .i64 t1605.1.f3, .int .i64 t1605.1.f4, .string t1605.1.f5, .bool t1605.1.f6, .slice A1607 t1605.1.f7.length c1608, .int .u64 t1605.1.f8, .int .u64 t1605.1.f9, .int .u64 t1605.1.f10, .int .i64 t1605.1.f11, .bool t1605.1.f12, .int .i64 t1605.1.f13] rfl (by kernel_rfl) (by kernel_rfl) (by kernel_rfl) (by kernel_rfl) (by kernel_rfl) (by kernel_rfl) (by kernel_rfl) ?_; clear ha HW a; intro a W1614 HW ha
      refine stepp ha 8 (.int .i64 t1605.2) (by kernel_rfl) (by kernel_rfl) ?_; clear ha a; intro a ha
      refine endl ?_
      refine thenN (hK1604 _ _ ?_); clear hK1604
      refine wp_seq_k (fun K1615 hK1616 => ?_)
      refine wp_seq_k (fun K1617 hK1618 => ?_)
      refine wp_region_lit ?_
      refine stepp ha 57 (.int .i64 t1605.2) (by kernel_rfl) (by kernel_rfl) ?_; clear ha a; intro a ha
      refine stepp ha 58 (.bool (t1605.2 != 0)) (by kernel_rfl) (by kernel_rfl) ?_; clear ha a; intro a ha
      refine stepp ha 59 (.bool (t1605.2 != 0)) (by kernel_rfl) (by kernel_rfl) ?_; clear ha a; intro a ha
      by_cases hp1619 : t1605.2 = 0
      · skip
        replace h := ite_pos' h hp1619
        replace ha := ha.bool 59 (by kernel_rfl) (ineq_f hp1619)
        refine stepl ha 60 (HW.ca (i := 1) (b := b1529) (C := #[.int .i64 a0.f0, .int .i64 a0.f1, .string a0.f2, .int .i64 a0.f3, .int .i64 a0.f4, .string a0.f5, .bool a0.f6, .slice A0_0 a0.f7.length c0_0, .int .u64 a0.f8, .int .u64 a0.f9, .int .u64 a0.f10, .int .i64 a0.f11, .bool a0.f12, .int .i64 a0.f13]) (T := 26) (fr := (0, 0)) (by kernel_rfl)) 26 0 (.tmp 1) (.agg #[.int .i64 a0.f0, .int .i64 a0.f1, .string a0.f2, .int .i64 a0.f3, .int .i64 a0.f4, .string a0.f5, .bool a0.f6, .slice A0_0 a0.f7.length c0_0, .int .u64 a0.f8, .int .u64 a0.f9, .int .u64 a0.f10, .int .i64 a0.f11, .bool a0.f12, .int .i64 a0.f13]) rfl (by kernel_rfl) (by kernel_rfl) (by kernel_rfl) ?_; clear ha a; intro a ha
        refine stepl ha 61 (HW.ca (i := 0) (b := b1612) (C := #[.int .i64 t1605.1.f0, .int .i64 t1605.1.f1, .string t1605.1.f2, .int .i64 t1605.1.f3, .int .i64 t1605.1.f4, .string t1605.1.f5, .bool t1605.1.f6, .slice A1607 t1605.1.f7.length c1608, .int .u64 t1605.1.f8, .int .u64 t1605.1.f9, .int .u64 t1605.1.f10, .int .i64 t1605.1.f11, .bool t1605.1.f12, .int .i64 t1605.1.f13]) (T := 26) (fr := (0, 0)) (by kernel_rfl)) 26 0 (.tmp 7) (.agg #[.int .i64 t1605.1.f0, .int .i64 t1605.1.f1, .string t1605.1.f2, .int .i64 t1605.1.f3, .int .i64 t1605.1.f4, .string t1605.1.f5, .bool t1605.1.f6, .slice A1607 t1605.1.f7.length c1608, .int .u64 t1605.1.f8, .int .u64 t1605.1.f9, .int .u64 t1605.1.f10, .int .i64 t1605.1.f11, .bool t1605.1.f12, .int .i64 t1605.1.f13]) rfl (by kernel_rfl) (by kernel_rfl) (by kernel_rfl) ?_; clear ha a; intro a ha
        obtain ⟨t1620, ht1621, h_⟩ := bind_some' h; clear h; have h := h_; clear h_
        refine stepc ha 62 (by kernel_rfl) (by kernel_rfl) (headgatekeep_Cmds.calls K a0 (⟨t1605.1.f0, t1605.1.f1, t1605.1.f2, t1605.1.f3, t1605.1.f4, t1605.1.f5, t1605.1.f6, t1605.1.f7, t1605.1.f8, t1605.1.f9, t1605.1.f10, t1605.1.f11, t1605.1.f12, t1605.1.f13⟩ : T_api_Cmd) A0_0 c0_0 A1607 c1608 t1620 _ ((HW.rd0 hr0_0)) (HW.rdo (i := 0) (q := ⟨61, 2, .slice A1607 t1605.1.f7.length c1608, t1605.1.f7.length, encs T_api_Range.enc t1605.1.f7⟩) (by kernel_rfl)) ht1621) ?_; clear ha a; rintro e W1622 ⟨rfl, HX1623⟩
        refine ⟨_, rfl, ?_⟩; intro a ha; replace HW := HW.callw HX1623; clear HX1623
        refine stepp ha 63 (.bool (!t1620)) (by kernel_rfl) (by kernel_rfl) ?_; clear ha a; intro a ha
        refine stepp ha 64 (.bool (!t1620)) (by kernel_rfl) (by kernel_rfl) ?_; clear ha a; intro a ha
        refine endl ?_
        refine thenN (hK1618 _ _ ?_); clear hK1618
        by_cases hp1624 : t1620 = true
        · skip
          replace h := ite_pos' h hp1624
          refine condF ha (by kernel_rfl) (by kernel_rfl) (t := (!t1620)) (not_f (hp1624)) ?_
          refine wp_skip ?_
          refine thenN (hK1616 _ _ ?_); clear hK1616
          refine wp_seq_k (fun K1631 hK1632 => ?_)
          refine wp_region_lit ?_
          refine stepl ha 66 (HW.ca (i := 3) (b := b1535) (C := #[.int .i64 x1581, .string ((t1585 ++ t1589) ++ (strOfNums ([0, 0, 0, 0, x1580, 0, 0, 0] : List Int)))]) (T := 37) (fr := (0, 0)) (by kernel_rfl)) 37 0 (.tmp 4) (.agg #[.int .i64 x1581, .string ((t1585 ++ t1589) ++ (strOfNums ([0, 0, 0, 0, x1580, 0, 0, 0] : List Int)))]) rfl (by kernel_rfl) (by kernel_rfl) (by kernel_rfl) ?_; clear ha a; intro a ha
          refine stepst ha HW 2 (b := b1531) (C := #[.int .i64 0, .string (⟨#[]⟩ : ByteArray)]) (T := 37) (by kernel_rfl) 37 0 (.tmp 2) (.tmp 66) (.agg #[.int .i64 x1581, .string ((t1585 ++ t1589) ++ (strOfNums ([0, 0, 0, 0, x1580, 0, 0, 0] : List Int)))]) #[.int .i64 x1581, .string ((t1585 ++ t1589) ++ (strOfNums ([0, 0, 0, 0, x1580, 0, 0, 0] : List Int)))] rfl (by kernel_rfl) (by kernel_rfl) (by kernel_rfl) (by kernel_rfl) (by kernel_rfl) (by kernel_rfl) (by kernel_rfl) ?_; clear ha HW a; intro a W1633 HW ha
          refine stepp ha 3 (.int .i64 0) (by kernel_rfl) (by kernel_rfl) ?_; clear ha a; intro a ha
          refine endl ?_
          refine thenN (hK1632 _ _ ?_); clear hK1632
          refine wp_ret ?_
          obtain rfl := Option.some.inj h
          exact finv ha _ _ rfl (.cell (ad := ⟨b1531, 0, none⟩) (v := .agg #[.int .i64 x1581, .string ((t1585 ++ t1589) ++ (strOfNums ([0, 0, 0, 0, x1580, 0, 0, 0] : List Int)))]) (by kernel_rfl) (run_loadVar_ca0 (HW.ca (i := 2) (b := b1531) (C := #[.int .i64 x1581, .string ((t1585 ++ t1589) ++ (strOfNums ([0, 0, 0, 0, x1580, 0, 0, 0] : List Int)))]) (T := 37) (fr := (0, 0)) (by kernel_rfl)) 37 0 (.agg #[.int .i64 x1581, .string ((t1585 ++ t1589) ++ (strOfNums ([0, 0, 0, 0, x1580, 0, 0, 0] : List Int)))]) (by kernel_rfl)) (.tmp (v := .int .i64 0) (by kernel_rfl) .nil)) (.tuple #[.agg #[.int .i64 x1581, .string ((t1585 ++ t1589) ++ (strOfNums ([0, 0, 0, 0, x1580, 0, 0, 0] : List Int)))], .int .i64 0]) rfl ⟨rfl, HW.pick [] [] (by decide) (by decide) rfl (by kernel_rfl)⟩
        · skip
          replace h := ite_neg' h hp1624
          refine condT ha (by kernel_rfl) (by kernel_rfl) (t := (!t1620)) (not_t (bool_f hp1624)) ?_
          refine wp_seq_k (fun K1625 hK1626 => ?_)
          refine wp_region_lit ?_
          refine stepp ha 65 (.agg #[.int .i64 0, .string (⟨#[]⟩ : ByteArray)]) (by kernel_rfl) (by kernel_rfl) ?_; clear ha a; intro a ha
          refine stepst ha HW 2 (b := b1531) (C := #[.int .i64 0, .string (⟨#[]⟩ : ByteArray)]) (T := 37) (by kernel_rfl) 37 0 (.tmp 2) (.tmp 65) (.agg #[.int .i64 0, .string (⟨#[]⟩ : ByteArray)]) #[.int .i64 0, .string (⟨#[]⟩ : ByteArray)] rfl (by kernel_rfl) (by kernel_rfl) (by kernel_rfl) (by kernel_rfl) (by kernel_rfl) (by kernel_rfl) (by kernel_rfl) ?_; clear ha HW a; intro a W1627 HW ha
          refine stepp ha 3 (.int .i64 180) (by kernel_rfl) (by kernel_rfl) ?_; clear ha a; intro a ha
          refine endl ?_
          refine thenN (hK1626 _ _ ?_); clear hK1626
          refine wp_ret ?_
          refine thenR ?_
          obtain rfl := Option.some.inj h
          exact finv ha _ _ rfl (.cell (ad := ⟨b1531, 0, none⟩) (v := .agg #[.int .i64 0, .string (⟨#[]⟩ : ByteArray)]) (by kernel_rfl) (run_loadVar_ca0 (HW.ca (i := 2) (b := b1531) (C := #[.int .i64 0, .string (⟨#[]⟩ : ByteArray)]) (T := 37) (fr := (0, 0)) (by kernel_rfl)) 37 0 (.agg #[.int .i64 0, .string (⟨#[]⟩ : ByteArray)]) (by kernel_rfl)) (.tmp (v := .int .i64 180) (by kernel_rfl) .nil)) (.tuple #[.agg #[.int .i64 0, .string (⟨#[]⟩ : ByteArray)], .int .i64 180]) rfl ⟨rfl, HW.pick [] [] (by decide) (by decide) rfl (by kernel_rfl)⟩
      · skip
        replace h := ite_neg' h hp1619
        replace ha := ha.bool 59 (by kernel_rfl) (ineq_t hp1619)
        refine stepo ha 60 (by kernel_rfl) ?_; clear ha a; intro a ha
        refine stepo ha 61 (by kernel_rfl) ?_; clear ha a; intro a ha
        refine stepo ha 62 (by kernel_rfl) ?_; clear ha a; intro a ha
        refine stepo ha 63 (by kernel_rfl) ?_; clear ha a; intro a ha
        refine stepp ha 64 (.bool true) (by kernel_rfl) (by kernel_rfl) ?_; clear ha a; intro a ha
        refine endl ?_
        refine thenN (hK1618 _ _ ?_); clear hK1618
        refine condT ha (by kernel_rfl) (by kernel_rfl) (t := true) (rfl) ?_
        refine wp_seq_k (fun K1628 hK1629 => ?_)
        refine wp_region_lit ?_
        refine stepp ha 65 (.agg #[.int .i64 0, .string (⟨#[]⟩ : ByteArray)]) (by kernel_rfl) (by kernel_rfl) ?_; clear ha a; intro a ha
        refine stepst ha HW 2 (b := b1531) (C := #[.int .i64 0, .string (⟨#[]⟩ : ByteArray)]) (T := 37) (by kernel_rfl) 37 0 (.tmp 2) (.tmp 65) (.agg #[.int .i64 0, .string (⟨#[]⟩ : ByteArray)]) #[.int .i64 0, .string (⟨#[]⟩ : ByteArray)] rfl (by kernel_rfl) (by kernel_rfl) (by kernel_rfl) (by kernel_rfl) (by kernel_rfl) (by kernel_rfl) (by kernel_rfl) ?_; clear ha HW a; intro a W1630 HW ha
        refine stepp ha 3 (.int .i64 180) (by kernel_rfl) (by kernel_rfl) ?_; clear ha a; intro a ha
        refine endl ?_
        refine thenN (hK1629 _ _ ?_); clear hK1629
        refine wp_ret ?_
        refine thenR ?_
        obtain rfl := Option.some.inj h
        exact finv ha _ _ rfl (.cell (ad := ⟨b1531, 0, none⟩) (v := .agg #[.int .i64 0, .string (⟨#[]⟩ : ByteArray)]) (by kernel_rfl) (run_loadVar_ca0 (HW.ca (i := 2) (b := b1531) (C := #[.int .i64 0, .string (⟨#[]⟩ : ByteArray)]) (T := 37) (fr := (0, 0)) (by kernel_rfl)) 37 0 (.agg #[.int .i64 0, .string (⟨#[]⟩ : ByteArray)]) (by kernel_rfl)) (.tmp (v := .int .i64 180) (by kernel_rfl) .nil)) (.tuple #[.agg #[.int .i64 0, .string (⟨#[]⟩ : ByteArray)], .int .i64 180]) rfl ⟨rfl, HW.pick [] [] (by decide) (by decide) rfl (by kernel_rfl)⟩
end Go.Proofs.Ytceagilmillgfaa.F
