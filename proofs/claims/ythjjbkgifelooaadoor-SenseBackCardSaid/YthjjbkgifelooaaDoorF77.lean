/- headgate/fields.get[uint64]: plain functions, and that the calls come to what they say. No condition. -/
import Derived.Test.YthjjbkgifelooaaDoorFT
import Derived.Test.YthjjbkgifelooaaDoorF90
namespace Go.Proofs.YthjjbkgifelooaaDoor.F
open Go Go.RowKit Go.Proofs.YthjjbkgifelooaaDoor.X
set_option linter.unusedVariables false
set_option linter.unusedSimpArgs false
/-! ### headgate/fields.get[uint64]: function 77 -/
def fields_get_uint64.b0 (K : Nat) (a0 : ByteArray) (a1 : Int) (t688 : List Int) (again731 : Int → Int → Option (Int × Bool)) (x732 : Int) (x733 : Int) : Option (Int × Bool) :=
  if x733 < (t688.length : Int) then (asrt (0 ≤ x733) (asrt (0 ≤ (IntKind.wrap .i64 (a1 + x733))) (asrt ((IntKind.wrap .i64 (a1 + x733)) < (a0.size : Int)) (asrt (0 ≤ (rdL (0 : Int) t688 x733)) (again731 (bor .u64 x732 (sshl .u64 (IntKind.wrap .u64 (bt a0 (IntKind.wrap .i64 (a1 + x733)))) (rdL (0 : Int) t688 x733))) (IntKind.wrap .i64 (x733 + 1))))))) else (some (x732, true))
def fields_get_uint64.l0 (K : Nat) (a0 : ByteArray) (a1 : Int) (t688 : List Int) : Nat → Int → Int → Option (Int × Bool)
  | 0, _, _ => none
  | k_ + 1, x732, x733 => fields_get_uint64.b0 K a0 a1 t688 (fields_get_uint64.l0 K a0 a1 t688 k_) x732 x733
def fields_get_uint64.f (K : Nat) (a0 : ByteArray) (a1 : Int) (a2 : Int) (a3 : Bool) : Option (Int × Bool) :=
  if a2 < 1 then (some (0, false)) else (if a2 > 8 then (some (0, false)) else (if a1 < 0 then (some (0, false)) else (if a1 > (IntKind.wrap .i64 ((a0.size : Int) - a2)) then (some (0, false)) else ((fields_shifts.f K a2 a3).bind fun t688 => (fields_get_uint64.l0 K a0 a1 t688 K 0 0)))))
set_option maxRecDepth 100000 in
set_option maxHeartbeats 4000000 in
theorem fields_get_uint64.calls (K : Nat) (a0 : ByteArray) (a1 : Int) (a2 : Int) (a3 : Bool)  (r : Int × Bool) (w : World)  (h : fields_get_uint64.f K a0 a1 a2 a3 = some r) :
    Calls Tryd.prog 77 #[.string a0, .int .i64 a1, .int .i64 a2, .bool a3] w (fun e W' => e = .returned (.tuple #[.int .u64 r.1, .bool r.2]) ∧ Wd w W' [] [] ) := by
  refine sxstart (n := 52) (l := [(0, .string a0), (1, .int .i64 a1), (2, .int .i64 a2), (3, .bool a3)]) Tryd.func77 rfl rfl (Nat.le_of_ble_eq_true KR) (subsA_cons rfl (subsA_cons rfl (subsA_cons rfl (subsA_cons rfl (subsA_nil _))))) ?_
  intro a ha
  have HW := Wd.refl w
  unfold fields_get_uint64.f at h
  refine wp_seq_k (fun K664 hK665 => ?_)
  refine wp_region_lit ?_
  refine stepp ha 8 (.int .u64 0) KR KR ?_; clear ha a; intro a ha
  refine stepp ha 9 (.bool false) KR KR ?_; clear ha a; intro a ha
  refine endl ?_
  refine thenN (hK665 _ _ ?_); clear hK665
  refine wp_seq_k (fun K666 hK667 => ?_)
  refine wp_seq_k (fun K668 hK669 => ?_)
  refine wp_region_lit ?_
  refine stepp ha 13 (.int .i64 a2) KR KR ?_; clear ha a; intro a ha
  refine stepp ha 14 (.bool (decide (a2 < 1))) KR KR ?_; clear ha a; intro a ha
  refine stepp ha 15 (.bool (decide (a2 < 1))) KR KR ?_; clear ha a; intro a ha
  by_cases hp670 : a2 < 1
  · skip
    replace h := ite_pos' h hp670
    replace ha := ha.bool 15 KR (decide_eq_true hp670)
    refine stepo ha 16 KR ?_; clear ha a; intro a ha
    refine stepo ha 17 KR ?_; clear ha a; intro a ha
    refine stepp ha 18 (.bool true) KR KR ?_; clear ha a; intro a ha
    refine stepp ha 19 (.bool true) KR KR ?_; clear ha a; intro a ha
    refine stepo ha 20 KR ?_; clear ha a; intro a ha
    refine stepo ha 21 KR ?_; clear ha a; intro a ha
    refine stepp ha 22 (.bool true) KR KR ?_; clear ha a; intro a ha
    refine stepp ha 23 (.bool true) KR KR ?_; clear ha a; intro a ha
    refine stepo ha 24 KR ?_; clear ha a; intro a ha
    refine stepo ha 25 KR ?_; clear ha a; intro a ha
    refine stepo ha 26 KR ?_; clear ha a; intro a ha
    refine stepo ha 27 KR ?_; clear ha a; intro a ha
    refine stepo ha 28 KR ?_; clear ha a; intro a ha
    refine stepo ha 29 KR ?_; clear ha a; intro a ha
    refine stepp ha 30 (.bool true) KR KR ?_; clear ha a; intro a ha
    refine endl ?_
    refine thenN (hK669 _ _ ?_); clear hK669
    refine condT ha KR KR (t := true) (rfl) ?_
    refine wp_seq_k (fun K673 hK674 => ?_)
    refine wp_region_lit ?_
    refine stepp ha 8 (.int .u64 0) KR KR ?_; clear ha a; intro a ha
    refine stepp ha 9 (.bool false) KR KR ?_; clear ha a; intro a ha
    refine endl ?_
    refine thenN (hK674 _ _ ?_); clear hK674
    refine wp_ret ?_
    refine thenR ?_
    obtain rfl := Option.some.inj h
    exact finv ha _ _ rfl (.tmp (v := .int .u64 0) KR (.tmp (v := .bool false) KR .nil)) (.tuple #[.int .u64 0, .bool false]) rfl ⟨rfl, HW.pick [] [] (by decide) (by decide) rfl KR⟩
  · skip
    replace h := ite_neg' h hp670
    replace ha := ha.bool 15 KR (decide_eq_false hp670)
    refine stepp ha 16 (.int .i64 a2) KR KR ?_; clear ha a; intro a ha
    refine stepp ha 17 (.bool (decide (a2 > 8))) KR KR ?_; clear ha a; intro a ha
    refine stepp ha 18 (.bool (decide (a2 > 8))) KR KR ?_; clear ha a; intro a ha
    refine stepp ha 19 (.bool (decide (a2 > 8))) KR KR ?_; clear ha a; intro a ha
    by_cases hp671 : a2 > 8
    · skip
      replace h := ite_pos' h hp671
      replace ha := ha.bool 19 KR (decide_eq_true hp671)
      refine stepo ha 20 KR ?_; clear ha a; intro a ha
      refine stepo ha 21 KR ?_; clear ha a; intro a ha
      refine stepp ha 22 (.bool true) KR KR ?_; clear ha a; intro a ha
      refine stepp ha 23 (.bool true) KR KR ?_; clear ha a; intro a ha
      refine stepo ha 24 KR ?_; clear ha a; intro a ha
      refine stepo ha 25 KR ?_; clear ha a; intro a ha
      refine stepo ha 26 KR ?_; clear ha a; intro a ha
      refine stepo ha 27 KR ?_; clear ha a; intro a ha
      refine stepo ha 28 KR ?_; clear ha a; intro a ha
      refine stepo ha 29 KR ?_; clear ha a; intro a ha
      refine stepp ha 30 (.bool true) KR KR ?_; clear ha a; intro a ha
      refine endl ?_
      refine thenN (hK669 _ _ ?_); clear hK669
      refine condT ha KR KR (t := true) (rfl) ?_
      refine wp_seq_k (fun K675 hK676 => ?_)
      refine wp_region_lit ?_
      refine stepp ha 8 (.int .u64 0) KR KR ?_; clear ha a; intro a ha
      refine stepp ha 9 (.bool false) KR KR ?_; clear ha a; intro a ha
      refine endl ?_
      refine thenN (hK676 _ _ ?_); clear hK676
      refine wp_ret ?_
      refine thenR ?_
      obtain rfl := Option.some.inj h
      exact finv ha _ _ rfl (.tmp (v := .int .u64 0) KR (.tmp (v := .bool false) KR .nil)) (.tuple #[.int .u64 0, .bool false]) rfl ⟨rfl, HW.pick [] [] (by decide) (by decide) rfl KR⟩
    · skip
      replace h := ite_neg' h hp671
      replace ha := ha.bool 19 KR (decide_eq_false hp671)
      refine stepp ha 20 (.int .i64 a1) KR KR ?_; clear ha a; intro a ha
      refine stepp ha 21 (.bool (decide (a1 < 0))) KR KR ?_; clear ha a; intro a ha
      refine stepp ha 22 (.bool (decide (a1 < 0))) KR KR ?_; clear ha a; intro a ha
      refine stepp ha 23 (.bool (decide (a1 < 0))) KR KR ?_; clear ha a; intro a ha
      by_cases hp672 : a1 < 0
      · skip
        replace h := ite_pos' h hp672
        replace ha := ha.bool 23 KR (decide_eq_true hp672)
        refine stepo ha 24 KR ?_; clear ha a; intro a ha
        refine stepo ha 25 KR ?_; clear ha a; intro a ha
        refine stepo ha 26 KR ?_; clear ha a; intro a ha
        refine stepo ha 27 KR ?_; clear ha a; intro a ha
        refine stepo ha 28 KR ?_; clear ha a; intro a ha
        refine stepo ha 29 KR ?_; clear ha a; intro a ha
        refine stepp ha 30 (.bool true) KR KR ?_; clear ha a; intro a ha
        refine endl ?_
        refine thenN (hK669 _ _ ?_); clear hK669
        refine condT ha KR KR (t := true) (rfl) ?_
        refine wp_seq_k (fun K677 hK678 => ?_)
        refine wp_region_lit ?_
        refine stepp ha 8 (.int .u64 0) KR KR ?_; clear ha a; intro a ha
        refine stepp ha 9 (.bool false) KR KR ?_; clear ha a; intro a ha
        refine endl ?_
        refine thenN (hK678 _ _ ?_); clear hK678
        refine wp_ret ?_
        refine thenR ?_
        obtain rfl := Option.some.inj h
        exact finv ha _ _ rfl (.tmp (v := .int .u64 0) KR (.tmp (v := .bool false) KR .nil)) (.tuple #[.int .u64 0, .bool false]) rfl ⟨rfl, HW.pick [] [] (by decide) (by decide) rfl KR⟩
      · skip
        replace h := ite_neg' h hp672
        replace ha := ha.bool 23 KR (decide_eq_false hp672)
        refine stepp ha 24 (.int .i64 a1) KR KR ?_; clear ha a; intro a ha
        refine stepp ha 25 (.string a0) KR KR ?_; clear ha a; intro a ha
        refine stepp ha 26 (.int .i64 (a0.size : Int)) KR KR ?_; clear ha a; intro a ha
        refine stepp ha 27 (.int .i64 a2) KR KR ?_; clear ha a; intro a ha
        refine stepp ha 28 (.int .i64 (IntKind.wrap .i64 ((a0.size : Int) - a2))) KR KR ?_; clear ha a; intro a ha
        refine stepp ha 29 (.bool (decide (a1 > (IntKind.wrap .i64 ((a0.size : Int) - a2))))) KR KR ?_; clear ha a; intro a ha
        refine stepp ha 30 (.bool (decide (a1 > (IntKind.wrap .i64 ((a0.size : Int) - a2))))) KR KR ?_; clear ha a; intro a ha
        refine endl ?_
        refine thenN (hK669 _ _ ?_); clear hK669
        by_cases hp679 : a1 > (IntKind.wrap .i64 ((a0.size : Int) - a2))
        · skip
          replace h := ite_pos' h hp679
          refine condT ha KR KR (t := decide (a1 > (IntKind.wrap .i64 ((a0.size : Int) - a2)))) (decide_eq_true hp679) ?_
          refine wp_seq_k (fun K680 hK681 => ?_)
          refine wp_region_lit ?_
          refine stepp ha 8 (.int .u64 0) KR KR ?_; clear ha a; intro a ha
          refine stepp ha 9 (.bool false) KR KR ?_; clear ha a; intro a ha
          refine endl ?_
          refine thenN (hK681 _ _ ?_); clear hK681
          refine wp_ret ?_
          refine thenR ?_
          obtain rfl := Option.some.inj h
          exact finv ha _ _ rfl (.tmp (v := .int .u64 0) KR (.tmp (v := .bool false) KR .nil)) (.tuple #[.int .u64 0, .bool false]) rfl ⟨rfl, HW.pick [] [] (by decide) (by decide) rfl KR⟩
        · skip
          replace h := ite_neg' h hp679
          refine condF ha KR KR (t := decide (a1 > (IntKind.wrap .i64 ((a0.size : Int) - a2)))) (decide_eq_false hp679) ?_
          refine wp_skip ?_
          refine thenN (hK667 _ _ ?_); clear hK667
          refine wp_seq_k (fun K682 hK683 => ?_)
          refine wp_region_lit ?_
          refine stepp ha 10 (.int .u64 0) KR KR ?_; clear ha a; intro a ha
          refine endl ?_
          refine thenN (hK683 _ _ ?_); clear hK683
          refine wp_seq_k (fun K684 hK685 => ?_)
          refine wp_seq_k (fun K686 hK687 => ?_)
          refine wp_region_lit ?_
          refine stepp ha 31 (.int .i64 a2) KR KR ?_; clear ha a; intro a ha
          refine stepp ha 32 (.bool a3) KR KR ?_; clear ha a; intro a ha
          obtain ⟨t688, ht689, h_⟩ := bind_some' h; clear h; have h := h_; clear h_
          refine stepc ha 33 KR KR (fields_shifts.calls K a2 a3 t688 _ ht689) ?_; clear ha a; rintro e W693 ⟨A690, c691, rfl, HX694⟩
          refine ⟨_, rfl, ?_⟩; intro a ha; replace HW := HW.callw HX694; clear HX694
          refine stepp ha 34 (.int .i64 (t688.length : Int)) KR KR ?_; clear ha a; intro a ha
          refine stepp ha 35 (.int .i64 0) KR KR ?_; clear ha a; intro a ha
          refine endl ?_
          refine thenN (hK687 _ _ ?_); clear hK687
          refine wp_block ?_
          refine loopk (fun k => fun a W734 => ∃ (x732 : Int), ∃ (x733 : Int), fields_get_uint64.l0 K a0 a1 t688 k x732 x733 = some r ∧ Has 52 [(0, .string a0), (1, .int .i64 a1), (10, .int .u64 x732), (33, .slice A690 t688.length c691), (34, .int .i64 (t688.length : Int)), (35, .int .i64 x733)] a ∧ Wd w W734 [] [⟨3, 1, .slice A690 t688.length c691, t688.length, encs (encI .i64) t688⟩]) K ?_ ?_
          · skip
            exact ⟨0, 0, h, ha.sub (subs_cons KR (subs_cons KR (subs_cons KR (subs_cons KR (subs_cons KR (subs_cons KR (subs_nil _))))))), HW.pick [] [0] (by decide) (by decide) KR KR⟩
          · skip
            intro k a W734 hI
            obtain ⟨x732, x733, h, ha, HW⟩ := hI
            cases k with
            | zero => exact (none_some (show none = some r from h)).elim
            | succ k735 =>
              replace h : fields_get_uint64.b0 K a0 a1 t688 (fields_get_uint64.l0 K a0 a1 t688 k735) x732 x733 = some r := h
              obtain ⟨again731, hag736⟩ : ∃ g_, g_ = fields_get_uint64.l0 K a0 a1 t688 k735 := ⟨_, rfl⟩
              rw [← hag736] at h
              unfold fields_get_uint64.b0 at h
              refine wp_seq_k (fun K737 hK738 => ?_)
              refine wp_region_lit ?_
              refine stepp ha 36 (.bool (decide (x733 < (t688.length : Int)))) KR KR ?_; clear ha a; intro a ha
              refine endl ?_
              refine thenN (hK738 _ _ ?_); clear hK738
              refine wp_seq_k (fun K739 hK740 => ?_)
              by_cases hp741 : x733 < (t688.length : Int)
              · skip
                replace h := ite_pos' h hp741
                refine condT ha KR KR (t := decide (x733 < (t688.length : Int))) (decide_eq_true hp741) ?_
                refine wp_skip ?_
                refine thenN (hK740 _ _ ?_); clear hK740
                refine wp_seq_k (fun K742 hK743 => ?_)
                refine wp_block ?_
                refine wp_seq_k (fun K744 hK745 => ?_)
                refine wp_region_lit ?_
                refine stepp ha 37 (.int .i64 x733) KR KR ?_; clear ha a; intro a ha
                obtain ⟨hA746, h_⟩ := asrt_some h; clear h; have h := h_; clear h_
                refine stepie (encI .i64) (0 : Int) ha 38 (fun _ => rfl) (v := .slice A690 t688.length c691) (xs := t688) (HW.rdo (i := 0) (q := ⟨3, 1, .slice A690 t688.length c691, t688.length, encs (encI .i64) t688⟩) KR) 143 3 (.tmp 33) (.tmp 35) .i64 x733 rfl KR KR KR KR hA746 (show (x733 : Int) < ((t688).length : Int) from hp741) KR ?_; clear ha a; intro b747 off748 a hC749 ha
                refine stepl ha 39 hC749 3 0 (.tmp 38) (.int .i64 (rdL (0 : Int) t688 x733)) rfl KR KR KR ?_; clear ha a; intro a ha
                refine stepp ha 11 (.int .i64 x733) KR KR ?_; clear ha a; intro a ha
                refine stepp ha 12 (.int .i64 (rdL (0 : Int) t688 x733)) KR KR ?_; clear ha a; intro a ha
                refine endl ?_
                refine thenN (hK745 _ _ ?_); clear hK745
                refine wp_region_lit ?_
                refine stepp ha 40 (.int .u64 x732) KR KR ?_; clear ha a; intro a ha
                refine stepp ha 41 (.string a0) KR KR ?_; clear ha a; intro a ha
                refine stepp ha 42 (.int .i64 a1) KR KR ?_; clear ha a; intro a ha
                refine stepp ha 43 (.int .i64 x733) KR KR ?_; clear ha a; intro a ha
                refine stepp ha 44 (.int .i64 (IntKind.wrap .i64 (a1 + x733))) KR KR ?_; clear ha a; intro a ha
                obtain ⟨hA750, h_⟩ := asrt_some h; clear h; have h := h_; clear h_
                obtain ⟨hA751, h_⟩ := asrt_some h; clear h; have h := h_; clear h_
                refine stepsi ha 45 9 (.tmp 41) (.tmp 44) a0 .i64 (IntKind.wrap .i64 (a1 + x733)) rfl KR KR KR hA750 (show (IntKind.wrap .i64 (a1 + x733) : Int) < ((a0).size : Int) from hA751) KR ?_; clear ha a; intro a ha
                refine stepp ha 46 (.int .u64 (IntKind.wrap .u64 (bt a0 (IntKind.wrap .i64 (a1 + x733))))) KR KR ?_; clear ha a; intro a ha
                refine stepp ha 47 (.int .i64 (rdL (0 : Int) t688 x733)) KR KR ?_; clear ha a; intro a ha
                obtain ⟨hA752, h_⟩ := asrt_some h; clear h; have h := h_; clear h_
                refine stepshl ha 48 42 3 (.tmp 46) (.tmp 47) .u64 .i64 (IntKind.wrap .u64 (bt a0 (IntKind.wrap .i64 (a1 + x733)))) (rdL (0 : Int) t688 x733) rfl KR KR hA752 KR ?_; clear ha a; intro a ha
                refine stepp ha 49 (.int .u64 (bor .u64 x732 (sshl .u64 (IntKind.wrap .u64 (bt a0 (IntKind.wrap .i64 (a1 + x733)))) (rdL (0 : Int) t688 x733)))) KR KR ?_; clear ha a; intro a ha
                refine stepp ha 10 (.int .u64 (bor .u64 x732 (sshl .u64 (IntKind.wrap .u64 (bt a0 (IntKind.wrap .i64 (a1 + x733)))) (rdL (0 : Int) t688 x733)))) KR KR ?_; clear ha a; intro a ha
                refine endl ?_
                refine blkN ?_
                refine thenN (hK743 _ _ ?_); clear hK743
                refine wp_region_lit ?_
                refine stepp ha 50 (.int .i64 (IntKind.wrap .i64 (x733 + 1))) KR KR ?_; clear ha a; intro a ha
                refine stepp ha 35 (.int .i64 (IntKind.wrap .i64 (x733 + 1))) KR KR ?_; clear ha a; intro a ha
                refine endl ?_
                exact thenN ⟨k735, Nat.lt_succ_self k735, bor .u64 x732 (sshl .u64 (IntKind.wrap .u64 (bt a0 (IntKind.wrap .i64 (a1 + x733)))) (rdL (0 : Int) t688 x733)), IntKind.wrap .i64 (x733 + 1), (by rw [← hag736]; exact h), ha.sub (subs_cons KR (subs_cons KR (subs_cons KR (subs_cons KR (subs_cons KR (subs_cons KR (subs_nil _))))))), HW.pick [] [0] (by decide) (by decide) KR KR⟩
              · skip
                replace h := ite_neg' h hp741
                refine condF ha KR KR (t := decide (x733 < (t688.length : Int))) (decide_eq_false hp741) ?_
                refine wp_exit ?_
                refine thenE ?_
                refine thenE ?_
                refine inBlk ?_
                refine thenN (hK685 _ _ ?_); clear hK685
                refine wp_seq_k (fun K753 hK754 => ?_)
                refine wp_region_lit ?_
                refine stepp ha 51 (.int .u64 x732) KR KR ?_; clear ha a; intro a ha
                refine stepp ha 8 (.int .u64 x732) KR KR ?_; clear ha a; intro a ha
                refine stepp ha 9 (.bool true) KR KR ?_; clear ha a; intro a ha
                refine endl ?_
                refine thenN (hK754 _ _ ?_); clear hK754
                refine wp_ret ?_
                obtain rfl := Option.some.inj h
                exact finv ha _ _ rfl (.tmp (v := .int .u64 x732) KR (.tmp (v := .bool true) KR .nil)) (.tuple #[.int .u64 x732, .bool true]) rfl ⟨rfl, HW.pick [] [] (by decide) (by decide) rfl KR⟩
end Go.Proofs.YthjjbkgifelooaaDoor.F
