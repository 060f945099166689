/- headgate/fields.get[uint64], headgate/fields.Little, headgate/fields.Bits, headgate/fields.Bit, headgate/nresv.Change, headgate/headgatelaw27.wakes: plain functions, and that the calls come to what they say. No condition. -/
import Derived.Test.YthjjbkgifelooaaDoorFT
import Derived.Test.YthjjbkgifelooaaDoorF48
namespace Go.Proofs.YthjjbkgifelooaaDoor.F
open Go Go.RowKit Go.Proofs.YthjjbkgifelooaaDoor.X
set_option linter.unusedVariables false
set_option linter.unusedSimpArgs false
/-! ### headgate/fields.get[uint64]: function 77 -/
def fields_get_uint64.b0 (K : Nat) (a0 : ByteArray) (a1 : Int) (t694 : List Int) (again737 : Int → Int → Option (Int × Bool)) (x738 : Int) (x739 : Int) : Option (Int × Bool) :=
  if x739 < (t694.length : Int) then (asrt (0 ≤ x739) (asrt (0 ≤ (IntKind.wrap .i64 (a1 + x739))) (asrt ((IntKind.wrap .i64 (a1 + x739)) < (a0.size : Int)) (asrt (0 ≤ (rdL (0 : Int) t694 x739)) (again737 (bor .u64 x738 (sshl .u64 (IntKind.wrap .u64 (bt a0 (IntKind.wrap .i64 (a1 + x739)))) (rdL (0 : Int) t694 x739))) (IntKind.wrap .i64 (x739 + 1))))))) else (some (x738, true))
def fields_get_uint64.l0 (K : Nat) (a0 : ByteArray) (a1 : Int) (t694 : List Int) : Nat → Int → Int → Option (Int × Bool)
  | 0, _, _ => none
  | k_ + 1, x738, x739 => fields_get_uint64.b0 K a0 a1 t694 (fields_get_uint64.l0 K a0 a1 t694 k_) x738 x739
def fields_get_uint64.f (K : Nat) (a0 : ByteArray) (a1 : Int) (a2 : Int) (a3 : Bool) : Option (Int × Bool) :=
  if a2 < 1 then (some (0, false)) else (if a2 > 8 then (some (0, false)) else (if a1 < 0 then (some (0, false)) else (if a1 > (IntKind.wrap .i64 ((a0.size : Int) - a2)) then (some (0, false)) else ((fields_shifts.f K a2 a3).bind fun t694 => (fields_get_uint64.l0 K a0 a1 t694 K 0 0)))))
set_option maxRecDepth 100000 in
set_option maxHeartbeats 4000000 in
theorem fields_get_uint64.calls (K : Nat) (a0 : ByteArray) (a1 : Int) (a2 : Int) (a3 : Bool)  (r : Int × Bool) (w : World)  (h : fields_get_uint64.f K a0 a1 a2 a3 = some r) :
    Calls Tryd.prog 77 #[.string a0, .int .i64 a1, .int .i64 a2, .bool a3] w (fun e W' => e = .returned (.tuple #[.int .u64 r.1, .bool r.2]) ∧ Wd w W' [] [] ) := by
  refine sxstart (n := 52) (l := [(0, .string a0), (1, .int .i64 a1), (2, .int .i64 a2), (3, .bool a3)]) Tryd.func77 rfl rfl (Nat.le_of_ble_eq_true KR) (subsA_cons rfl (subsA_cons rfl (subsA_cons rfl (subsA_cons rfl (subsA_nil _))))) ?_
  intro a ha
  have HW := Wd.refl w
  unfold fields_get_uint64.f at h
  refine wp_seq_k (fun K670 hK671 => ?_)
  refine wp_region_lit ?_
  refine stepp ha 8 (.int .u64 0) KR KR ?_; clear ha a; intro a ha
  refine stepp ha 9 (.bool false) KR KR ?_; clear ha a; intro a ha
  refine endl ?_
  refine thenN (hK671 _ _ ?_); clear hK671
  refine wp_seq_k (fun K672 hK673 => ?_)
  refine wp_seq_k (fun K674 hK675 => ?_)
  refine wp_region_lit ?_
  refine stepp ha 13 (.int .i64 a2) KR KR ?_; clear ha a; intro a ha
  refine stepp ha 14 (.bool (decide (a2 < 1))) KR KR ?_; clear ha a; intro a ha
  refine stepp ha 15 (.bool (decide (a2 < 1))) KR KR ?_; clear ha a; intro a ha
  by_cases hp676 : a2 < 1
  · skip
    replace h := ite_pos' h hp676
    replace ha := ha.bool 15 KR (decide_eq_true hp676)
    refine stepo ha 16 KR ?_; clear ha a; intro a ha
    refine stepo ha 17 KR ?_; clear ha a; intro a ha
    refine stepp ha 18 (.bool true) KR KR ?_; clear ha a; intro a ha
    refine stepp ha 19 (.bool true) KR KR ?_; clear ha a; intro a ha
    refine stepo ha 20 KR ?_; clear ha a; intro a ha
    refine stepo ha 21 KR ?_; clear ha a; intro a ha
    refine stepp ha 22 (.bool true) KR KR ?_; clear ha a; intro a ha
    refine stepp ha 23 (.bool true) KR KR ?_; clear ha a; intro a ha
    refine stepo ha 24 KR ?_; clear ha a; intro a ha
    refine stepo ha 25 KR ?_; clear ha a; intro a ha
    refine stepo ha 26 KR ?_; clear ha a; intro a ha
    refine stepo ha 27 KR ?_; clear ha a; intro a ha
    refine stepo ha 28 KR ?_; clear ha a; intro a ha
    refine stepo ha 29 KR ?_; clear ha a; intro a ha
    refine stepp ha 30 (.bool true) KR KR ?_; clear ha a; intro a ha
    refine endl ?_
    refine thenN (hK675 _ _ ?_); clear hK675
    refine condT ha KR KR (t := true) (rfl) ?_
    refine wp_seq_k (fun K679 hK680 => ?_)
    refine wp_region_lit ?_
    refine stepp ha 8 (.int .u64 0) KR KR ?_; clear ha a; intro a ha
    refine stepp ha 9 (.bool false) KR KR ?_; clear ha a; intro a ha
    refine endl ?_
    refine thenN (hK680 _ _ ?_); clear hK680
    refine wp_ret ?_
    refine thenR ?_
    obtain rfl := Option.some.inj h
    exact finv ha _ _ rfl (.tmp (v := .int .u64 0) KR (.tmp (v := .bool false) KR .nil)) (.tuple #[.int .u64 0, .bool false]) rfl ⟨rfl, HW.pick [] [] (by decide) (by decide) rfl KR⟩
  · skip
    replace h := ite_neg' h hp676
    replace ha := ha.bool 15 KR (decide_eq_false hp676)
    refine stepp ha 16 (.int .i64 a2) KR KR ?_; clear ha a; intro a ha
    refine stepp ha 17 (.bool (decide (a2 > 8))) KR KR ?_; clear ha a; intro a ha
    refine stepp ha 18 (.bool (decide (a2 > 8))) KR KR ?_; clear ha a; intro a ha
    refine stepp ha 19 (.bool (decide (a2 > 8))) KR KR ?_; clear ha a; intro a ha
    by_cases hp677 : a2 > 8
    · skip
      replace h := ite_pos' h hp677
      replace ha := ha.bool 19 KR (decide_eq_true hp677)
      refine stepo ha 20 KR ?_; clear ha a; intro a ha
      refine stepo ha 21 KR ?_; clear ha a; intro a ha
      refine stepp ha 22 (.bool true) KR KR ?_; clear ha a; intro a ha
      refine stepp ha 23 (.bool true) KR KR ?_; clear ha a; intro a ha
      refine stepo ha 24 KR ?_; clear ha a; intro a ha
      refine stepo ha 25 KR ?_; clear ha a; intro a ha
      refine stepo ha 26 KR ?_; clear ha a; intro a ha
      refine stepo ha 27 KR ?_; clear ha a; intro a ha
      refine stepo ha 28 KR ?_; clear ha a; intro a ha
      refine stepo ha 29 KR ?_; clear ha a; intro a ha
      refine stepp ha 30 (.bool true) KR KR ?_; clear ha a; intro a ha
      refine endl ?_
      refine thenN (hK675 _ _ ?_); clear hK675
      refine condT ha KR KR (t := true) (rfl) ?_
      refine wp_seq_k (fun K681 hK682 => ?_)
      refine wp_region_lit ?_
      refine stepp ha 8 (.int .u64 0) KR KR ?_; clear ha a; intro a ha
      refine stepp ha 9 (.bool false) KR KR ?_; clear ha a; intro a ha
      refine endl ?_
      refine thenN (hK682 _ _ ?_); clear hK682
      refine wp_ret ?_
      refine thenR ?_
      obtain rfl := Option.some.inj h
      exact finv ha _ _ rfl (.tmp (v := .int .u64 0) KR (.tmp (v := .bool false) KR .nil)) (.tuple #[.int .u64 0, .bool false]) rfl ⟨rfl, HW.pick [] [] (by decide) (by decide) rfl KR⟩
    · skip
      replace h := ite_neg' h hp677
      replace ha := ha.bool 19 KR (decide_eq_false hp677)
      refine stepp ha 20 (.int .i64 a1) KR KR ?_; clear ha a; intro a ha
      refine stepp ha 21 (.bool (decide (a1 < 0))) KR KR ?_; clear ha a; intro a ha
      refine stepp ha 22 (.bool (decide (a1 < 0))) KR KR ?_; clear ha a; intro a ha
      refine stepp ha 23 (.bool (decide (a1 < 0))) KR KR ?_; clear ha a; intro a ha
      by_cases hp678 : a1 < 0
      · skip
        replace h := ite_pos' h hp678
        replace ha := ha.bool 23 KR (decide_eq_true hp678)
        refine stepo ha 24 KR ?_; clear ha a; intro a ha
        refine stepo ha 25 KR ?_; clear ha a; intro a ha
        refine stepo ha 26 KR ?_; clear ha a; intro a ha
        refine stepo ha 27 KR ?_; clear ha a; intro a ha
        refine stepo ha 28 KR ?_; clear ha a; intro a ha
        refine stepo ha 29 KR ?_; clear ha a; intro a ha
        refine stepp ha 30 (.bool true) KR KR ?_; clear ha a; intro a ha
        refine endl ?_
        refine thenN (hK675 _ _ ?_); clear hK675
        refine condT ha KR KR (t := true) (rfl) ?_
        refine wp_seq_k (fun K683 hK684 => ?_)
        refine wp_region_lit ?_
        refine stepp ha 8 (.int .u64 0) KR KR ?_; clear ha a; intro a ha
        refine stepp ha 9 (.bool false) KR KR ?_; clear ha a; intro a ha
        refine endl ?_
        refine thenN (hK684 _ _ ?_); clear hK684
        refine wp_ret ?_
        refine thenR ?_
        obtain rfl := Option.some.inj h
        exact finv ha _ _ rfl (.tmp (v := .int .u64 0) KR (.tmp (v := .bool false) KR .nil)) (.tuple #[.int .u64 0, .bool false]) rfl ⟨rfl, HW.pick [] [] (by decide) (by decide) rfl KR⟩
      · skip
        replace h := ite_neg' h hp678
        replace ha := ha.bool 23 KR (decide_eq_false hp678)
        refine stepp ha 24 (.int .i64 a1) KR KR ?_; clear ha a; intro a ha
        refine stepp ha 25 (.string a0) KR KR ?_; clear ha a; intro a ha
        refine stepp ha 26 (.int .i64 (a0.size : Int)) KR KR ?_; clear ha a; intro a ha
        refine stepp ha 27 (.int .i64 a2) KR KR ?_; clear ha a; intro a ha
        refine stepp ha 28 (.int .i64 (IntKind.wrap .i64 ((a0.size : Int) - a2))) KR KR ?_; clear ha a; intro a ha
        refine stepp ha 29 (.bool (decide (a1 > (IntKind.wrap .i64 ((a0.size : Int) - a2))))) KR KR ?_; clear ha a; intro a ha
        refine stepp ha 30 (.bool (decide (a1 > (IntKind.wrap .i64 ((a0.size : Int) - a2))))) KR KR ?_; clear ha a; intro a ha
        refine endl ?_
        refine thenN (hK675 _ _ ?_); clear hK675
        by_cases hp685 : a1 > (IntKind.wrap .i64 ((a0.size : Int) - a2))
        · skip
          replace h := ite_pos' h hp685
          refine condT ha KR KR (t := decide (a1 > (IntKind.wrap .i64 ((a0.size : Int) - a2)))) (decide_eq_true hp685) ?_
          refine wp_seq_k (fun K686 hK687 => ?_)
          refine wp_region_lit ?_
          refine stepp ha 8 (.int .u64 0) KR KR ?_; clear ha a; intro a ha
          refine stepp ha 9 (.bool false) KR KR ?_; clear ha a; intro a ha
          refine endl ?_
          refine thenN (hK687 _ _ ?_); clear hK687
          refine wp_ret ?_
          refine thenR ?_
          obtain rfl := Option.some.inj h
          exact finv ha _ _ rfl (.tmp (v := .int .u64 0) KR (.tmp (v := .bool false) KR .nil)) (.tuple #[.int .u64 0, .bool false]) rfl ⟨rfl, HW.pick [] [] (by decide) (by decide) rfl KR⟩
        · skip
          replace h := ite_neg' h hp685
          refine condF ha KR KR (t := decide (a1 > (IntKind.wrap .i64 ((a0.size : Int) - a2)))) (decide_eq_false hp685) ?_
          refine wp_skip ?_
          refine thenN (hK673 _ _ ?_); clear hK673
          refine wp_seq_k (fun K688 hK689 => ?_)
          refine wp_region_lit ?_
          refine stepp ha 10 (.int .u64 0) KR KR ?_; clear ha a; intro a ha
          refine endl ?_
          refine thenN (hK689 _ _ ?_); clear hK689
          refine wp_seq_k (fun K690 hK691 => ?_)
          refine wp_seq_k (fun K692 hK693 => ?_)
          refine wp_region_lit ?_
          refine stepp ha 31 (.int .i64 a2) KR KR ?_; clear ha a; intro a ha
          refine stepp ha 32 (.bool a3) KR KR ?_; clear ha a; intro a ha
          obtain ⟨t694, ht695, h_⟩ := bind_some' h; clear h; have h := h_; clear h_
          refine stepc ha 33 KR KR (fields_shifts.calls K a2 a3 t694 _ ht695) ?_; clear ha a; rintro e W699 ⟨A696, c697, rfl, HX700⟩
          refine ⟨_, rfl, ?_⟩; intro a ha; replace HW := HW.callw HX700; clear HX700
          refine stepp ha 34 (.int .i64 (t694.length : Int)) KR KR ?_; clear ha a; intro a ha
          refine stepp ha 35 (.int .i64 0) KR KR ?_; clear ha a; intro a ha
          refine endl ?_
          refine thenN (hK693 _ _ ?_); clear hK693
          refine wp_block ?_
          refine loopk (fun k => fun a W740 => ∃ (x738 : Int), ∃ (x739 : Int), fields_get_uint64.l0 K a0 a1 t694 k x738 x739 = some r ∧ Has 52 [(0, .string a0), (1, .int .i64 a1), (10, .int .u64 x738), (33, .slice A696 t694.length c697), (34, .int .i64 (t694.length : Int)), (35, .int .i64 x739)] a ∧ Wd w W740 [] [⟨3, 1, .slice A696 t694.length c697, t694.length, encs (encI .i64) t694⟩]) K ?_ ?_
          · skip
            exact ⟨0, 0, h, ha.sub (subs_cons KR (subs_cons KR (subs_cons KR (subs_cons KR (subs_cons KR (subs_cons KR (subs_nil _))))))), HW.pick [] [0] (by decide) (by decide) KR KR⟩
          · skip
            intro k a W740 hI
            obtain ⟨x738, x739, h, ha, HW⟩ := hI
            cases k with
            | zero => exact (none_some (show none = some r from h)).elim
            | succ k741 =>
              replace h : fields_get_uint64.b0 K a0 a1 t694 (fields_get_uint64.l0 K a0 a1 t694 k741) x738 x739 = some r := h
              obtain ⟨again737, hag742⟩ : ∃ g_, g_ = fields_get_uint64.l0 K a0 a1 t694 k741 := ⟨_, rfl⟩
              rw [← hag742] at h
              unfold fields_get_uint64.b0 at h
              refine wp_seq_k (fun K743 hK744 => ?_)
              refine wp_region_lit ?_
              refine stepp ha 36 (.bool (decide (x739 < (t694.length : Int)))) KR KR ?_; clear ha a; intro a ha
              refine endl ?_
              refine thenN (hK744 _ _ ?_); clear hK744
              refine wp_seq_k (fun K745 hK746 => ?_)
              by_cases hp747 : x739 < (t694.length : Int)
              · skip
                replace h := ite_pos' h hp747
                refine condT ha KR KR (t := decide (x739 < (t694.length : Int))) (decide_eq_true hp747) ?_
                refine wp_skip ?_
                refine thenN (hK746 _ _ ?_); clear hK746
                refine wp_seq_k (fun K748 hK749 => ?_)
                refine wp_block ?_
                refine wp_seq_k (fun K750 hK751 => ?_)
                refine wp_region_lit ?_
                refine stepp ha 37 (.int .i64 x739) KR KR ?_; clear ha a; intro a ha
                obtain ⟨hA752, h_⟩ := asrt_some h; clear h; have h := h_; clear h_
                refine stepie (encI .i64) (0 : Int) ha 38 (fun _ => rfl) (v := .slice A696 t694.length c697) (xs := t694) (HW.rdo (i := 0) (q := ⟨3, 1, .slice A696 t694.length c697, t694.length, encs (encI .i64) t694⟩) KR) 143 3 (.tmp 33) (.tmp 35) .i64 x739 rfl KR KR KR KR hA752 (show (x739 : Int) < ((t694).length : Int) from hp747) KR ?_; clear ha a; intro b753 off754 a hC755 ha
                refine stepl ha 39 hC755 3 0 (.tmp 38) (.int .i64 (rdL (0 : Int) t694 x739)) rfl KR KR KR ?_; clear ha a; intro a ha
                refine stepp ha 11 (.int .i64 x739) KR KR ?_; clear ha a; intro a ha
                refine stepp ha 12 (.int .i64 (rdL (0 : Int) t694 x739)) KR KR ?_; clear ha a; intro a ha
                refine endl ?_
                refine thenN (hK751 _ _ ?_); clear hK751
                refine wp_region_lit ?_
                refine stepp ha 40 (.int .u64 x738) KR KR ?_; clear ha a; intro a ha
                refine stepp ha 41 (.string a0) KR KR ?_; clear ha a; intro a ha
                refine stepp ha 42 (.int .i64 a1) KR KR ?_; clear ha a; intro a ha
                refine stepp ha 43 (.int .i64 x739) KR KR ?_; clear ha a; intro a ha
                refine stepp ha 44 (.int .i64 (IntKind.wrap .i64 (a1 + x739))) KR KR ?_; clear ha a; intro a ha
                obtain ⟨hA756, h_⟩ := asrt_some h; clear h; have h := h_; clear h_
                obtain ⟨hA757, h_⟩ := asrt_some h; clear h; have h := h_; clear h_
                refine stepsi ha 45 9 (.tmp 41) (.tmp 44) a0 .i64 (IntKind.wrap .i64 (a1 + x739)) rfl KR KR KR hA756 (show (IntKind.wrap .i64 (a1 + x739) : Int) < ((a0).size : Int) from hA757) KR ?_; clear ha a; intro a ha
                refine stepp ha 46 (.int .u64 (IntKind.wrap .u64 (bt a0 (IntKind.wrap .i64 (a1 + x739))))) KR KR ?_; clear ha a; intro a ha
                refine stepp ha 47 (.int .i64 (rdL (0 : Int) t694 x739)) KR KR ?_; clear ha a; intro a ha
                obtain ⟨hA758, h_⟩ := asrt_some h; clear h; have h := h_; clear h_
                refine stepshl ha 48 42 3 (.tmp 46) (.tmp 47) .u64 .i64 (IntKind.wrap .u64 (bt a0 (IntKind.wrap .i64 (a1 + x739)))) (rdL (0 : Int) t694 x739) rfl KR KR hA758 KR ?_; clear ha a; intro a ha
                refine stepp ha 49 (.int .u64 (bor .u64 x738 (sshl .u64 (IntKind.wrap .u64 (bt a0 (IntKind.wrap .i64 (a1 + x739)))) (rdL (0 : Int) t694 x739)))) KR KR ?_; clear ha a; intro a ha
                refine stepp ha 10 (.int .u64 (bor .u64 x738 (sshl .u64 (IntKind.wrap .u64 (bt a0 (IntKind.wrap .i64 (a1 + x739)))) (rdL (0 : Int) t694 x739)))) KR KR ?_; clear ha a; intro a ha
                refine endl ?_
                refine blkN ?_
                refine thenN (hK749 _ _ ?_); clear hK749
                refine wp_region_lit ?_
                refine stepp ha 50 (.int .i64 (IntKind.wrap .i64 (x739 + 1))) KR KR ?_; clear ha a; intro a ha
                refine stepp ha 35 (.int .i64 (IntKind.wrap .i64 (x739 + 1))) KR KR ?_; clear ha a; intro a ha
                refine endl ?_
                exact thenN ⟨k741, Nat.lt_succ_self k741, bor .u64 x738 (sshl .u64 (IntKind.wrap .u64 (bt a0 (IntKind.wrap .i64 (a1 + x739)))) (rdL (0 : Int) t694 x739)), IntKind.wrap .i64 (x739 + 1), (by rw [← hag742]; exact h), ha.sub (subs_cons KR (subs_cons KR (subs_cons KR (subs_cons KR (subs_cons KR (subs_cons KR (subs_nil _))))))), HW.pick [] [0] (by decide) (by decide) KR KR⟩
              · skip
                replace h := ite_neg' h hp747
                refine condF ha KR KR (t := decide (x739 < (t694.length : Int))) (decide_eq_false hp747) ?_
                refine wp_exit ?_
                refine thenE ?_
                refine thenE ?_
                refine inBlk ?_
                refine thenN (hK691 _ _ ?_); clear hK691
                refine wp_seq_k (fun K759 hK760 => ?_)
                refine wp_region_lit ?_
                refine stepp ha 51 (.int .u64 x738) KR KR ?_; clear ha a; intro a ha
                refine stepp ha 8 (.int .u64 x738) KR KR ?_; clear ha a; intro a ha
                refine stepp ha 9 (.bool true) KR KR ?_; clear ha a; intro a ha
                refine endl ?_
                refine thenN (hK760 _ _ ?_); clear hK760
                refine wp_ret ?_
                obtain rfl := Option.some.inj h
                exact finv ha _ _ rfl (.tmp (v := .int .u64 x738) KR (.tmp (v := .bool true) KR .nil)) (.tuple #[.int .u64 x738, .bool true]) rfl ⟨rfl, HW.pick [] [] (by decide) (by decide) rfl KR⟩
/-! ### headgate/fields.Little: function 44 -/
def fields_Little.f (K : Nat) (a0 : ByteArray) (a1 : Int) (a2 : Int) : Option (Int × Bool) :=
  (fields_get_uint64.f K a0 a1 a2 false).bind fun t765 => (some (t765.1, t765.2))
set_option maxRecDepth 100000 in
set_option maxHeartbeats 4000000 in
theorem fields_Little.calls (K : Nat) (a0 : ByteArray) (a1 : Int) (a2 : Int)  (r : Int × Bool) (w : World)  (h : fields_Little.f K a0 a1 a2 = some r) :
    Calls Tryd.prog 44 #[.string a0, .int .i64 a1, .int .i64 a2] w (fun e W' => e = .returned (.tuple #[.int .u64 r.1, .bool r.2]) ∧ Wd w W' [] [] ) := by
  refine sxstart (n := 14) (l := [(0, .string a0), (1, .int .i64 a1), (2, .int .i64 a2)]) Tryd.func44 rfl rfl (Nat.le_of_ble_eq_true KR) (subsA_cons rfl (subsA_cons rfl (subsA_cons rfl (subsA_nil _)))) ?_
  intro a ha
  have HW := Wd.refl w
  unfold fields_Little.f at h
  refine wp_seq_k (fun K761 hK762 => ?_)
  refine wp_region_lit ?_
  refine stepp ha 6 (.int .u64 0) KR KR ?_; clear ha a; intro a ha
  refine stepp ha 7 (.bool false) KR KR ?_; clear ha a; intro a ha
  refine endl ?_
  refine thenN (hK762 _ _ ?_); clear hK762
  refine wp_seq_k (fun K763 hK764 => ?_)
  refine wp_region_lit ?_
  refine stepp ha 8 (.string a0) KR KR ?_; clear ha a; intro a ha
  refine stepp ha 9 (.int .i64 a1) KR KR ?_; clear ha a; intro a ha
  refine stepp ha 10 (.int .i64 a2) KR KR ?_; clear ha a; intro a ha
  obtain ⟨t765, ht766, h_⟩ := bind_some' h; clear h; have h := h_; clear h_
  refine stepc ha 11 KR KR (fields_get_uint64.calls K a0 a1 a2 false t765 _ ht766) ?_; clear ha a; rintro e W767 ⟨rfl, HX768⟩
  refine ⟨_, rfl, ?_⟩; intro a ha; replace HW := HW.callw HX768; clear HX768
  refine stepp ha 12 (.int .u64 t765.1) KR KR ?_; clear ha a; intro a ha
  refine stepp ha 13 (.bool t765.2) KR KR ?_; clear ha a; intro a ha
  refine stepp ha 6 (.int .u64 t765.1) KR KR ?_; clear ha a; intro a ha
  refine stepp ha 7 (.bool t765.2) KR KR ?_; clear ha a; intro a ha
  refine endl ?_
  refine thenN (hK764 _ _ ?_); clear hK764
  refine wp_ret ?_
  obtain rfl := Option.some.inj h
  exact finv ha _ _ rfl (.tmp (v := .int .u64 t765.1) KR (.tmp (v := .bool t765.2) KR .nil)) (.tuple #[.int .u64 t765.1, .bool t765.2]) rfl ⟨rfl, HW.pick [] [] (by decide) (by decide) rfl KR⟩
/-! ### headgate/fields.Bits: function 57 -/
def fields_Bits.f (a0 : Int) (a1 : Int) (a2 : Int) : Option Int :=
  if a1 < 0 then (some 0) else (if a2 < 1 then (some 0) else (if a2 > 64 then (some 0) else (if a1 > (IntKind.wrap .i64 (64 - a2)) then (some 0) else (asrt (0 ≤ (IntKind.wrap .i64 ((IntKind.wrap .i64 (64 - a2)) - a1))) (asrt (0 ≤ (IntKind.wrap .i64 (64 - a2))) (some (sshr .u64 (sshl .u64 a0 (IntKind.wrap .i64 ((IntKind.wrap .i64 (64 - a2)) - a1))) (IntKind.wrap .i64 (64 - a2)))))))))
set_option maxRecDepth 100000 in
set_option maxHeartbeats 4000000 in
theorem fields_Bits.calls (a0 : Int) (a1 : Int) (a2 : Int)  (r : Int) (w : World)  (h : fields_Bits.f a0 a1 a2 = some r) :
    Calls Tryd.prog 57 #[.int .u64 a0, .int .i64 a1, .int .i64 a2] w (fun e W' => e = .returned (.int .u64 r) ∧ Wd w W' [] [] ) := by
  refine sxstart (n := 32) (l := [(0, .int .u64 a0), (1, .int .i64 a1), (2, .int .i64 a2)]) Tryd.func57 rfl rfl (Nat.le_of_ble_eq_true KR) (subsA_cons rfl (subsA_cons rfl (subsA_cons rfl (subsA_nil _)))) ?_
  intro a ha
  have HW := Wd.refl w
  unfold fields_Bits.f at h
  refine wp_seq_k (fun K769 hK770 => ?_)
  refine wp_region_lit ?_
  refine stepp ha 6 (.int .u64 0) KR KR ?_; clear ha a; intro a ha
  refine endl ?_
  refine thenN (hK770 _ _ ?_); clear hK770
  refine wp_seq_k (fun K771 hK772 => ?_)
  refine wp_seq_k (fun K773 hK774 => ?_)
  refine wp_region_lit ?_
  refine stepp ha 7 (.int .i64 a1) KR KR ?_; clear ha a; intro a ha
  refine stepp ha 8 (.bool (decide (a1 < 0))) KR KR ?_; clear ha a; intro a ha
  refine stepp ha 9 (.bool (decide (a1 < 0))) KR KR ?_; clear ha a; intro a ha
  by_cases hp775 : a1 < 0
  · skip
    replace h := ite_pos' h hp775
    replace ha := ha.bool 9 KR (decide_eq_true hp775)
    refine stepo ha 10 KR ?_; clear ha a; intro a ha
    refine stepo ha 11 KR ?_; clear ha a; intro a ha
    refine stepp ha 12 (.bool true) KR KR ?_; clear ha a; intro a ha
    refine stepp ha 13 (.bool true) KR KR ?_; clear ha a; intro a ha
    refine stepo ha 14 KR ?_; clear ha a; intro a ha
    refine stepo ha 15 KR ?_; clear ha a; intro a ha
    refine stepp ha 16 (.bool true) KR KR ?_; clear ha a; intro a ha
    refine stepp ha 17 (.bool true) KR KR ?_; clear ha a; intro a ha
    refine stepo ha 18 KR ?_; clear ha a; intro a ha
    refine stepo ha 19 KR ?_; clear ha a; intro a ha
    refine stepo ha 20 KR ?_; clear ha a; intro a ha
    refine stepo ha 21 KR ?_; clear ha a; intro a ha
    refine stepp ha 22 (.bool true) KR KR ?_; clear ha a; intro a ha
    refine endl ?_
    refine thenN (hK774 _ _ ?_); clear hK774
    refine condT ha KR KR (t := true) (rfl) ?_
    refine wp_seq_k (fun K778 hK779 => ?_)
    refine wp_region_lit ?_
    refine stepp ha 6 (.int .u64 0) KR KR ?_; clear ha a; intro a ha
    refine endl ?_
    refine thenN (hK779 _ _ ?_); clear hK779
    refine wp_ret ?_
    refine thenR ?_
    obtain rfl := Option.some.inj h
    exact finv ha _ _ rfl (.tmp (v := .int .u64 0) KR .nil) (.int .u64 0) rfl ⟨rfl, HW.pick [] [] (by decide) (by decide) rfl KR⟩
  · skip
    replace h := ite_neg' h hp775
    replace ha := ha.bool 9 KR (decide_eq_false hp775)
    refine stepp ha 10 (.int .i64 a2) KR KR ?_; clear ha a; intro a ha
    refine stepp ha 11 (.bool (decide (a2 < 1))) KR KR ?_; clear ha a; intro a ha
    refine stepp ha 12 (.bool (decide (a2 < 1))) KR KR ?_; clear ha a; intro a ha
    refine stepp ha 13 (.bool (decide (a2 < 1))) KR KR ?_; clear ha a; intro a ha
    by_cases hp776 : a2 < 1
    · skip
      replace h := ite_pos' h hp776
      replace ha := ha.bool 13 KR (decide_eq_true hp776)
      refine stepo ha 14 KR ?_; clear ha a; intro a ha
      refine stepo ha 15 KR ?_; clear ha a; intro a ha
      refine stepp ha 16 (.bool true) KR KR ?_; clear ha a; intro a ha
      refine stepp ha 17 (.bool true) KR KR ?_; clear ha a; intro a ha
      refine stepo ha 18 KR ?_; clear ha a; intro a ha
      refine stepo ha 19 KR ?_; clear ha a; intro a ha
      refine stepo ha 20 KR ?_; clear ha a; intro a ha
      refine stepo ha 21 KR ?_; clear ha a; intro a ha
      refine stepp ha 22 (.bool true) KR KR ?_; clear ha a; intro a ha
      refine endl ?_
      refine thenN (hK774 _ _ ?_); clear hK774
      refine condT ha KR KR (t := true) (rfl) ?_
      refine wp_seq_k (fun K780 hK781 => ?_)
      refine wp_region_lit ?_
      refine stepp ha 6 (.int .u64 0) KR KR ?_; clear ha a; intro a ha
      refine endl ?_
      refine thenN (hK781 _ _ ?_); clear hK781
      refine wp_ret ?_
      refine thenR ?_
      obtain rfl := Option.some.inj h
      exact finv ha _ _ rfl (.tmp (v := .int .u64 0) KR .nil) (.int .u64 0) rfl ⟨rfl, HW.pick [] [] (by decide) (by decide) rfl KR⟩
    · skip
      replace h := ite_neg' h hp776
      replace ha := ha.bool 13 KR (decide_eq_false hp776)
      refine stepp ha 14 (.int .i64 a2) KR KR ?_; clear ha a; intro a ha
      refine stepp ha 15 (.bool (decide (a2 > 64))) KR KR ?_; clear ha a; intro a ha
      refine stepp ha 16 (.bool (decide (a2 > 64))) KR KR ?_; clear ha a; intro a ha
      refine stepp ha 17 (.bool (decide (a2 > 64))) KR KR ?_; clear ha a; intro a ha
      by_cases hp777 : a2 > 64
      · skip
        replace h := ite_pos' h hp777
        replace ha := ha.bool 17 KR (decide_eq_true hp777)
        refine stepo ha 18 KR ?_; clear ha a; intro a ha
        refine stepo ha 19 KR ?_; clear ha a; intro a ha
        refine stepo ha 20 KR ?_; clear ha a; intro a ha
        refine stepo ha 21 KR ?_; clear ha a; intro a ha
        refine stepp ha 22 (.bool true) KR KR ?_; clear ha a; intro a ha
        refine endl ?_
        refine thenN (hK774 _ _ ?_); clear hK774
        refine condT ha KR KR (t := true) (rfl) ?_
        refine wp_seq_k (fun K782 hK783 => ?_)
        refine wp_region_lit ?_
        refine stepp ha 6 (.int .u64 0) KR KR ?_; clear ha a; intro a ha
        refine endl ?_
        refine thenN (hK783 _ _ ?_); clear hK783
        refine wp_ret ?_
        refine thenR ?_
        obtain rfl := Option.some.inj h
        exact finv ha _ _ rfl (.tmp (v := .int .u64 0) KR .nil) (.int .u64 0) rfl ⟨rfl, HW.pick [] [] (by decide) (by decide) rfl KR⟩
      · skip
        replace h := ite_neg' h hp777
        replace ha := ha.bool 17 KR (decide_eq_false hp777)
        refine stepp ha 18 (.int .i64 a1) KR KR ?_; clear ha a; intro a ha
        refine stepp ha 19 (.int .i64 a2) KR KR ?_; clear ha a; intro a ha
        refine stepp ha 20 (.int .i64 (IntKind.wrap .i64 (64 - a2))) KR KR ?_; clear ha a; intro a ha
        refine stepp ha 21 (.bool (decide (a1 > (IntKind.wrap .i64 (64 - a2))))) KR KR ?_; clear ha a; intro a ha
        refine stepp ha 22 (.bool (decide (a1 > (IntKind.wrap .i64 (64 - a2))))) KR KR ?_; clear ha a; intro a ha
        refine endl ?_
        refine thenN (hK774 _ _ ?_); clear hK774
        by_cases hp784 : a1 > (IntKind.wrap .i64 (64 - a2))
        · skip
          replace h := ite_pos' h hp784
          refine condT ha KR KR (t := decide (a1 > (IntKind.wrap .i64 (64 - a2)))) (decide_eq_true hp784) ?_
          refine wp_seq_k (fun K785 hK786 => ?_)
          refine wp_region_lit ?_
          refine stepp ha 6 (.int .u64 0) KR KR ?_; clear ha a; intro a ha
          refine endl ?_
          refine thenN (hK786 _ _ ?_); clear hK786
          refine wp_ret ?_
          refine thenR ?_
          obtain rfl := Option.some.inj h
          exact finv ha _ _ rfl (.tmp (v := .int .u64 0) KR .nil) (.int .u64 0) rfl ⟨rfl, HW.pick [] [] (by decide) (by decide) rfl KR⟩
        · skip
          replace h := ite_neg' h hp784
          refine condF ha KR KR (t := decide (a1 > (IntKind.wrap .i64 (64 - a2)))) (decide_eq_false hp784) ?_
          refine wp_skip ?_
          refine thenN (hK772 _ _ ?_); clear hK772
          refine wp_seq_k (fun K787 hK788 => ?_)
          refine wp_region_lit ?_
          refine stepp ha 23 (.int .u64 a0) KR KR ?_; clear ha a; intro a ha
          refine stepp ha 24 (.int .i64 a2) KR KR ?_; clear ha a; intro a ha
          refine stepp ha 25 (.int .i64 (IntKind.wrap .i64 (64 - a2))) KR KR ?_; clear ha a; intro a ha
          refine stepp ha 26 (.int .i64 a1) KR KR ?_; clear ha a; intro a ha
          refine stepp ha 27 (.int .i64 (IntKind.wrap .i64 ((IntKind.wrap .i64 (64 - a2)) - a1))) KR KR ?_; clear ha a; intro a ha
          obtain ⟨hA789, h_⟩ := asrt_some h; clear h; have h := h_; clear h_
          refine stepshl ha 28 42 3 (.tmp 23) (.tmp 27) .u64 .i64 a0 (IntKind.wrap .i64 ((IntKind.wrap .i64 (64 - a2)) - a1)) rfl KR KR hA789 KR ?_; clear ha a; intro a ha
          refine stepp ha 29 (.int .i64 a2) KR KR ?_; clear ha a; intro a ha
          refine stepp ha 30 (.int .i64 (IntKind.wrap .i64 (64 - a2))) KR KR ?_; clear ha a; intro a ha
          obtain ⟨hA790, h_⟩ := asrt_some h; clear h; have h := h_; clear h_
          refine stepshr ha 31 42 3 (.tmp 28) (.tmp 30) .u64 .i64 (sshl .u64 a0 (IntKind.wrap .i64 ((IntKind.wrap .i64 (64 - a2)) - a1))) (IntKind.wrap .i64 (64 - a2)) rfl KR KR hA790 KR ?_; clear ha a; intro a ha
          refine stepp ha 6 (.int .u64 (sshr .u64 (sshl .u64 a0 (IntKind.wrap .i64 ((IntKind.wrap .i64 (64 - a2)) - a1))) (IntKind.wrap .i64 (64 - a2)))) KR KR ?_; clear ha a; intro a ha
          refine endl ?_
          refine thenN (hK788 _ _ ?_); clear hK788
          refine wp_ret ?_
          obtain rfl := Option.some.inj h
          exact finv ha _ _ rfl (.tmp (v := .int .u64 (sshr .u64 (sshl .u64 a0 (IntKind.wrap .i64 ((IntKind.wrap .i64 (64 - a2)) - a1))) (IntKind.wrap .i64 (64 - a2)))) KR .nil) (.int .u64 (sshr .u64 (sshl .u64 a0 (IntKind.wrap .i64 ((IntKind.wrap .i64 (64 - a2)) - a1))) (IntKind.wrap .i64 (64 - a2)))) rfl ⟨rfl, HW.pick [] [] (by decide) (by decide) rfl KR⟩
/-! ### headgate/fields.Bit: function 58 -/
def fields_Bit.f (a0 : Int) (a1 : Int) : Option Bool :=
  if a1 ≥ 0 then (if a1 < 64 then (asrt (0 ≤ a1) (some ((band .u64 (sshr .u64 a0 a1) 1) == 1))) else (some false)) else (some false)
set_option maxRecDepth 100000 in
set_option maxHeartbeats 4000000 in
theorem fields_Bit.calls (a0 : Int) (a1 : Int)  (r : Bool) (w : World)  (h : fields_Bit.f a0 a1 = some r) :
    Calls Tryd.prog 58 #[.int .u64 a0, .int .i64 a1] w (fun e W' => e = .returned (.bool r) ∧ Wd w W' [] [] ) := by
  refine sxstart (n := 18) (l := [(0, .int .u64 a0), (1, .int .i64 a1)]) Tryd.func58 rfl rfl (Nat.le_of_ble_eq_true KR) (subsA_cons rfl (subsA_cons rfl (subsA_nil _))) ?_
  intro a ha
  have HW := Wd.refl w
  unfold fields_Bit.f at h
  refine wp_seq_k (fun K791 hK792 => ?_)
  refine wp_region_lit ?_
  refine stepp ha 4 (.bool false) KR KR ?_; clear ha a; intro a ha
  refine endl ?_
  refine thenN (hK792 _ _ ?_); clear hK792
  refine wp_seq_k (fun K793 hK794 => ?_)
  refine wp_region_lit ?_
  refine stepp ha 5 (.int .i64 a1) KR KR ?_; clear ha a; intro a ha
  refine stepp ha 6 (.bool (decide (a1 ≥ 0))) KR KR ?_; clear ha a; intro a ha
  refine stepp ha 7 (.bool (decide (a1 ≥ 0))) KR KR ?_; clear ha a; intro a ha
  by_cases hp795 : a1 ≥ 0
  · skip
    replace h := ite_pos' h hp795
    replace ha := ha.bool 7 KR (decide_eq_true hp795)
    refine stepp ha 8 (.int .i64 a1) KR KR ?_; clear ha a; intro a ha
    refine stepp ha 9 (.bool (decide (a1 < 64))) KR KR ?_; clear ha a; intro a ha
    refine stepp ha 10 (.bool (decide (a1 < 64))) KR KR ?_; clear ha a; intro a ha
    refine stepp ha 11 (.bool (decide (a1 < 64))) KR KR ?_; clear ha a; intro a ha
    by_cases hp796 : a1 < 64
    · skip
      replace h := ite_pos' h hp796
      replace ha := ha.bool 11 KR (decide_eq_true hp796)
      refine stepp ha 12 (.int .u64 a0) KR KR ?_; clear ha a; intro a ha
      refine stepp ha 13 (.int .i64 a1) KR KR ?_; clear ha a; intro a ha
      obtain ⟨hA797, h_⟩ := asrt_some h; clear h; have h := h_; clear h_
      refine stepshr ha 14 42 3 (.tmp 12) (.tmp 13) .u64 .i64 a0 a1 rfl KR KR hA797 KR ?_; clear ha a; intro a ha
      refine stepp ha 15 (.int .u64 (band .u64 (sshr .u64 a0 a1) 1)) KR KR ?_; clear ha a; intro a ha
      refine stepp ha 16 (.bool ((band .u64 (sshr .u64 a0 a1) 1) == 1)) KR KR ?_; clear ha a; intro a ha
      refine stepp ha 17 (.bool ((band .u64 (sshr .u64 a0 a1) 1) == 1)) KR KR ?_; clear ha a; intro a ha
      refine stepp ha 4 (.bool ((band .u64 (sshr .u64 a0 a1) 1) == 1)) KR KR ?_; clear ha a; intro a ha
      refine endl ?_
      refine thenN (hK794 _ _ ?_); clear hK794
      refine wp_ret ?_
      obtain rfl := Option.some.inj h
      exact finv ha _ _ rfl (.tmp (v := .bool ((band .u64 (sshr .u64 a0 a1) 1) == 1)) KR .nil) (.bool ((band .u64 (sshr .u64 a0 a1) 1) == 1)) rfl ⟨rfl, HW.pick [] [] (by decide) (by decide) rfl KR⟩
    · skip
      replace h := ite_neg' h hp796
      replace ha := ha.bool 11 KR (decide_eq_false hp796)
      refine stepo ha 12 KR ?_; clear ha a; intro a ha
      refine stepo ha 13 KR ?_; clear ha a; intro a ha
      refine stepo ha 14 KR ?_; clear ha a; intro a ha
      refine stepo ha 15 KR ?_; clear ha a; intro a ha
      refine stepo ha 16 KR ?_; clear ha a; intro a ha
      refine stepp ha 17 (.bool false) KR KR ?_; clear ha a; intro a ha
      refine stepp ha 4 (.bool false) KR KR ?_; clear ha a; intro a ha
      refine endl ?_
      refine thenN (hK794 _ _ ?_); clear hK794
      refine wp_ret ?_
      obtain rfl := Option.some.inj h
      exact finv ha _ _ rfl (.tmp (v := .bool false) KR .nil) (.bool false) rfl ⟨rfl, HW.pick [] [] (by decide) (by decide) rfl KR⟩
  · skip
    replace h := ite_neg' h hp795
    replace ha := ha.bool 7 KR (decide_eq_false hp795)
    refine stepo ha 8 KR ?_; clear ha a; intro a ha
    refine stepo ha 9 KR ?_; clear ha a; intro a ha
    refine stepp ha 10 (.bool false) KR KR ?_; clear ha a; intro a ha
    refine stepp ha 11 (.bool false) KR KR ?_; clear ha a; intro a ha
    refine stepo ha 12 KR ?_; clear ha a; intro a ha
    refine stepo ha 13 KR ?_; clear ha a; intro a ha
    refine stepo ha 14 KR ?_; clear ha a; intro a ha
    refine stepo ha 15 KR ?_; clear ha a; intro a ha
    refine stepo ha 16 KR ?_; clear ha a; intro a ha
    refine stepp ha 17 (.bool false) KR KR ?_; clear ha a; intro a ha
    refine stepp ha 4 (.bool false) KR KR ?_; clear ha a; intro a ha
    refine endl ?_
    refine thenN (hK794 _ _ ?_); clear hK794
    refine wp_ret ?_
    obtain rfl := Option.some.inj h
    exact finv ha _ _ rfl (.tmp (v := .bool false) KR .nil) (.bool false) rfl ⟨rfl, HW.pick [] [] (by decide) (by decide) rfl KR⟩
/-! ### headgate/nresv.Change: function 24 -/
def nresv_Change.j1 (K : Nat) (a1 : Int) (x856 : Int) (t898 : Int × Bool) (x968 : Int) (x969 : Bool) (x970 : Int) (x971 : Int) (x972 : Int) (x973 : Bool) (x974 : Int) : Option (T_api_Cmd × Int) :=
  if x969 = true then (if (bandNot .u32 a1 x968) = 0 then (some ((⟨x856, 0, (⟨#[]⟩ : ByteArray), 0, 0, (⟨#[]⟩ : ByteArray), false, ([] : List T_api_Range), t898.1, x970, x971, x972, x973, x974⟩ : T_api_Cmd), 0)) else (some ((⟨0, 0, (⟨#[]⟩ : ByteArray), 0, 0, (⟨#[]⟩ : ByteArray), false, ([] : List T_api_Range), 0, 0, 0, 0, false, 0⟩ : T_api_Cmd), 180))) else (some ((⟨0, 0, (⟨#[]⟩ : ByteArray), 0, 0, (⟨#[]⟩ : ByteArray), false, ([] : List T_api_Range), 0, 0, 0, 0, false, 0⟩ : T_api_Cmd), 180))
def nresv_Change.j0 (K : Nat) (a1 : Int) (x856 : Int) (t898 : Int × Bool) (t924 : Bool) (x942 : Bool) (x943 : Int) : Option (T_api_Cmd × Int) :=
  if x942 = true then (nresv_Change.j1 K a1 x856 t898 3221225487 (decide ((rdL (0 : Int) G_nresv_aptpls (a1.fdiv 1073741824)) ≥ 0)) x943 0 0 t924 (rdL (0 : Int) G_nresv_aptpls (a1.fdiv 1073741824))) else (nresv_Change.j1 K a1 x856 t898 3221225487 false x943 0 0 t924 (rdL (0 : Int) G_nresv_aptpls (a1.fdiv 1073741824)))
def nresv_Change.b0 (K : Nat) (a0 : Int) (a1 : Int) (a2 : ByteArray) (t804 : Int) (again854 : Int → Int → Option (T_api_Cmd × Int)) (x855 : Int) (x856 : Int) : Option (T_api_Cmd × Int) :=
  if x855 < 7 then (asrt (0 ≤ x855) (if ((rdL T_nresv_action.z G_nresv_actions x855).f0) = a0 then (if ((rdL T_nresv_action.z G_nresv_actions x855).f1) = (IntKind.wrap .i64 t804) then (again854 (IntKind.wrap .i64 (x855 + 1)) ((rdL T_nresv_action.z G_nresv_actions x855).f2)) else (again854 (IntKind.wrap .i64 (x855 + 1)) x856)) else (again854 (IntKind.wrap .i64 (x855 + 1)) x856))) else (if x856 = 0 then (some ((⟨0, 0, (⟨#[]⟩ : ByteArray), 0, 0, (⟨#[]⟩ : ByteArray), false, ([] : List T_api_Range), 0, 0, 0, 0, false, 0⟩ : T_api_Cmd), 180)) else ((nresv_Size.f a0).bind fun t883 => (if (a2.size : Int) = t883 then ((fields_Little.f K a2 0 8).bind fun t898 => ((fields_Little.f K a2 8 8).bind fun t905 => (if x856 = 8 then ((fields_Bit.f (IntKind.wrap .u64 a1) 3).bind fun t924 => (asrt (0 ≤ (a1.fdiv 1073741824)) (asrt ((a1.fdiv 1073741824) < 4) (if (IntKind.wrap .i64 t804) = 1 then (nresv_Change.j0 K a1 x856 t898 t924 true 0) else (nresv_Change.j0 K a1 x856 t898 t924 (t905.1 != 0) t905.1))))) else (if x856 = 11 then (nresv_Change.j1 K a1 x856 t898 7 true 0 0 0 false 0) else ((fields_Bits.f (IntKind.wrap .u64 a1) 8 8).bind fun t953 => ((access_Type.f (IntKind.wrap .i64 t953)).bind fun t960 => (if x856 = 12 then (nresv_Change.j1 K a1 x856 t898 65287 t960 0 t905.1 (IntKind.wrap .i64 t953) false 0) else (nresv_Change.j1 K a1 x856 t898 65287 t960 0 0 (IntKind.wrap .i64 t953) false 0)))))))) else (some ((⟨0, 0, (⟨#[]⟩ : ByteArray), 0, 0, (⟨#[]⟩ : ByteArray), false, ([] : List T_api_Range), 0, 0, 0, 0, false, 0⟩ : T_api_Cmd), 180)))))
def nresv_Change.l0 (K : Nat) (a0 : Int) (a1 : Int) (a2 : ByteArray) (t804 : Int) : Nat → Int → Int → Option (T_api_Cmd × Int)
  | 0, _, _ => none
  | k_ + 1, x855, x856 => nresv_Change.b0 K a0 a1 a2 t804 (nresv_Change.l0 K a0 a1 a2 t804 k_) x855 x856
def nresv_Change.f (K : Nat) (a0 : Int) (a1 : Int) (a2 : ByteArray) : Option (T_api_Cmd × Int) :=
  (fields_Bits.f (IntKind.wrap .u64 a1) 0 3).bind fun t804 => (nresv_Change.l0 K a0 a1 a2 t804 K 0 0)
set_option maxRecDepth 100000 in
set_option maxHeartbeats 4000000 in
theorem nresv_Change.calls (K : Nat) (a0 : Int) (a1 : Int) (a2 : ByteArray)  (r : T_api_Cmd × Int) (w : World) (hG1 : CA w 1 0 (encs T_nresv_action.enc G_nresv_actions).toArray) (hG2 : CA w 2 0 (encs (encI .i64) G_nresv_aptpls).toArray) (h : nresv_Change.f K a0 a1 a2 = some r) :
    Calls Tryd.prog 24 #[.int .i64 a0, .int .u32 a1, .string a2] w (fun e W' => ∃ A_0 c_0, e = .returned (.tuple #[.agg #[.int .i64 r.1.f0, .int .i64 r.1.f1, .string r.1.f2, .int .i64 r.1.f3, .int .i64 r.1.f4, .string r.1.f5, .bool r.1.f6, .slice A_0 r.1.f7.length c_0, .int .u64 r.1.f8, .int .u64 r.1.f9, .int .u64 r.1.f10, .int .i64 r.1.f11, .bool r.1.f12, .int .i64 r.1.f13], .int .i64 r.2]) ∧ Wd w W' [] [⟨128, 2, .slice A_0 r.1.f7.length c_0, r.1.f7.length, encs T_api_Range.enc r.1.f7⟩] ) := by
  refine sxstart (n := 114) (l := [(0, .int .i64 a0), (1, .int .u32 a1), (2, .string a2)]) Tryd.func24 rfl rfl (Nat.le_of_ble_eq_true KR) (subsA_cons rfl (subsA_cons rfl (subsA_cons rfl (subsA_nil _)))) ?_
  intro a ha
  have HW := Wd.refl w
  unfold nresv_Change.f at h
  refine wp_seq_k (fun K798 hK799 => ?_)
  refine wp_region_lit ?_
  refine stepnew ha HW 6 #[.int .i64 0, .int .i64 0, .string (⟨#[]⟩ : ByteArray), .int .i64 0, .int .i64 0, .string (⟨#[]⟩ : ByteArray), .bool false, .slice none 0 0, .int .u64 0, .int .u64 0, .int .u64 0, .int .i64 0, .bool false, .int .i64 0] 49 KR KR ?_; clear ha HW a; intro b800 a W801 HW ha
  refine stepp ha 7 (.int .i64 0) KR KR ?_; clear ha a; intro a ha
  refine endl ?_
  refine thenN (hK799 _ _ ?_); clear hK799
  refine wp_seq_k (fun K802 hK803 => ?_)
  refine wp_region_lit ?_
  refine stepp ha 16 (.int .u32 a1) KR KR ?_; clear ha a; intro a ha
  refine stepp ha 17 (.int .u64 (IntKind.wrap .u64 a1)) KR KR ?_; clear ha a; intro a ha
  obtain ⟨t804, ht805, h_⟩ := bind_some' h; clear h; have h := h_; clear h_
  refine stepc ha 18 KR KR (fields_Bits.calls (IntKind.wrap .u64 a1) 0 3 t804 _ ht805) ?_; clear ha a; rintro e W806 ⟨rfl, HX807⟩
  refine ⟨_, rfl, ?_⟩; intro a ha; replace HW := HW.callw HX807; clear HX807
  refine stepp ha 19 (.int .i64 (IntKind.wrap .i64 t804)) KR KR ?_; clear ha a; intro a ha
  refine stepp ha 8 (.int .i64 (IntKind.wrap .i64 t804)) KR KR ?_; clear ha a; intro a ha
  refine endl ?_
  refine thenN (hK803 _ _ ?_); clear hK803
  refine wp_seq_k (fun K808 hK809 => ?_)
  refine wp_region_lit ?_
  refine stepnew ha HW 9 #[.int .i64 0, .int .i64 0, .string (⟨#[]⟩ : ByteArray), .int .i64 0, .int .i64 0, .string (⟨#[]⟩ : ByteArray), .bool false, .slice none 0 0, .int .u64 0, .int .u64 0, .int .u64 0, .int .i64 0, .bool false, .int .i64 0] 49 KR KR ?_; clear ha HW a; intro b810 a W811 HW ha
  refine endl ?_
  refine thenN (hK809 _ _ ?_); clear hK809
  refine wp_seq_k (fun K812 hK813 => ?_)
  refine wp_seq_k (fun K814 hK815 => ?_)
  refine wp_region_lit ?_
  refine stepl ha 20 (HW.ca0 hG1) 105 0 (.global 1) (.agg (encs T_nresv_action.enc G_nresv_actions).toArray) rfl KR KR KR ?_; clear ha a; intro a ha
  refine stepp ha 21 (.int .i64 0) KR KR ?_; clear ha a; intro a ha
  refine endl ?_
  refine thenN (hK815 _ _ ?_); clear hK815
  refine wp_block ?_
  refine loopk (fun k => fun a W857 => ∃ (x855 : Int), ∃ (x856 : Int), nresv_Change.l0 K a0 a1 a2 t804 k x855 x856 = some r ∧ Has 114 [(0, .int .i64 a0), (1, .int .u32 a1), (2, .string a2), (6, .pointer (some ⟨b800, 0, none⟩)), (8, .int .i64 (IntKind.wrap .i64 t804)), (9, .pointer (some ⟨b810, 0, none⟩)), (20, .agg (encs T_nresv_action.enc G_nresv_actions).toArray), (21, .int .i64 x855)] a ∧ Wd w W857 [(b810, .cells #[.int .i64 x856, .int .i64 0, .string (⟨#[]⟩ : ByteArray), .int .i64 0, .int .i64 0, .string (⟨#[]⟩ : ByteArray), .bool false, .slice none 0 0, .int .u64 0, .int .u64 0, .int .u64 0, .int .i64 0, .bool false, .int .i64 0] 49 (0, 0)), (b800, .cells #[.int .i64 0, .int .i64 0, .string (⟨#[]⟩ : ByteArray), .int .i64 0, .int .i64 0, .string (⟨#[]⟩ : ByteArray), .bool false, .slice none 0 0, .int .u64 0, .int .u64 0, .int .u64 0, .int .i64 0, .bool false, .int .i64 0] 49 (0, 0))] []) K ?_ ?_
  · skip
    exact ⟨0, 0, h, ha.sub (subs_cons KR (subs_cons KR (subs_cons KR (subs_cons KR (subs_cons KR (subs_cons KR (subs_cons KR (subs_cons KR (subs_nil _))))))))), HW.pick [0, 1] [] (by decide) (by decide) KR KR⟩
  · skip
    intro k a W857 hI
    obtain ⟨x855, x856, h, ha, HW⟩ := hI
    cases k with
    | zero => exact (none_some (show none = some r from h)).elim
    | succ k858 =>
      replace h : nresv_Change.b0 K a0 a1 a2 t804 (nresv_Change.l0 K a0 a1 a2 t804 k858) x855 x856 = some r := h
      obtain ⟨again854, hag859⟩ : ∃ g_, g_ = nresv_Change.l0 K a0 a1 a2 t804 k858 := ⟨_, rfl⟩
      rw [← hag859] at h
      unfold nresv_Change.b0 at h
      refine wp_seq_k (fun K860 hK861 => ?_)
      refine wp_region_lit ?_
      refine stepp ha 22 (.bool (decide (x855 < 7))) KR KR ?_; clear ha a; intro a ha
      refine endl ?_
      refine thenN (hK861 _ _ ?_); clear hK861
      refine wp_seq_k (fun K862 hK863 => ?_)
      by_cases hp864 : x855 < 7
      · skip
        replace h := ite_pos' h hp864
        refine condT ha KR KR (t := decide (x855 < 7)) (decide_eq_true hp864) ?_
        refine wp_skip ?_
        refine thenN (hK863 _ _ ?_); clear hK863
        refine wp_seq_k (fun K865 hK866 => ?_)
        refine wp_block ?_
        refine wp_seq_k (fun K867 hK868 => ?_)
        refine wp_region_lit ?_
        obtain ⟨hA869, h_⟩ := asrt_some h; clear h; have h := h_; clear h_
        refine stepag T_nresv_action.enc T_nresv_action.z ha 23 105 7 104 (.tmp 20) (.tmp 21) .i64 x855 G_nresv_actions (.agg #[.int .i64 ((rdL T_nresv_action.z G_nresv_actions x855).f0), .int .i64 ((rdL T_nresv_action.z G_nresv_actions x855).f1), .int .i64 ((rdL T_nresv_action.z G_nresv_actions x855).f2)]) rfl KR KR KR KR (fun _ => rfl) hA869 hp864 KR rfl ?_; clear ha a; intro a ha
        refine stepnew ha HW 11 #[.int .i64 0, .int .i64 0, .int .i64 0] 104 KR KR ?_; clear ha HW a; intro b870 a W871 HW ha
        refine stepst ha HW 0 (b := b870) (C := #[.int .i64 0, .int .i64 0, .int .i64 0]) (T := 104) KR 104 0 (.tmp 11) (.tmp 23) (.agg #[.int .i64 ((rdL T_nresv_action.z G_nresv_actions x855).f0), .int .i64 ((rdL T_nresv_action.z G_nresv_actions x855).f1), .int .i64 ((rdL T_nresv_action.z G_nresv_actions x855).f2)]) #[.int .i64 ((rdL T_nresv_action.z G_nresv_actions x855).f0), .int .i64 ((rdL T_nresv_action.z G_nresv_actions x855).f1), .int .i64 ((rdL T_nresv_action.z G_nresv_actions x855).f2)] rfl KR KR KR KR KR KR KR ?_; clear ha HW a; intro a W872 HW ha
        refine endl ?_
        refine thenN (hK868 _ _ ?_); clear hK868
        refine wp_seq_k (fun K873 hK874 => ?_)
        refine wp_region_lit ?_
        refine stepp ha 24 (.pointer (some ⟨b870, 0, none⟩)) KR KR ?_; clear ha a; intro a ha
        refine stepl ha 25 (HW.ca (i := 0) (b := b870) (C := #[.int .i64 ((rdL T_nresv_action.z G_nresv_actions x855).f0), .int .i64 ((rdL T_nresv_action.z G_nresv_actions x855).f1), .int .i64 ((rdL T_nresv_action.z G_nresv_actions x855).f2)]) (T := 104) (fr := (0, 0)) KR) 3 0 (.tmp 24) (.int .i64 ((rdL T_nresv_action.z G_nresv_actions x855).f0)) rfl KR KR KR ?_; clear ha a; intro a ha
        refine stepp ha 26 (.int .i64 a0) KR KR ?_; clear ha a; intro a ha
        refine stepp ha 27 (.bool (((rdL T_nresv_action.z G_nresv_actions x855).f0) == a0)) KR KR ?_; clear ha a; intro a ha
        refine stepp ha 28 (.bool (((rdL T_nresv_action.z G_nresv_actions x855).f0) == a0)) KR KR ?_; clear ha a; intro a ha
        by_cases hp875 : ((rdL T_nresv_action.z G_nresv_actions x855).f0) = a0
        · skip
          replace h := ite_pos' h hp875
          replace ha := ha.bool 28 KR (ieq_t hp875)
          refine stepp ha 29 (.pointer (some ⟨b870, 1, none⟩)) KR KR ?_; clear ha a; intro a ha
          refine stepl ha 30 (HW.ca (i := 0) (b := b870) (C := #[.int .i64 ((rdL T_nresv_action.z G_nresv_actions x855).f0), .int .i64 ((rdL T_nresv_action.z G_nresv_actions x855).f1), .int .i64 ((rdL T_nresv_action.z G_nresv_actions x855).f2)]) (T := 104) (fr := (0, 0)) KR) 3 1 (.tmp 29) (.int .i64 ((rdL T_nresv_action.z G_nresv_actions x855).f1)) rfl KR KR KR ?_; clear ha a; intro a ha
          refine stepp ha 31 (.int .i64 (IntKind.wrap .i64 t804)) KR KR ?_; clear ha a; intro a ha
          refine stepp ha 32 (.bool (((rdL T_nresv_action.z G_nresv_actions x855).f1) == (IntKind.wrap .i64 t804))) KR KR ?_; clear ha a; intro a ha
          refine stepp ha 33 (.bool (((rdL T_nresv_action.z G_nresv_actions x855).f1) == (IntKind.wrap .i64 t804))) KR KR ?_; clear ha a; intro a ha
          refine endl ?_
          refine thenN (hK874 _ _ ?_); clear hK874
          by_cases hp876 : ((rdL T_nresv_action.z G_nresv_actions x855).f1) = (IntKind.wrap .i64 t804)
          · skip
            replace h := ite_pos' h hp876
            refine condT ha KR KR (t := (((rdL T_nresv_action.z G_nresv_actions x855).f1) == (IntKind.wrap .i64 t804))) (ieq_t hp876) ?_
            refine wp_region_lit ?_
            refine stepp ha 34 (.pointer (some ⟨b870, 2, none⟩)) KR KR ?_; clear ha a; intro a ha
            refine stepl ha 35 (HW.ca (i := 0) (b := b870) (C := #[.int .i64 ((rdL T_nresv_action.z G_nresv_actions x855).f0), .int .i64 ((rdL T_nresv_action.z G_nresv_actions x855).f1), .int .i64 ((rdL T_nresv_action.z G_nresv_actions x855).f2)]) (T := 104) (fr := (0, 0)) KR) 3 2 (.tmp 34) (.int .i64 ((rdL T_nresv_action.z G_nresv_actions x855).f2)) rfl KR KR KR ?_; clear ha a; intro a ha
            refine stepp ha 36 (.pointer (some ⟨b810, 0, none⟩)) KR KR ?_; clear ha a; intro a ha
            refine stepst ha HW 1 (b := b810) (C := #[.int .i64 x856, .int .i64 0, .string (⟨#[]⟩ : ByteArray), .int .i64 0, .int .i64 0, .string (⟨#[]⟩ : ByteArray), .bool false, .slice none 0 0, .int .u64 0, .int .u64 0, .int .u64 0, .int .i64 0, .bool false, .int .i64 0]) (T := 49) KR 3 0 (.tmp 36) (.tmp 35) (.int .i64 ((rdL T_nresv_action.z G_nresv_actions x855).f2)) #[.int .i64 ((rdL T_nresv_action.z G_nresv_actions x855).f2), .int .i64 0, .string (⟨#[]⟩ : ByteArray), .int .i64 0, .int .i64 0, .string (⟨#[]⟩ : ByteArray), .bool false, .slice none 0 0, .int .u64 0, .int .u64 0, .int .u64 0, .int .i64 0, .bool false, .int .i64 0] rfl KR KR KR KR KR KR KR ?_; clear ha HW a; intro a W877 HW ha
            refine endl ?_
            refine blkN ?_
            refine thenN (hK866 _ _ ?_); clear hK866
            refine wp_region_lit ?_
            refine stepp ha 37 (.int .i64 (IntKind.wrap .i64 (x855 + 1))) KR KR ?_; clear ha a; intro a ha
            refine stepp ha 21 (.int .i64 (IntKind.wrap .i64 (x855 + 1))) KR KR ?_; clear ha a; intro a ha
            refine endl ?_
            exact thenN ⟨k858, Nat.lt_succ_self k858, IntKind.wrap .i64 (x855 + 1), (rdL T_nresv_action.z G_nresv_actions x855).f2, (by rw [← hag859]; exact h), ha.sub (subs_cons KR (subs_cons KR (subs_cons KR (subs_cons KR (subs_cons KR (subs_cons KR (subs_cons KR (subs_cons KR (subs_nil _))))))))), HW.pick [1, 2] [] (by decide) (by decide) KR KR⟩
          · skip
            replace h := ite_neg' h hp876
            refine condF ha KR KR (t := (((rdL T_nresv_action.z G_nresv_actions x855).f1) == (IntKind.wrap .i64 t804))) (ieq_f hp876) ?_
            refine wp_skip ?_
            refine blkN ?_
            refine thenN (hK866 _ _ ?_); clear hK866
            refine wp_region_lit ?_
            refine stepp ha 37 (.int .i64 (IntKind.wrap .i64 (x855 + 1))) KR KR ?_; clear ha a; intro a ha
            refine stepp ha 21 (.int .i64 (IntKind.wrap .i64 (x855 + 1))) KR KR ?_; clear ha a; intro a ha
            refine endl ?_
            exact thenN ⟨k858, Nat.lt_succ_self k858, IntKind.wrap .i64 (x855 + 1), x856, (by rw [← hag859]; exact h), ha.sub (subs_cons KR (subs_cons KR (subs_cons KR (subs_cons KR (subs_cons KR (subs_cons KR (subs_cons KR (subs_cons KR (subs_nil _))))))))), HW.pick [1, 2] [] (by decide) (by decide) KR KR⟩
        · skip
          replace h := ite_neg' h hp875
          replace ha := ha.bool 28 KR (ieq_f hp875)
          refine stepo ha 29 KR ?_; clear ha a; intro a ha
          refine stepo ha 30 KR ?_; clear ha a; intro a ha
          refine stepo ha 31 KR ?_; clear ha a; intro a ha
          refine stepo ha 32 KR ?_; clear ha a; intro a ha
          refine stepp ha 33 (.bool false) KR KR ?_; clear ha a; intro a ha
          refine endl ?_
          refine thenN (hK874 _ _ ?_); clear hK874
          refine condF ha KR KR (t := false) (rfl) ?_
          refine wp_skip ?_
          refine blkN ?_
          refine thenN (hK866 _ _ ?_); clear hK866
          refine wp_region_lit ?_
          refine stepp ha 37 (.int .i64 (IntKind.wrap .i64 (x855 + 1))) KR KR ?_; clear ha a; intro a ha
          refine stepp ha 21 (.int .i64 (IntKind.wrap .i64 (x855 + 1))) KR KR ?_; clear ha a; intro a ha
          refine endl ?_
          exact thenN ⟨k858, Nat.lt_succ_self k858, IntKind.wrap .i64 (x855 + 1), x856, (by rw [← hag859]; exact h), ha.sub (subs_cons KR (subs_cons KR (subs_cons KR (subs_cons KR (subs_cons KR (subs_cons KR (subs_cons KR (subs_cons KR (subs_nil _))))))))), HW.pick [1, 2] [] (by decide) (by decide) KR KR⟩
      · skip
        replace h := ite_neg' h hp864
        refine condF ha KR KR (t := decide (x855 < 7)) (decide_eq_false hp864) ?_
        refine wp_exit ?_
        refine thenE ?_
        refine thenE ?_
        refine inBlk ?_
        refine thenN (hK813 _ _ ?_); clear hK813
        refine wp_seq_k (fun K878 hK879 => ?_)
        refine wp_seq_k (fun K880 hK881 => ?_)
        refine wp_region_lit ?_
        refine stepp ha 38 (.pointer (some ⟨b810, 0, none⟩)) KR KR ?_; clear ha a; intro a ha
        refine stepl ha 39 (HW.ca (i := 0) (b := b810) (C := #[.int .i64 x856, .int .i64 0, .string (⟨#[]⟩ : ByteArray), .int .i64 0, .int .i64 0, .string (⟨#[]⟩ : ByteArray), .bool false, .slice none 0 0, .int .u64 0, .int .u64 0, .int .u64 0, .int .i64 0, .bool false, .int .i64 0]) (T := 49) (fr := (0, 0)) KR) 3 0 (.tmp 38) (.int .i64 x856) rfl KR KR KR ?_; clear ha a; intro a ha
        refine stepp ha 40 (.bool (x856 == 0)) KR KR ?_; clear ha a; intro a ha
        refine stepp ha 41 (.bool (x856 == 0)) KR KR ?_; clear ha a; intro a ha
        by_cases hp882 : x856 = 0
        · skip
          replace h := ite_pos' h hp882
          replace ha := ha.bool 41 KR (ieq_t hp882)
          refine stepo ha 42 KR ?_; clear ha a; intro a ha
          refine stepo ha 43 KR ?_; clear ha a; intro a ha
          refine stepo ha 44 KR ?_; clear ha a; intro a ha
          refine stepo ha 45 KR ?_; clear ha a; intro a ha
          refine stepo ha 46 KR ?_; clear ha a; intro a ha
          refine stepp ha 47 (.bool true) KR KR ?_; clear ha a; intro a ha
          refine endl ?_
          refine thenN (hK881 _ _ ?_); clear hK881
          refine condT ha KR KR (t := true) (rfl) ?_
          refine wp_seq_k (fun K887 hK888 => ?_)
          refine wp_region_lit ?_
          refine stepp ha 48 (.agg #[.int .i64 0, .int .i64 0, .string (⟨#[]⟩ : ByteArray), .int .i64 0, .int .i64 0, .string (⟨#[]⟩ : ByteArray), .bool false, .slice none 0 0, .int .u64 0, .int .u64 0, .int .u64 0, .int .i64 0, .bool false, .int .i64 0]) KR KR ?_; clear ha a; intro a ha
          refine stepst ha HW 1 (b := b800) (C := #[.int .i64 0, .int .i64 0, .string (⟨#[]⟩ : ByteArray), .int .i64 0, .int .i64 0, .string (⟨#[]⟩ : ByteArray), .bool false, .slice none 0 0, .int .u64 0, .int .u64 0, .int .u64 0, .int .i64 0, .bool false, .int .i64 0]) (T := 49) KR 49 0 (.tmp 6) (.tmp 48) (.agg #[.int .i64 0, .int .i64 0, .string (⟨#[]⟩ : ByteArray), .int .i64 0, .int .i64 0, .string (⟨#[]⟩ : ByteArray), .bool false, .slice none 0 0, .int .u64 0, .int .u64 0, .int .u64 0, .int .i64 0, .bool false, .int .i64 0]) #[.int .i64 0, .int .i64 0, .string (⟨#[]⟩ : ByteArray), .int .i64 0, .int .i64 0, .string (⟨#[]⟩ : ByteArray), .bool false, .slice none 0 0, .int .u64 0, .int .u64 0, .int .u64 0, .int .i64 0, .bool false, .int .i64 0] rfl KR KR KR KR KR KR KR ?_; clear ha HW a; intro a W889 HW ha
          refine stepp ha 7 (.int .i64 180) KR KR ?_; clear ha a; intro a ha
          refine endl ?_
          refine thenN (hK888 _ _ ?_); clear hK888
          refine wp_ret ?_
          refine thenR ?_
          obtain rfl := Option.some.inj h
          replace HW := HW.nilo 128 2
          exact finv ha _ _ rfl (.cell (ad := ⟨b800, 0, none⟩) (v := .agg #[.int .i64 0, .int .i64 0, .string (⟨#[]⟩ : ByteArray), .int .i64 0, .int .i64 0, .string (⟨#[]⟩ : ByteArray), .bool false, .slice none 0 0, .int .u64 0, .int .u64 0, .int .u64 0, .int .i64 0, .bool false, .int .i64 0]) KR (run_loadVar_ca0 (HW.ca (i := 1) (b := b800) (C := #[.int .i64 0, .int .i64 0, .string (⟨#[]⟩ : ByteArray), .int .i64 0, .int .i64 0, .string (⟨#[]⟩ : ByteArray), .bool false, .slice none 0 0, .int .u64 0, .int .u64 0, .int .u64 0, .int .i64 0, .bool false, .int .i64 0]) (T := 49) (fr := (0, 0)) KR) 49 0 (.agg #[.int .i64 0, .int .i64 0, .string (⟨#[]⟩ : ByteArray), .int .i64 0, .int .i64 0, .string (⟨#[]⟩ : ByteArray), .bool false, .slice none 0 0, .int .u64 0, .int .u64 0, .int .u64 0, .int .i64 0, .bool false, .int .i64 0]) KR) (.tmp (v := .int .i64 180) KR .nil)) (.tuple #[.agg #[.int .i64 0, .int .i64 0, .string (⟨#[]⟩ : ByteArray), .int .i64 0, .int .i64 0, .string (⟨#[]⟩ : ByteArray), .bool false, .slice none 0 0, .int .u64 0, .int .u64 0, .int .u64 0, .int .i64 0, .bool false, .int .i64 0], .int .i64 180]) rfl ⟨none, 0, rfl, HW.pick [] [0] (by decide) (by decide) rfl KR⟩
        · skip
          replace h := ite_neg' h hp882
          replace ha := ha.bool 41 KR (ieq_f hp882)
          refine stepp ha 42 (.string a2) KR KR ?_; clear ha a; intro a ha
          refine stepp ha 43 (.int .i64 (a2.size : Int)) KR KR ?_; clear ha a; intro a ha
          refine stepp ha 44 (.int .i64 a0) KR KR ?_; clear ha a; intro a ha
          obtain ⟨t883, ht884, h_⟩ := bind_some' h; clear h; have h := h_; clear h_
          refine stepc ha 45 KR KR (nresv_Size.calls a0 t883 _ ht884) ?_; clear ha a; rintro e W885 ⟨rfl, HX886⟩
          refine ⟨_, rfl, ?_⟩; intro a ha; replace HW := HW.callw HX886; clear HX886
          refine stepp ha 46 (.bool ((a2.size : Int) != t883)) KR KR ?_; clear ha a; intro a ha
          refine stepp ha 47 (.bool ((a2.size : Int) != t883)) KR KR ?_; clear ha a; intro a ha
          refine endl ?_
          refine thenN (hK881 _ _ ?_); clear hK881
          by_cases hp891 : (a2.size : Int) = t883
          · skip
            replace h := ite_pos' h hp891
            refine condF ha KR KR (t := ((a2.size : Int) != t883)) (ineq_f hp891) ?_
            refine wp_skip ?_
            refine thenN (hK879 _ _ ?_); clear hK879
            refine wp_seq_k (fun K896 hK897 => ?_)
            refine wp_region_lit ?_
            refine stepp ha 50 (.string a2) KR KR ?_; clear ha a; intro a ha
            obtain ⟨t898, ht899, h_⟩ := bind_some' h; clear h; have h := h_; clear h_
            refine stepc ha 51 KR KR (fields_Little.calls K a2 0 8 t898 _ ht899) ?_; clear ha a; rintro e W900 ⟨rfl, HX901⟩
            refine ⟨_, rfl, ?_⟩; intro a ha; replace HW := HW.callw HX901; clear HX901
            refine stepp ha 49 (.tuple #[.int .u64 t898.1, .bool t898.2]) KR KR ?_; clear ha a; intro a ha
            refine stepp ha 52 (.int .u64 t898.1) KR KR ?_; clear ha a; intro a ha
            refine stepp ha 53 (.bool t898.2) KR KR ?_; clear ha a; intro a ha
            refine stepp ha 54 (.pointer (some ⟨b810, 8, none⟩)) KR KR ?_; clear ha a; intro a ha
            refine stepst ha HW 0 (b := b810) (C := #[.int .i64 x856, .int .i64 0, .string (⟨#[]⟩ : ByteArray), .int .i64 0, .int .i64 0, .string (⟨#[]⟩ : ByteArray), .bool false, .slice none 0 0, .int .u64 0, .int .u64 0, .int .u64 0, .int .i64 0, .bool false, .int .i64 0]) (T := 49) KR 42 8 (.tmp 54) (.tmp 52) (.int .u64 t898.1) #[.int .i64 x856, .int .i64 0, .string (⟨#[]⟩ : ByteArray), .int .i64 0, .int .i64 0, .string (⟨#[]⟩ : ByteArray), .bool false, .slice none 0 0, .int .u64 t898.1, .int .u64 0, .int .u64 0, .int .i64 0, .bool false, .int .i64 0] rfl KR KR KR KR KR KR KR ?_; clear ha HW a; intro a W902 HW ha
            refine endl ?_
            refine thenN (hK897 _ _ ?_); clear hK897
            refine wp_seq_k (fun K903 hK904 => ?_)
            refine wp_region_lit ?_
            refine stepp ha 56 (.string a2) KR KR ?_; clear ha a; intro a ha
            obtain ⟨t905, ht906, h_⟩ := bind_some' h; clear h; have h := h_; clear h_
            refine stepc ha 57 KR KR (fields_Little.calls K a2 8 8 t905 _ ht906) ?_; clear ha a; rintro e W907 ⟨rfl, HX908⟩
            refine ⟨_, rfl, ?_⟩; intro a ha; replace HW := HW.callw HX908; clear HX908
            refine stepp ha 55 (.tuple #[.int .u64 t905.1, .bool t905.2]) KR KR ?_; clear ha a; intro a ha
            refine stepp ha 58 (.int .u64 t905.1) KR KR ?_; clear ha a; intro a ha
            refine stepp ha 59 (.bool t905.2) KR KR ?_; clear ha a; intro a ha
            refine stepp ha 12 (.int .u64 t905.1) KR KR ?_; clear ha a; intro a ha
            refine stepp ha 13 (.bool t905.2) KR KR ?_; clear ha a; intro a ha
            refine endl ?_
            refine thenN (hK904 _ _ ?_); clear hK904
            refine wp_seq_k (fun K909 hK910 => ?_)
            refine wp_region_lit ?_
            refine stepp ha 14 (.int .u32 7) KR KR ?_; clear ha a; intro a ha
            refine endl ?_
            refine thenN (hK910 _ _ ?_); clear hK910
            refine wp_seq_k (fun K911 hK912 => ?_)
            refine wp_region_lit ?_
            refine stepp ha 15 (.bool true) KR KR ?_; clear ha a; intro a ha
            refine endl ?_
            refine thenN (hK912 _ _ ?_); clear hK912
            refine wp_seq_k (fun K913 hK914 => ?_)
            refine cutn (fun a W975 => ∃ (x968 : Int), ∃ (x969 : Bool), ∃ (x970 : Int), ∃ (x971 : Int), ∃ (x972 : Int), ∃ (x973 : Bool), ∃ (x974 : Int), nresv_Change.j1 K a1 x856 t898 x968 x969 x970 x971 x972 x973 x974 = some r ∧ Has 114 [(1, .int .u32 a1), (6, .pointer (some ⟨b800, 0, none⟩)), (9, .pointer (some ⟨b810, 0, none⟩)), (14, .int .u32 x968), (15, .bool x969)] a ∧ Wd w W975 [(b800, .cells #[.int .i64 0, .int .i64 0, .string (⟨#[]⟩ : ByteArray), .int .i64 0, .int .i64 0, .string (⟨#[]⟩ : ByteArray), .bool false, .slice none 0 0, .int .u64 0, .int .u64 0, .int .u64 0, .int .i64 0, .bool false, .int .i64 0] 49 (0, 0)), (b810, .cells #[.int .i64 x856, .int .i64 0, .string (⟨#[]⟩ : ByteArray), .int .i64 0, .int .i64 0, .string (⟨#[]⟩ : ByteArray), .bool false, .slice none 0 0, .int .u64 t898.1, .int .u64 x970, .int .u64 x971, .int .i64 x972, .bool x973, .int .i64 x974] 49 (0, 0))] []) ?_ ?_
            · skip
              refine wp_seq_k (fun K915 hK916 => ?_)
              refine wp_region_lit ?_
              refine stepp ha 60 (.pointer (some ⟨b810, 0, none⟩)) KR KR ?_; clear ha a; intro a ha
              refine stepl ha 61 (HW.ca (i := 0) (b := b810) (C := #[.int .i64 x856, .int .i64 0, .string (⟨#[]⟩ : ByteArray), .int .i64 0, .int .i64 0, .string (⟨#[]⟩ : ByteArray), .bool false, .slice none 0 0, .int .u64 t898.1, .int .u64 0, .int .u64 0, .int .i64 0, .bool false, .int .i64 0]) (T := 49) (fr := (0, 0)) KR) 3 0 (.tmp 60) (.int .i64 x856) rfl KR KR KR ?_; clear ha a; intro a ha
              refine endl ?_
              refine thenN (hK916 _ _ ?_); clear hK916
              refine wp_block ?_
              refine wp_seq_k (fun K917 hK918 => ?_)
              refine wp_region_lit ?_
              refine stepp ha 78 (.bool (x856 == 8)) KR KR ?_; clear ha a; intro a ha
              refine stepp ha 77 (.bool (x856 == 8)) KR KR ?_; clear ha a; intro a ha
              refine endl ?_
              refine thenN (hK918 _ _ ?_); clear hK918
              by_cases hp919 : x856 = 8
              · skip
                replace h := ite_pos' h hp919
                refine condT ha KR KR (t := (x856 == 8)) (ieq_t hp919) ?_
                refine wp_seq_k (fun K920 hK921 => ?_)
                refine wp_region_lit ?_
                refine stepp ha 79 (.int .u32 7) KR KR ?_; clear ha a; intro a ha
                refine stepp ha 80 (.int .u32 3221225487) KR KR ?_; clear ha a; intro a ha
                refine stepp ha 14 (.int .u32 3221225487) KR KR ?_; clear ha a; intro a ha
                refine endl ?_
                refine thenN (hK921 _ _ ?_); clear hK921
                refine wp_seq_k (fun K922 hK923 => ?_)
                refine wp_region_lit ?_
                refine stepp ha 81 (.int .u32 a1) KR KR ?_; clear ha a; intro a ha
                refine stepp ha 82 (.int .u64 (IntKind.wrap .u64 a1)) KR KR ?_; clear ha a; intro a ha
                obtain ⟨t924, ht925, h_⟩ := bind_some' h; clear h; have h := h_; clear h_
                refine stepc ha 83 KR KR (fields_Bit.calls (IntKind.wrap .u64 a1) 3 t924 _ ht925) ?_; clear ha a; rintro e W926 ⟨rfl, HX927⟩
                refine ⟨_, rfl, ?_⟩; intro a ha; replace HW := HW.callw HX927; clear HX927
                refine stepp ha 84 (.pointer (some ⟨b810, 12, none⟩)) KR KR ?_; clear ha a; intro a ha
                refine stepst ha HW 0 (b := b810) (C := #[.int .i64 x856, .int .i64 0, .string (⟨#[]⟩ : ByteArray), .int .i64 0, .int .i64 0, .string (⟨#[]⟩ : ByteArray), .bool false, .slice none 0 0, .int .u64 t898.1, .int .u64 0, .int .u64 0, .int .i64 0, .bool false, .int .i64 0]) (T := 49) KR 4 12 (.tmp 84) (.tmp 83) (.bool t924) #[.int .i64 x856, .int .i64 0, .string (⟨#[]⟩ : ByteArray), .int .i64 0, .int .i64 0, .string (⟨#[]⟩ : ByteArray), .bool false, .slice none 0 0, .int .u64 t898.1, .int .u64 0, .int .u64 0, .int .i64 0, .bool t924, .int .i64 0] rfl KR KR KR KR KR KR KR ?_; clear ha HW a; intro a W928 HW ha
                refine endl ?_
                refine thenN (hK923 _ _ ?_); clear hK923
                refine wp_seq_k (fun K929 hK930 => ?_)
                refine wp_region_lit ?_
                refine stepp ha 85 (.int .u32 a1) KR KR ?_; clear ha a; intro a ha
                refine stepp ha 86 (.int .u32 (a1.fdiv 1073741824)) KR KR ?_; clear ha a; intro a ha
                obtain ⟨hA931, h_⟩ := asrt_some h; clear h; have h := h_; clear h_
                obtain ⟨hA932, h_⟩ := asrt_some h; clear h; have h := h_; clear h_
                refine stepiw ha 87 (sz := 1) 2 0 107 4 3 (.global 2) (.tmp 86) .u32 (a1.fdiv 1073741824) rfl KR KR KR KR hA931 hA932 KR ?_; clear ha a; intro a ha
                refine stepl ha 88 (CA.el (encI .i64) (0 : Int) (fun _ => rfl) (HW.ca0 hG2) G_nresv_aptpls rfl (len := 4) rfl hA931 hA932) 3 0 (.tmp 87) (.int .i64 (rdL (0 : Int) G_nresv_aptpls (a1.fdiv 1073741824))) rfl KR KR KR ?_; clear ha a; intro a ha
                refine stepp ha 89 (.pointer (some ⟨b810, 13, none⟩)) KR KR ?_; clear ha a; intro a ha
                refine stepst ha HW 0 (b := b810) (C := #[.int .i64 x856, .int .i64 0, .string (⟨#[]⟩ : ByteArray), .int .i64 0, .int .i64 0, .string (⟨#[]⟩ : ByteArray), .bool false, .slice none 0 0, .int .u64 t898.1, .int .u64 0, .int .u64 0, .int .i64 0, .bool t924, .int .i64 0]) (T := 49) KR 3 13 (.tmp 89) (.tmp 88) (.int .i64 (rdL (0 : Int) G_nresv_aptpls (a1.fdiv 1073741824))) #[.int .i64 x856, .int .i64 0, .string (⟨#[]⟩ : ByteArray), .int .i64 0, .int .i64 0, .string (⟨#[]⟩ : ByteArray), .bool false, .slice none 0 0, .int .u64 t898.1, .int .u64 0, .int .u64 0, .int .i64 0, .bool t924, .int .i64 (rdL (0 : Int) G_nresv_aptpls (a1.fdiv 1073741824))] rfl KR KR KR KR KR KR KR ?_; clear ha HW a; intro a W933 HW ha
                refine endl ?_
                refine thenN (hK930 _ _ ?_); clear hK930
                refine wp_seq_k (fun K934 hK935 => ?_)
                refine cutn (fun a W944 => ∃ (x942 : Bool), ∃ (x943 : Int), nresv_Change.j0 K a1 x856 t898 t924 x942 x943 = some r ∧ Has 114 [(1, .int .u32 a1), (6, .pointer (some ⟨b800, 0, none⟩)), (9, .pointer (some ⟨b810, 0, none⟩)), (14, .int .u32 3221225487), (15, .bool x942)] a ∧ Wd w W944 [(b800, .cells #[.int .i64 0, .int .i64 0, .string (⟨#[]⟩ : ByteArray), .int .i64 0, .int .i64 0, .string (⟨#[]⟩ : ByteArray), .bool false, .slice none 0 0, .int .u64 0, .int .u64 0, .int .u64 0, .int .i64 0, .bool false, .int .i64 0] 49 (0, 0)), (b810, .cells #[.int .i64 x856, .int .i64 0, .string (⟨#[]⟩ : ByteArray), .int .i64 0, .int .i64 0, .string (⟨#[]⟩ : ByteArray), .bool false, .slice none 0 0, .int .u64 t898.1, .int .u64 x943, .int .u64 0, .int .i64 0, .bool t924, .int .i64 (rdL (0 : Int) G_nresv_aptpls (a1.fdiv 1073741824))] 49 (0, 0))] []) ?_ ?_
                · skip
                  refine wp_seq_k (fun K936 hK937 => ?_)
                  refine wp_region_lit ?_
                  refine stepp ha 90 (.int .i64 (IntKind.wrap .i64 t804)) KR KR ?_; clear ha a; intro a ha
                  refine stepp ha 91 (.bool ((IntKind.wrap .i64 t804) != 1)) KR KR ?_; clear ha a; intro a ha
                  refine endl ?_
                  refine thenN (hK937 _ _ ?_); clear hK937
                  by_cases hp938 : (IntKind.wrap .i64 t804) = 1
                  · skip
                    replace h := ite_pos' h hp938
                    refine condF ha KR KR (t := ((IntKind.wrap .i64 t804) != 1)) (ineq_f hp938) ?_
                    refine wp_skip ?_
                    exact thenN ⟨true, 0, h, ha.sub (subs_cons KR (subs_cons KR (subs_cons KR (subs_cons KR (subs_cons KR (subs_nil _)))))), HW.pick [1, 0] [] (by decide) (by decide) KR KR⟩
                  · skip
                    replace h := ite_neg' h hp938
                    refine condT ha KR KR (t := ((IntKind.wrap .i64 t804) != 1)) (ineq_t hp938) ?_
                    refine wp_seq_k (fun K939 hK940 => ?_)
                    refine wp_region_lit ?_
                    refine stepp ha 92 (.int .u64 t905.1) KR KR ?_; clear ha a; intro a ha
                    refine stepp ha 93 (.pointer (some ⟨b810, 9, none⟩)) KR KR ?_; clear ha a; intro a ha
                    refine stepst ha HW 0 (b := b810) (C := #[.int .i64 x856, .int .i64 0, .string (⟨#[]⟩ : ByteArray), .int .i64 0, .int .i64 0, .string (⟨#[]⟩ : ByteArray), .bool false, .slice none 0 0, .int .u64 t898.1, .int .u64 0, .int .u64 0, .int .i64 0, .bool t924, .int .i64 (rdL (0 : Int) G_nresv_aptpls (a1.fdiv 1073741824))]) (T := 49) KR 42 9 (.tmp 93) (.tmp 92) (.int .u64 t905.1) #[.int .i64 x856, .int .i64 0, .string (⟨#[]⟩ : ByteArray), .int .i64 0, .int .i64 0, .string (⟨#[]⟩ : ByteArray), .bool false, .slice none 0 0, .int .u64 t898.1, .int .u64 t905.1, .int .u64 0, .int .i64 0, .bool t924, .int .i64 (rdL (0 : Int) G_nresv_aptpls (a1.fdiv 1073741824))] rfl KR KR KR KR KR KR KR ?_; clear ha HW a; intro a W941 HW ha
                    refine endl ?_
                    refine thenN (hK940 _ _ ?_); clear hK940
                    refine wp_region_lit ?_
                    refine stepp ha 94 (.int .u64 t905.1) KR KR ?_; clear ha a; intro a ha
                    refine stepp ha 95 (.bool (t905.1 != 0)) KR KR ?_; clear ha a; intro a ha
                    refine stepp ha 15 (.bool (t905.1 != 0)) KR KR ?_; clear ha a; intro a ha
                    refine endl ?_
                    exact thenN ⟨(t905.1 != 0), t905.1, h, ha.sub (subs_cons KR (subs_cons KR (subs_cons KR (subs_cons KR (subs_cons KR (subs_nil _)))))), HW.pick [1, 0] [] (by decide) (by decide) KR KR⟩
                · skip
                  intro a W944 hJ
                  obtain ⟨x942, x943, h, ha, HW⟩ := hJ
                  replace h : nresv_Change.j0 K a1 x856 t898 t924 x942 x943 = some r := h
                  unfold nresv_Change.j0 at h
                  refine hK935 _ _ ?_; clear hK935
                  refine wp_region_lit ?_
                  refine stepp ha 96 (.bool x942) KR KR ?_; clear ha a; intro a ha
                  refine stepp ha 97 (.bool x942) KR KR ?_; clear ha a; intro a ha
                  by_cases hp945 : x942 = true
                  · skip
                    replace h := ite_pos' h hp945
                    replace ha := ha.bool 97 KR (hp945)
                    refine stepp ha 98 (.pointer (some ⟨b810, 13, none⟩)) KR KR ?_; clear ha a; intro a ha
                    refine stepl ha 99 (HW.ca (i := 1) (b := b810) (C := #[.int .i64 x856, .int .i64 0, .string (⟨#[]⟩ : ByteArray), .int .i64 0, .int .i64 0, .string (⟨#[]⟩ : ByteArray), .bool false, .slice none 0 0, .int .u64 t898.1, .int .u64 x943, .int .u64 0, .int .i64 0, .bool t924, .int .i64 (rdL (0 : Int) G_nresv_aptpls (a1.fdiv 1073741824))]) (T := 49) (fr := (0, 0)) KR) 3 13 (.tmp 98) (.int .i64 (rdL (0 : Int) G_nresv_aptpls (a1.fdiv 1073741824))) rfl KR KR KR ?_; clear ha a; intro a ha
                    refine stepp ha 100 (.bool (decide ((rdL (0 : Int) G_nresv_aptpls (a1.fdiv 1073741824)) ≥ 0))) KR KR ?_; clear ha a; intro a ha
                    refine stepp ha 101 (.bool (decide ((rdL (0 : Int) G_nresv_aptpls (a1.fdiv 1073741824)) ≥ 0))) KR KR ?_; clear ha a; intro a ha
                    refine stepp ha 15 (.bool (decide ((rdL (0 : Int) G_nresv_aptpls (a1.fdiv 1073741824)) ≥ 0))) KR KR ?_; clear ha a; intro a ha
                    refine endl ?_
                    refine blkN ?_
                    exact thenN ⟨3221225487, decide ((rdL (0 : Int) G_nresv_aptpls (a1.fdiv 1073741824)) ≥ 0), x943, 0, 0, t924, rdL (0 : Int) G_nresv_aptpls (a1.fdiv 1073741824), h, ha.sub (subs_cons KR (subs_cons KR (subs_cons KR (subs_cons KR (subs_cons KR (subs_nil _)))))), HW.pick [0, 1] [] (by decide) (by decide) KR KR⟩
                  · skip
                    replace h := ite_neg' h hp945
                    replace ha := ha.bool 97 KR (bool_f hp945)
                    refine stepo ha 98 KR ?_; clear ha a; intro a ha
                    refine stepo ha 99 KR ?_; clear ha a; intro a ha
                    refine stepo ha 100 KR ?_; clear ha a; intro a ha
                    refine stepp ha 101 (.bool false) KR KR ?_; clear ha a; intro a ha
                    refine stepp ha 15 (.bool false) KR KR ?_; clear ha a; intro a ha
                    refine endl ?_
                    refine blkN ?_
                    exact thenN ⟨3221225487, false, x943, 0, 0, t924, rdL (0 : Int) G_nresv_aptpls (a1.fdiv 1073741824), h, ha.sub (subs_cons KR (subs_cons KR (subs_cons KR (subs_cons KR (subs_cons KR (subs_nil _)))))), HW.pick [0, 1] [] (by decide) (by decide) KR KR⟩
              · skip
                replace h := ite_neg' h hp919
                refine condF ha KR KR (t := (x856 == 8)) (ieq_f hp919) ?_
                refine wp_seq_k (fun K946 hK947 => ?_)
                refine wp_region_lit ?_
                refine stepp ha 103 (.bool (x856 == 11)) KR KR ?_; clear ha a; intro a ha
                refine stepp ha 102 (.bool (x856 == 11)) KR KR ?_; clear ha a; intro a ha
                refine endl ?_
                refine thenN (hK947 _ _ ?_); clear hK947
                by_cases hp948 : x856 = 11
                · skip
                  replace h := ite_pos' h hp948
                  refine condT ha KR KR (t := (x856 == 11)) (ieq_t hp948) ?_
                  refine wp_skip ?_
                  refine blkN ?_
                  exact thenN ⟨7, true, 0, 0, 0, false, 0, h, ha.sub (subs_cons KR (subs_cons KR (subs_cons KR (subs_cons KR (subs_cons KR (subs_nil _)))))), HW.pick [1, 0] [] (by decide) (by decide) KR KR⟩
                · skip
                  replace h := ite_neg' h hp948
                  refine condF ha KR KR (t := (x856 == 11)) (ieq_f hp948) ?_
                  refine wp_seq_k (fun K949 hK950 => ?_)
                  refine wp_region_lit ?_
                  refine stepp ha 62 (.int .u32 7) KR KR ?_; clear ha a; intro a ha
                  refine stepp ha 63 (.int .u32 65287) KR KR ?_; clear ha a; intro a ha
                  refine stepp ha 14 (.int .u32 65287) KR KR ?_; clear ha a; intro a ha
                  refine endl ?_
                  refine thenN (hK950 _ _ ?_); clear hK950
                  refine wp_seq_k (fun K951 hK952 => ?_)
                  refine wp_region_lit ?_
                  refine stepp ha 64 (.int .u32 a1) KR KR ?_; clear ha a; intro a ha
                  refine stepp ha 65 (.int .u64 (IntKind.wrap .u64 a1)) KR KR ?_; clear ha a; intro a ha
                  obtain ⟨t953, ht954, h_⟩ := bind_some' h; clear h; have h := h_; clear h_
                  refine stepc ha 66 KR KR (fields_Bits.calls (IntKind.wrap .u64 a1) 8 8 t953 _ ht954) ?_; clear ha a; rintro e W955 ⟨rfl, HX956⟩
                  refine ⟨_, rfl, ?_⟩; intro a ha; replace HW := HW.callw HX956; clear HX956
                  refine stepp ha 67 (.int .i64 (IntKind.wrap .i64 t953)) KR KR ?_; clear ha a; intro a ha
                  refine stepp ha 68 (.pointer (some ⟨b810, 11, none⟩)) KR KR ?_; clear ha a; intro a ha
                  refine stepst ha HW 0 (b := b810) (C := #[.int .i64 x856, .int .i64 0, .string (⟨#[]⟩ : ByteArray), .int .i64 0, .int .i64 0, .string (⟨#[]⟩ : ByteArray), .bool false, .slice none 0 0, .int .u64 t898.1, .int .u64 0, .int .u64 0, .int .i64 0, .bool false, .int .i64 0]) (T := 49) KR 3 11 (.tmp 68) (.tmp 67) (.int .i64 (IntKind.wrap .i64 t953)) #[.int .i64 x856, .int .i64 0, .string (⟨#[]⟩ : ByteArray), .int .i64 0, .int .i64 0, .string (⟨#[]⟩ : ByteArray), .bool false, .slice none 0 0, .int .u64 t898.1, .int .u64 0, .int .u64 0, .int .i64 (IntKind.wrap .i64 t953), .bool false, .int .i64 0] rfl KR KR KR KR KR KR KR ?_; clear ha HW a; intro a W957 HW ha
                  refine endl ?_
                  refine thenN (hK952 _ _ ?_); clear hK952
                  refine wp_seq_k (fun K958 hK959 => ?_)
                  refine wp_region_lit ?_
                  refine stepp ha 69 (.pointer (some ⟨b810, 11, none⟩)) KR KR ?_; clear ha a; intro a ha
                  refine stepl ha 70 (HW.ca (i := 0) (b := b810) (C := #[.int .i64 x856, .int .i64 0, .string (⟨#[]⟩ : ByteArray), .int .i64 0, .int .i64 0, .string (⟨#[]⟩ : ByteArray), .bool false, .slice none 0 0, .int .u64 t898.1, .int .u64 0, .int .u64 0, .int .i64 (IntKind.wrap .i64 t953), .bool false, .int .i64 0]) (T := 49) (fr := (0, 0)) KR) 3 11 (.tmp 69) (.int .i64 (IntKind.wrap .i64 t953)) rfl KR KR KR ?_; clear ha a; intro a ha
                  obtain ⟨t960, ht961, h_⟩ := bind_some' h; clear h; have h := h_; clear h_
                  refine stepc ha 71 KR KR (access_Type.calls (IntKind.wrap .i64 t953) t960 _ ht961) ?_; clear ha a; rintro e W962 ⟨rfl, HX963⟩
                  refine ⟨_, rfl, ?_⟩; intro a ha; replace HW := HW.callw HX963; clear HX963
                  refine stepp ha 15 (.bool t960) KR KR ?_; clear ha a; intro a ha
                  refine endl ?_
                  refine thenN (hK959 _ _ ?_); clear hK959
                  refine wp_seq_k (fun K964 hK965 => ?_)
                  refine wp_region_lit ?_
                  refine stepp ha 72 (.pointer (some ⟨b810, 0, none⟩)) KR KR ?_; clear ha a; intro a ha
                  refine stepl ha 73 (HW.ca (i := 0) (b := b810) (C := #[.int .i64 x856, .int .i64 0, .string (⟨#[]⟩ : ByteArray), .int .i64 0, .int .i64 0, .string (⟨#[]⟩ : ByteArray), .bool false, .slice none 0 0, .int .u64 t898.1, .int .u64 0, .int .u64 0, .int .i64 (IntKind.wrap .i64 t953), .bool false, .int .i64 0]) (T := 49) (fr := (0, 0)) KR) 3 0 (.tmp 72) (.int .i64 x856) rfl KR KR KR ?_; clear ha a; intro a ha
                  refine stepp ha 74 (.bool (x856 == 12)) KR KR ?_; clear ha a; intro a ha
                  refine endl ?_
                  refine thenN (hK965 _ _ ?_); clear hK965
                  by_cases hp966 : x856 = 12
                  · skip
                    replace h := ite_pos' h hp966
                    refine condT ha KR KR (t := (x856 == 12)) (ieq_t hp966) ?_
                    refine wp_region_lit ?_
                    refine stepp ha 75 (.int .u64 t905.1) KR KR ?_; clear ha a; intro a ha
                    refine stepp ha 76 (.pointer (some ⟨b810, 10, none⟩)) KR KR ?_; clear ha a; intro a ha
                    refine stepst ha HW 0 (b := b810) (C := #[.int .i64 x856, .int .i64 0, .string (⟨#[]⟩ : ByteArray), .int .i64 0, .int .i64 0, .string (⟨#[]⟩ : ByteArray), .bool false, .slice none 0 0, .int .u64 t898.1, .int .u64 0, .int .u64 0, .int .i64 (IntKind.wrap .i64 t953), .bool false, .int .i64 0]) (T := 49) KR 42 10 (.tmp 76) (.tmp 75) (.int .u64 t905.1) #[.int .i64 x856, .int .i64 0, .string (⟨#[]⟩ : ByteArray), .int .i64 0, .int .i64 0, .string (⟨#[]⟩ : ByteArray), .bool false, .slice none 0 0, .int .u64 t898.1, .int .u64 0, .int .u64 t905.1, .int .i64 (IntKind.wrap .i64 t953), .bool false, .int .i64 0] rfl KR KR KR KR KR KR KR ?_; clear ha HW a; intro a W967 HW ha
                    refine endl ?_
                    refine blkN ?_
                    exact thenN ⟨65287, t960, 0, t905.1, IntKind.wrap .i64 t953, false, 0, h, ha.sub (subs_cons KR (subs_cons KR (subs_cons KR (subs_cons KR (subs_cons KR (subs_nil _)))))), HW.pick [1, 0] [] (by decide) (by decide) KR KR⟩
                  · skip
                    replace h := ite_neg' h hp966
                    refine condF ha KR KR (t := (x856 == 12)) (ieq_f hp966) ?_
                    refine wp_skip ?_
                    refine blkN ?_
                    exact thenN ⟨65287, t960, 0, 0, IntKind.wrap .i64 t953, false, 0, h, ha.sub (subs_cons KR (subs_cons KR (subs_cons KR (subs_cons KR (subs_cons KR (subs_nil _)))))), HW.pick [1, 0] [] (by decide) (by decide) KR KR⟩
            · skip
              intro a W975 hJ
              obtain ⟨x968, x969, x970, x971, x972, x973, x974, h, ha, HW⟩ := hJ
              replace h : nresv_Change.j1 K a1 x856 t898 x968 x969 x970 x971 x972 x973 x974 = some r := h
              unfold nresv_Change.j1 at h
              refine hK914 _ _ ?_; clear hK914
              refine wp_seq_k (fun K976 hK977 => ?_)
              refine wp_seq_k (fun K978 hK979 => ?_)
              refine wp_region_lit ?_
              refine stepp ha 104 (.bool x969) KR KR ?_; clear ha a; intro a ha
              refine stepp ha 105 (.bool (!x969)) KR KR ?_; clear ha a; intro a ha
              refine stepp ha 106 (.bool (!x969)) KR KR ?_; clear ha a; intro a ha
              by_cases hp980 : x969 = true
              · skip
                replace h := ite_pos' h hp980
                replace ha := ha.bool 106 KR (not_f (hp980))
                refine stepp ha 107 (.int .u32 a1) KR KR ?_; clear ha a; intro a ha
                refine stepp ha 108 (.int .u32 x968) KR KR ?_; clear ha a; intro a ha
                refine stepp ha 109 (.int .u32 (bandNot .u32 a1 x968)) KR KR ?_; clear ha a; intro a ha
                refine stepp ha 110 (.bool ((bandNot .u32 a1 x968) != 0)) KR KR ?_; clear ha a; intro a ha
                refine stepp ha 111 (.bool ((bandNot .u32 a1 x968) != 0)) KR KR ?_; clear ha a; intro a ha
                refine endl ?_
                refine thenN (hK979 _ _ ?_); clear hK979
                by_cases hp981 : (bandNot .u32 a1 x968) = 0
                · skip
                  replace h := ite_pos' h hp981
                  refine condF ha KR KR (t := ((bandNot .u32 a1 x968) != 0)) (ineq_f hp981) ?_
                  refine wp_skip ?_
                  refine thenN (hK977 _ _ ?_); clear hK977
                  refine wp_seq_k (fun K990 hK991 => ?_)
                  refine wp_region_lit ?_
                  refine stepl ha 113 (HW.ca (i := 1) (b := b810) (C := #[.int .i64 x856, .int .i64 0, .string (⟨#[]⟩ : ByteArray), .int .i64 0, .int .i64 0, .string (⟨#[]⟩ : ByteArray), .bool false, .slice none 0 0, .int .u64 t898.1, .int .u64 x970, .int .u64 x971, .int .i64 x972, .bool x973, .int .i64 x974]) (T := 49) (fr := (0, 0)) KR) 49 0 (.tmp 9) (.agg #[.int .i64 x856, .int .i64 0, .string (⟨#[]⟩ : ByteArray), .int .i64 0, .int .i64 0, .string (⟨#[]⟩ : ByteArray), .bool false, .slice none 0 0, .int .u64 t898.1, .int .u64 x970, .int .u64 x971, .int .i64 x972, .bool x973, .int .i64 x974]) rfl KR KR KR ?_; clear ha a; intro a ha
                  refine stepst ha HW 0 (b := b800) (C := #[.int .i64 0, .int .i64 0, .string (⟨#[]⟩ : ByteArray), .int .i64 0, .int .i64 0, .string (⟨#[]⟩ : ByteArray), .bool false, .slice none 0 0, .int .u64 0, .int .u64 0, .int .u64 0, .int .i64 0, .bool false, .int .i64 0]) (T := 49) KR 49 0 (.tmp 6) (.tmp 113) (.agg #[.int .i64 x856, .int .i64 0, .string (⟨#[]⟩ : ByteArray), .int .i64 0, .int .i64 0, .string (⟨#[]⟩ : ByteArray), .bool false, .slice none 0 0, .int .u64 t898.1, .int .u64 x970, .int .u64 x971, .int .i64 x972, .bool x973, .int .i64 x974]) #[.int .i64 x856, .int .i64 0, .string (⟨#[]⟩ : ByteArray), .int .i64 0, .int .i64 0, .string (⟨#[]⟩ : ByteArray), .bool false, .slice none 0 0, .int .u64 t898.1, .int .u64 x970, .int .u64 x971, .int .i64 x972, .bool x973, .int .i64 x974] rfl KR KR KR KR KR KR KR ?_; clear ha HW a; intro a W992 HW ha
                  refine stepp ha 7 (.int .i64 0) KR KR ?_; clear ha a; intro a ha
                  refine endl ?_
                  refine thenN (hK991 _ _ ?_); clear hK991
                  refine wp_ret ?_
                  obtain rfl := Option.some.inj h
                  replace HW := HW.nilo 128 2
                  exact finv ha _ _ rfl (.cell (ad := ⟨b800, 0, none⟩) (v := .agg #[.int .i64 x856, .int .i64 0, .string (⟨#[]⟩ : ByteArray), .int .i64 0, .int .i64 0, .string (⟨#[]⟩ : ByteArray), .bool false, .slice none 0 0, .int .u64 t898.1, .int .u64 x970, .int .u64 x971, .int .i64 x972, .bool x973, .int .i64 x974]) KR (run_loadVar_ca0 (HW.ca (i := 0) (b := b800) (C := #[.int .i64 x856, .int .i64 0, .string (⟨#[]⟩ : ByteArray), .int .i64 0, .int .i64 0, .string (⟨#[]⟩ : ByteArray), .bool false, .slice none 0 0, .int .u64 t898.1, .int .u64 x970, .int .u64 x971, .int .i64 x972, .bool x973, .int .i64 x974]) (T := 49) (fr := (0, 0)) KR) 49 0 (.agg #[.int .i64 x856, .int .i64 0, .string (⟨#[]⟩ : ByteArray), .int .i64 0, .int .i64 0, .string (⟨#[]⟩ : ByteArray), .bool false, .slice none 0 0, .int .u64 t898.1, .int .u64 x970, .int .u64 x971, .int .i64 x972, .bool x973, .int .i64 x974]) KR) (.tmp (v := .int .i64 0) KR .nil)) (.tuple #[.agg #[.int .i64 x856, .int .i64 0, .string (⟨#[]⟩ : ByteArray), .int .i64 0, .int .i64 0, .string (⟨#[]⟩ : ByteArray), .bool false, .slice none 0 0, .int .u64 t898.1, .int .u64 x970, .int .u64 x971, .int .i64 x972, .bool x973, .int .i64 x974], .int .i64 0]) rfl ⟨none, 0, rfl, HW.pick [] [0] (by decide) (by decide) rfl KR⟩
                · skip
                  replace h := ite_neg' h hp981
                  refine condT ha KR KR (t := ((bandNot .u32 a1 x968) != 0)) (ineq_t hp981) ?_
                  refine wp_seq_k (fun K982 hK983 => ?_)
                  refine wp_region_lit ?_
                  refine stepp ha 112 (.agg #[.int .i64 0, .int .i64 0, .string (⟨#[]⟩ : ByteArray), .int .i64 0, .int .i64 0, .string (⟨#[]⟩ : ByteArray), .bool false, .slice none 0 0, .int .u64 0, .int .u64 0, .int .u64 0, .int .i64 0, .bool false, .int .i64 0]) KR KR ?_; clear ha a; intro a ha
                  refine stepst ha HW 0 (b := b800) (C := #[.int .i64 0, .int .i64 0, .string (⟨#[]⟩ : ByteArray), .int .i64 0, .int .i64 0, .string (⟨#[]⟩ : ByteArray), .bool false, .slice none 0 0, .int .u64 0, .int .u64 0, .int .u64 0, .int .i64 0, .bool false, .int .i64 0]) (T := 49) KR 49 0 (.tmp 6) (.tmp 112) (.agg #[.int .i64 0, .int .i64 0, .string (⟨#[]⟩ : ByteArray), .int .i64 0, .int .i64 0, .string (⟨#[]⟩ : ByteArray), .bool false, .slice none 0 0, .int .u64 0, .int .u64 0, .int .u64 0, .int .i64 0, .bool false, .int .i64 0]) #[.int .i64 0, .int .i64 0, .string (⟨#[]⟩ : ByteArray), .int .i64 0, .int .i64 0, .string (⟨#[]⟩ : ByteArray), .bool false, .slice none 0 0, .int .u64 0, .int .u64 0, .int .u64 0, .int .i64 0, .bool false, .int .i64 0] rfl KR KR KR KR KR KR KR ?_; clear ha HW a; intro a W984 HW ha
                  refine stepp ha 7 (.int .i64 180) KR KR ?_; clear ha a; intro a ha
                  refine endl ?_
                  refine thenN (hK983 _ _ ?_); clear hK983
                  refine wp_ret ?_
                  refine thenR ?_
                  obtain rfl := Option.some.inj h
                  replace HW := HW.nilo 128 2
                  exact finv ha _ _ rfl (.cell (ad := ⟨b800, 0, none⟩) (v := .agg #[.int .i64 0, .int .i64 0, .string (⟨#[]⟩ : ByteArray), .int .i64 0, .int .i64 0, .string (⟨#[]⟩ : ByteArray), .bool false, .slice none 0 0, .int .u64 0, .int .u64 0, .int .u64 0, .int .i64 0, .bool false, .int .i64 0]) KR (run_loadVar_ca0 (HW.ca (i := 0) (b := b800) (C := #[.int .i64 0, .int .i64 0, .string (⟨#[]⟩ : ByteArray), .int .i64 0, .int .i64 0, .string (⟨#[]⟩ : ByteArray), .bool false, .slice none 0 0, .int .u64 0, .int .u64 0, .int .u64 0, .int .i64 0, .bool false, .int .i64 0]) (T := 49) (fr := (0, 0)) KR) 49 0 (.agg #[.int .i64 0, .int .i64 0, .string (⟨#[]⟩ : ByteArray), .int .i64 0, .int .i64 0, .string (⟨#[]⟩ : ByteArray), .bool false, .slice none 0 0, .int .u64 0, .int .u64 0, .int .u64 0, .int .i64 0, .bool false, .int .i64 0]) KR) (.tmp (v := .int .i64 180) KR .nil)) (.tuple #[.agg #[.int .i64 0, .int .i64 0, .string (⟨#[]⟩ : ByteArray), .int .i64 0, .int .i64 0, .string (⟨#[]⟩ : ByteArray), .bool false, .slice none 0 0, .int .u64 0, .int .u64 0, .int .u64 0, .int .i64 0, .bool false, .int .i64 0], .int .i64 180]) rfl ⟨none, 0, rfl, HW.pick [] [0] (by decide) (by decide) rfl KR⟩
              · skip
                replace h := ite_neg' h hp980
                replace ha := ha.bool 106 KR (not_t (bool_f hp980))
                refine stepo ha 107 KR ?_; clear ha a; intro a ha
                refine stepo ha 108 KR ?_; clear ha a; intro a ha
                refine stepo ha 109 KR ?_; clear ha a; intro a ha
                refine stepo ha 110 KR ?_; clear ha a; intro a ha
                refine stepp ha 111 (.bool true) KR KR ?_; clear ha a; intro a ha
                refine endl ?_
                refine thenN (hK979 _ _ ?_); clear hK979
                refine condT ha KR KR (t := true) (rfl) ?_
                refine wp_seq_k (fun K986 hK987 => ?_)
                refine wp_region_lit ?_
                refine stepp ha 112 (.agg #[.int .i64 0, .int .i64 0, .string (⟨#[]⟩ : ByteArray), .int .i64 0, .int .i64 0, .string (⟨#[]⟩ : ByteArray), .bool false, .slice none 0 0, .int .u64 0, .int .u64 0, .int .u64 0, .int .i64 0, .bool false, .int .i64 0]) KR KR ?_; clear ha a; intro a ha
                refine stepst ha HW 0 (b := b800) (C := #[.int .i64 0, .int .i64 0, .string (⟨#[]⟩ : ByteArray), .int .i64 0, .int .i64 0, .string (⟨#[]⟩ : ByteArray), .bool false, .slice none 0 0, .int .u64 0, .int .u64 0, .int .u64 0, .int .i64 0, .bool false, .int .i64 0]) (T := 49) KR 49 0 (.tmp 6) (.tmp 112) (.agg #[.int .i64 0, .int .i64 0, .string (⟨#[]⟩ : ByteArray), .int .i64 0, .int .i64 0, .string (⟨#[]⟩ : ByteArray), .bool false, .slice none 0 0, .int .u64 0, .int .u64 0, .int .u64 0, .int .i64 0, .bool false, .int .i64 0]) #[.int .i64 0, .int .i64 0, .string (⟨#[]⟩ : ByteArray), .int .i64 0, .int .i64 0, .string (⟨#[]⟩ : ByteArray), .bool false, .slice none 0 0, .int .u64 0, .int .u64 0, .int .u64 0, .int .i64 0, .bool false, .int .i64 0] rfl KR KR KR KR KR KR KR ?_; clear ha HW a; intro a W988 HW ha
                refine stepp ha 7 (.int .i64 180) KR KR ?_; clear ha a; intro a ha
                refine endl ?_
                refine thenN (hK987 _ _ ?_); clear hK987
                refine wp_ret ?_
                refine thenR ?_
                obtain rfl := Option.some.inj h
                replace HW := HW.nilo 128 2
                exact finv ha _ _ rfl (.cell (ad := ⟨b800, 0, none⟩) (v := .agg #[.int .i64 0, .int .i64 0, .string (⟨#[]⟩ : ByteArray), .int .i64 0, .int .i64 0, .string (⟨#[]⟩ : ByteArray), .bool false, .slice none 0 0, .int .u64 0, .int .u64 0, .int .u64 0, .int .i64 0, .bool false, .int .i64 0]) KR (run_loadVar_ca0 (HW.ca (i := 0) (b := b800) (C := #[.int .i64 0, .int .i64 0, .string (⟨#[]⟩ : ByteArray), .int .i64 0, .int .i64 0, .string (⟨#[]⟩ : ByteArray), .bool false, .slice none 0 0, .int .u64 0, .int .u64 0, .int .u64 0, .int .i64 0, .bool false, .int .i64 0]) (T := 49) (fr := (0, 0)) KR) 49 0 (.agg #[.int .i64 0, .int .i64 0, .string (⟨#[]⟩ : ByteArray), .int .i64 0, .int .i64 0, .string (⟨#[]⟩ : ByteArray), .bool false, .slice none 0 0, .int .u64 0, .int .u64 0, .int .u64 0, .int .i64 0, .bool false, .int .i64 0]) KR) (.tmp (v := .int .i64 180) KR .nil)) (.tuple #[.agg #[.int .i64 0, .int .i64 0, .string (⟨#[]⟩ : ByteArray), .int .i64 0, .int .i64 0, .string (⟨#[]⟩ : ByteArray), .bool false, .slice none 0 0, .int .u64 0, .int .u64 0, .int .u64 0, .int .i64 0, .bool false, .int .i64 0], .int .i64 180]) rfl ⟨none, 0, rfl, HW.pick [] [0] (by decide) (by decide) rfl KR⟩
          · skip
            replace h := ite_neg' h hp891
            refine condT ha KR KR (t := ((a2.size : Int) != t883)) (ineq_t hp891) ?_
            refine wp_seq_k (fun K892 hK893 => ?_)
            refine wp_region_lit ?_
            refine stepp ha 48 (.agg #[.int .i64 0, .int .i64 0, .string (⟨#[]⟩ : ByteArray), .int .i64 0, .int .i64 0, .string (⟨#[]⟩ : ByteArray), .bool false, .slice none 0 0, .int .u64 0, .int .u64 0, .int .u64 0, .int .i64 0, .bool false, .int .i64 0]) KR KR ?_; clear ha a; intro a ha
            refine stepst ha HW 1 (b := b800) (C := #[.int .i64 0, .int .i64 0, .string (⟨#[]⟩ : ByteArray), .int .i64 0, .int .i64 0, .string (⟨#[]⟩ : ByteArray), .bool false, .slice none 0 0, .int .u64 0, .int .u64 0, .int .u64 0, .int .i64 0, .bool false, .int .i64 0]) (T := 49) KR 49 0 (.tmp 6) (.tmp 48) (.agg #[.int .i64 0, .int .i64 0, .string (⟨#[]⟩ : ByteArray), .int .i64 0, .int .i64 0, .string (⟨#[]⟩ : ByteArray), .bool false, .slice none 0 0, .int .u64 0, .int .u64 0, .int .u64 0, .int .i64 0, .bool false, .int .i64 0]) #[.int .i64 0, .int .i64 0, .string (⟨#[]⟩ : ByteArray), .int .i64 0, .int .i64 0, .string (⟨#[]⟩ : ByteArray), .bool false, .slice none 0 0, .int .u64 0, .int .u64 0, .int .u64 0, .int .i64 0, .bool false, .int .i64 0] rfl KR KR KR KR KR KR KR ?_; clear ha HW a; intro a W894 HW ha
            refine stepp ha 7 (.int .i64 180) KR KR ?_; clear ha a; intro a ha
            refine endl ?_
            refine thenN (hK893 _ _ ?_); clear hK893
            refine wp_ret ?_
            refine thenR ?_
            obtain rfl := Option.some.inj h
            replace HW := HW.nilo 128 2
            exact finv ha _ _ rfl (.cell (ad := ⟨b800, 0, none⟩) (v := .agg #[.int .i64 0, .int .i64 0, .string (⟨#[]⟩ : ByteArray), .int .i64 0, .int .i64 0, .string (⟨#[]⟩ : ByteArray), .bool false, .slice none 0 0, .int .u64 0, .int .u64 0, .int .u64 0, .int .i64 0, .bool false, .int .i64 0]) KR (run_loadVar_ca0 (HW.ca (i := 1) (b := b800) (C := #[.int .i64 0, .int .i64 0, .string (⟨#[]⟩ : ByteArray), .int .i64 0, .int .i64 0, .string (⟨#[]⟩ : ByteArray), .bool false, .slice none 0 0, .int .u64 0, .int .u64 0, .int .u64 0, .int .i64 0, .bool false, .int .i64 0]) (T := 49) (fr := (0, 0)) KR) 49 0 (.agg #[.int .i64 0, .int .i64 0, .string (⟨#[]⟩ : ByteArray), .int .i64 0, .int .i64 0, .string (⟨#[]⟩ : ByteArray), .bool false, .slice none 0 0, .int .u64 0, .int .u64 0, .int .u64 0, .int .i64 0, .bool false, .int .i64 0]) KR) (.tmp (v := .int .i64 180) KR .nil)) (.tuple #[.agg #[.int .i64 0, .int .i64 0, .string (⟨#[]⟩ : ByteArray), .int .i64 0, .int .i64 0, .string (⟨#[]⟩ : ByteArray), .bool false, .slice none 0 0, .int .u64 0, .int .u64 0, .int .u64 0, .int .i64 0, .bool false, .int .i64 0], .int .i64 180]) rfl ⟨none, 0, rfl, HW.pick [] [0] (by decide) (by decide) rfl KR⟩
/-! ### headgate/headgatelaw27.wakes: function 13 -/
def headgatelaw27_wakes.f (K : Nat)  : Option Bool :=
  (nresv_Change.f K 21 1 (⟨#[5, 0, 0, 0, 0, 0, 0, 0]⟩ : ByteArray)).bind fun t998 => ((nresv_Report.f K (⟨([(⟨(⟨#[97]⟩ : ByteArray), 3⟩ : T_api_Reg)] : List T_api_Reg), (⟨1, (⟨#[97]⟩ : ByteArray)⟩ : T_api_Hold), 0, false⟩ : T_api_Table)).bind fun t1013 => (if t998.2 = 0 then (if t998.1.f0 = 11 then (if t998.1.f8 = 5 then (if (t1013.size : Int) = 48 then (asrt (4 < (t1013.size : Int)) (if (bt t1013 4) = 1 then (asrt (26 < (t1013.size : Int)) (if (bt t1013 26) = 1 then (asrt (40 < (t1013.size : Int)) (some ((bt t1013 40) == 3))) else (some false))) else (some false))) else (some false)) else (some false)) else (some false)) else (some false)))
set_option maxRecDepth 100000 in
set_option maxHeartbeats 4000000 in
theorem headgatelaw27_wakes.calls (K : Nat)   (r : Bool) (w : World) (hG0 : CA w 0 0 (encs (encI .i64) G_access_lets).toArray) (hG1 : CA w 1 0 (encs T_nresv_action.enc G_nresv_actions).toArray) (hG2 : CA w 2 0 (encs (encI .i64) G_nresv_aptpls).toArray) (h : headgatelaw27_wakes.f K  = some r) :
    Calls Tryd.prog 13 #[] w (fun e W' => e = .returned (.bool r) ∧ Wd w W' [] [] ) := by
  refine sxstart (n := 45) (l := []) Tryd.func13 rfl rfl (Nat.le_of_ble_eq_true KR) (subsA_nil _) ?_
  intro a ha
  have HW := Wd.refl w
  unfold headgatelaw27_wakes.f at h
  refine wp_seq_k (fun K994 hK995 => ?_)
  refine wp_region_lit ?_
  refine stepp ha 0 (.bool false) KR KR ?_; clear ha a; intro a ha
  refine endl ?_
  refine thenN (hK995 _ _ ?_); clear hK995
  refine wp_seq_k (fun K996 hK997 => ?_)
  refine wp_region_lit ?_
  obtain ⟨t998, ht999, h_⟩ := bind_some' h; clear h; have h := h_; clear h_
  refine stepc ha 5 KR KR (nresv_Change.calls K 21 1 (⟨#[5, 0, 0, 0, 0, 0, 0, 0]⟩ : ByteArray) t998 _ (HW.ca0 hG1) (HW.ca0 hG2) ht999) ?_; clear ha a; rintro e W1003 ⟨A1000, c1001, rfl, HX1004⟩
  refine ⟨_, rfl, ?_⟩; intro a ha; replace HW := HW.callw HX1004; clear HX1004
  refine stepp ha 4 (.tuple #[.agg #[.int .i64 t998.1.f0, .int .i64 t998.1.f1, .string t998.1.f2, .int .i64 t998.1.f3, .int .i64 t998.1.f4, .string t998.1.f5, .bool t998.1.f6, .slice A1000 t998.1.f7.length c1001, .int .u64 t998.1.f8, .int .u64 t998.1.f9, .int .u64 t998.1.f10, .int .i64 t998.1.f11, .bool t998.1.f12, .int .i64 t998.1.f13], .int .i64 t998.2]) KR KR ?_; clear ha a; intro a ha
  refine stepp ha 6 (.agg #[.int .i64 t998.1.f0, .int .i64 t998.1.f1, .string t998.1.f2, .int .i64 t998.1.f3, .int .i64 t998.1.f4, .string t998.1.f5, .bool t998.1.f6, .slice A1000 t998.1.f7.length c1001, .int .u64 t998.1.f8, .int .u64 t998.1.f9, .int .u64 t998.1.f10, .int .i64 t998.1.f11, .bool t998.1.f12, .int .i64 t998.1.f13]) KR KR ?_; clear ha a; intro a ha
  refine stepp ha 7 (.int .i64 t998.2) KR KR ?_; clear ha a; intro a ha
  refine stepnew ha HW 1 #[.int .i64 0, .int .i64 0, .string (⟨#[]⟩ : ByteArray), .int .i64 0, .int .i64 0, .string (⟨#[]⟩ : ByteArray), .bool false, .slice none 0 0, .int .u64 0, .int .u64 0, .int .u64 0, .int .i64 0, .bool false, .int .i64 0] 49 KR KR ?_; clear ha HW a; intro b1005 a W1006 HW ha
  refine stepst ha HW 0 (b := b1005) (C := #[.int .i64 0, .int .i64 0, .string (⟨#[]⟩ : ByteArray), .int .i64 0, .int .i64 0, .string (⟨#[]⟩ : ByteArray), .bool false, .slice none 0 0, .int .u64 0, .int .u64 0, .int .u64 0, .int .i64 0, .bool false, .int .i64 0]) (T := 49) KR 49 0 (.tmp 1) (.tmp 6) (.agg #[.int .i64 t998.1.f0, .int .i64 t998.1.f1, .string t998.1.f2, .int .i64 t998.1.f3, .int .i64 t998.1.f4, .string t998.1.f5, .bool t998.1.f6, .slice A1000 t998.1.f7.length c1001, .int .u64 t998.1.f8, .int .u64 t998.1.f9, .int .u64 t998.1.f10, .int .i64 t998.1.f11, .bool t998.1.f12, .int .i64 t998.1.f13]) #[.int .i64 t998.1.f0, .int .i64 t998.1.f1, .string t998.1.f2, .int .i64 t998.1.f3, .int .i64 t998.1.f4, .string t998.1.f5, .bool t998.1.f6, .slice A1000 t998.1.f7.length c1001, .int .u64 t998.1.f8, .int .u64 t998.1.f9, .int .u64 t998.1.f10, .int .i64 t998.1.f11, .bool t998.1.f12, .int .i64 t998.1.f13] rfl KR KR KR KR KR KR KR ?_; clear ha HW a; intro a W1007 HW ha
  refine stepp ha 2 (.int .i64 t998.2) KR KR ?_; clear ha a; intro a ha
  refine endl ?_
  refine thenN (hK997 _ _ ?_); clear hK997
  refine wp_seq_k (fun K1008 hK1009 => ?_)
  refine wp_region_lit ?_
  refine stepp ha 8 (.agg #[.string (⟨#[97]⟩ : ByteArray), .int .u64 3]) KR KR ?_; clear ha a; intro a ha
  refine stepbs ha HW 9 44 2 1 #[.string (⟨#[97]⟩ : ByteArray), .int .u64 3] [.string (⟨#[97]⟩ : ByteArray), .int .u64 3] (by decide) KR KR KR KR ?_; clear ha HW a; intro b1010 a W1011 HW ha
  replace HW : Wd w W1011 [(b1005, .cells #[.int .i64 t998.1.f0, .int .i64 t998.1.f1, .string t998.1.f2, .int .i64 t998.1.f3, .int .i64 t998.1.f4, .string t998.1.f5, .bool t998.1.f6, .slice A1000 t998.1.f7.length c1001, .int .u64 t998.1.f8, .int .u64 t998.1.f9, .int .u64 t998.1.f10, .int .i64 t998.1.f11, .bool t998.1.f12, .int .i64 t998.1.f13] 49 (0, 0))] [⟨44, 2, .slice (some ⟨b1010, 0, none⟩) ([(⟨(⟨#[97]⟩ : ByteArray), 3⟩ : T_api_Reg)] : List T_api_Reg).length 1, ([(⟨(⟨#[97]⟩ : ByteArray), 3⟩ : T_api_Reg)] : List T_api_Reg).length, encs T_api_Reg.enc ([(⟨(⟨#[97]⟩ : ByteArray), 3⟩ : T_api_Reg)] : List T_api_Reg)⟩, ⟨128, 2, .slice A1000 t998.1.f7.length c1001, t998.1.f7.length, encs T_api_Range.enc t998.1.f7⟩] := HW
  replace ha := ha.turn 9 (v := .slice (some ⟨b1010, 0, none⟩) ([(⟨(⟨#[97]⟩ : ByteArray), 3⟩ : T_api_Reg)] : List T_api_Reg).length 1) KR rfl
  refine stepp ha 10 (.agg #[.int .i64 1, .string (⟨#[97]⟩ : ByteArray)]) KR KR ?_; clear ha a; intro a ha
  refine stepp ha 11 (.agg #[.slice (some ⟨b1010, 0, none⟩) ([(⟨(⟨#[97]⟩ : ByteArray), 3⟩ : T_api_Reg)] : List T_api_Reg).length 1, .int .i64 1, .string (⟨#[97]⟩ : ByteArray), .int .u32 0, .bool false]) KR KR ?_; clear ha a; intro a ha
  obtain ⟨t1013, ht1014, h_⟩ := bind_some' h; clear h; have h := h_; clear h_
  refine stepc ha 12 KR KR (nresv_Report.calls K (⟨([(⟨(⟨#[97]⟩ : ByteArray), 3⟩ : T_api_Reg)] : List T_api_Reg), (⟨1, (⟨#[97]⟩ : ByteArray)⟩ : T_api_Hold), 0, false⟩ : T_api_Table) (some ⟨b1010, 0, none⟩) 1 t1013 _ (HW.ca0 hG0) (HW.rdo (i := 0) (q := ⟨44, 2, .slice (some ⟨b1010, 0, none⟩) ([(⟨(⟨#[97]⟩ : ByteArray), 3⟩ : T_api_Reg)] : List T_api_Reg).length 1, ([(⟨(⟨#[97]⟩ : ByteArray), 3⟩ : T_api_Reg)] : List T_api_Reg).length, encs T_api_Reg.enc ([(⟨(⟨#[97]⟩ : ByteArray), 3⟩ : T_api_Reg)] : List T_api_Reg)⟩) KR) ht1014) ?_; clear ha a; rintro e W1015 ⟨rfl, HX1016⟩
  refine ⟨_, rfl, ?_⟩; intro a ha; replace HW := HW.callw HX1016; clear HX1016
  refine stepp ha 3 (.string t1013) KR KR ?_; clear ha a; intro a ha
  refine endl ?_
  refine thenN (hK1009 _ _ ?_); clear hK1009
  refine wp_seq_k (fun K1017 hK1018 => ?_)
  refine wp_region_lit ?_
  refine stepp ha 13 (.int .i64 t998.2) KR KR ?_; clear ha a; intro a ha
  refine stepp ha 14 (.bool (t998.2 == 0)) KR KR ?_; clear ha a; intro a ha
  refine stepp ha 15 (.bool (t998.2 == 0)) KR KR ?_; clear ha a; intro a ha
  by_cases hp1019 : t998.2 = 0
  · skip
    replace h := ite_pos' h hp1019
    replace ha := ha.bool 15 KR (ieq_t hp1019)
    refine stepp ha 16 (.pointer (some ⟨b1005, 0, none⟩)) KR KR ?_; clear ha a; intro a ha
    refine stepl ha 17 (HW.ca (i := 0) (b := b1005) (C := #[.int .i64 t998.1.f0, .int .i64 t998.1.f1, .string t998.1.f2, .int .i64 t998.1.f3, .int .i64 t998.1.f4, .string t998.1.f5, .bool t998.1.f6, .slice A1000 t998.1.f7.length c1001, .int .u64 t998.1.f8, .int .u64 t998.1.f9, .int .u64 t998.1.f10, .int .i64 t998.1.f11, .bool t998.1.f12, .int .i64 t998.1.f13]) (T := 49) (fr := (0, 0)) KR) 3 0 (.tmp 16) (.int .i64 t998.1.f0) rfl KR KR KR ?_; clear ha a; intro a ha
    refine stepp ha 18 (.bool (t998.1.f0 == 11)) KR KR ?_; clear ha a; intro a ha
    refine stepp ha 19 (.bool (t998.1.f0 == 11)) KR KR ?_; clear ha a; intro a ha
    refine stepp ha 20 (.bool (t998.1.f0 == 11)) KR KR ?_; clear ha a; intro a ha
    by_cases hp1020 : t998.1.f0 = 11
    · skip
      replace h := ite_pos' h hp1020
      replace ha := ha.bool 20 KR (ieq_t hp1020)
      refine stepp ha 21 (.pointer (some ⟨b1005, 8, none⟩)) KR KR ?_; clear ha a; intro a ha
      refine stepl ha 22 (HW.ca (i := 0) (b := b1005) (C := #[.int .i64 t998.1.f0, .int .i64 t998.1.f1, .string t998.1.f2, .int .i64 t998.1.f3, .int .i64 t998.1.f4, .string t998.1.f5, .bool t998.1.f6, .slice A1000 t998.1.f7.length c1001, .int .u64 t998.1.f8, .int .u64 t998.1.f9, .int .u64 t998.1.f10, .int .i64 t998.1.f11, .bool t998.1.f12, .int .i64 t998.1.f13]) (T := 49) (fr := (0, 0)) KR) 42 8 (.tmp 21) (.int .u64 t998.1.f8) rfl KR KR KR ?_; clear ha a; intro a ha
      refine stepp ha 23 (.bool (t998.1.f8 == 5)) KR KR ?_; clear ha a; intro a ha
      refine stepp ha 24 (.bool (t998.1.f8 == 5)) KR KR ?_; clear ha a; intro a ha
      refine stepp ha 25 (.bool (t998.1.f8 == 5)) KR KR ?_; clear ha a; intro a ha
      by_cases hp1021 : t998.1.f8 = 5
      · skip
        replace h := ite_pos' h hp1021
        replace ha := ha.bool 25 KR (ieq_t hp1021)
        refine stepp ha 26 (.string t1013) KR KR ?_; clear ha a; intro a ha
        refine stepp ha 27 (.int .i64 (t1013.size : Int)) KR KR ?_; clear ha a; intro a ha
        refine stepp ha 28 (.bool ((t1013.size : Int) == 48)) KR KR ?_; clear ha a; intro a ha
        refine stepp ha 29 (.bool ((t1013.size : Int) == 48)) KR KR ?_; clear ha a; intro a ha
        refine stepp ha 30 (.bool ((t1013.size : Int) == 48)) KR KR ?_; clear ha a; intro a ha
        by_cases hp1022 : (t1013.size : Int) = 48
        · skip
          replace h := ite_pos' h hp1022
          replace ha := ha.bool 30 KR (ieq_t hp1022)
          refine stepp ha 31 (.string t1013) KR KR ?_; clear ha a; intro a ha
          obtain ⟨hA1023, h_⟩ := asrt_some h; clear h; have h := h_; clear h_
          refine stepsi ha 32 9 (.tmp 31) (.const (.int .i64 4)) t1013 .i64 4 rfl KR KR KR (by decide) (show (4 : Int) < ((t1013).size : Int) from hA1023) KR ?_; clear ha a; intro a ha
          refine stepp ha 33 (.bool ((bt t1013 4) == 1)) KR KR ?_; clear ha a; intro a ha
          refine stepp ha 34 (.bool ((bt t1013 4) == 1)) KR KR ?_; clear ha a; intro a ha
          refine stepp ha 35 (.bool ((bt t1013 4) == 1)) KR KR ?_; clear ha a; intro a ha
          by_cases hp1024 : (bt t1013 4) = 1
          · skip
            replace h := ite_pos' h hp1024
            replace ha := ha.bool 35 KR (ieq_t hp1024)
            refine stepp ha 36 (.string t1013) KR KR ?_; clear ha a; intro a ha
            obtain ⟨hA1025, h_⟩ := asrt_some h; clear h; have h := h_; clear h_
            refine stepsi ha 37 9 (.tmp 36) (.const (.int .i64 26)) t1013 .i64 26 rfl KR KR KR (by decide) (show (26 : Int) < ((t1013).size : Int) from hA1025) KR ?_; clear ha a; intro a ha
            refine stepp ha 38 (.bool ((bt t1013 26) == 1)) KR KR ?_; clear ha a; intro a ha
            refine stepp ha 39 (.bool ((bt t1013 26) == 1)) KR KR ?_; clear ha a; intro a ha
            refine stepp ha 40 (.bool ((bt t1013 26) == 1)) KR KR ?_; clear ha a; intro a ha
            by_cases hp1026 : (bt t1013 26) = 1
            · skip
              replace h := ite_pos' h hp1026
              replace ha := ha.bool 40 KR (ieq_t hp1026)
              refine stepp ha 41 (.string t1013) KR KR ?_; clear ha a; intro a ha
              obtain ⟨hA1027, h_⟩ := asrt_some h; clear h; have h := h_; clear h_
              refine stepsi ha 42 9 (.tmp 41) (.const (.int .i64 40)) t1013 .i64 40 rfl KR KR KR (by decide) (show (40 : Int) < ((t1013).size : Int) from hA1027) KR ?_; clear ha a; intro a ha
              refine stepp ha 43 (.bool ((bt t1013 40) == 3)) KR KR ?_; clear ha a; intro a ha
              refine stepp ha 44 (.bool ((bt t1013 40) == 3)) KR KR ?_; clear ha a; intro a ha
              refine stepp ha 0 (.bool ((bt t1013 40) == 3)) KR KR ?_; clear ha a; intro a ha
              refine endl ?_
              refine thenN (hK1018 _ _ ?_); clear hK1018
              refine wp_ret ?_
              obtain rfl := Option.some.inj h
              exact finv ha _ _ rfl (.tmp (v := .bool ((bt t1013 40) == 3)) KR .nil) (.bool ((bt t1013 40) == 3)) rfl ⟨rfl, HW.pick [] [] (by decide) (by decide) rfl KR⟩
            · skip
              replace h := ite_neg' h hp1026
              replace ha := ha.bool 40 KR (ieq_f hp1026)
              refine stepo ha 41 KR ?_; clear ha a; intro a ha
              refine stepo ha 42 KR ?_; clear ha a; intro a ha
              refine stepo ha 43 KR ?_; clear ha a; intro a ha
              refine stepp ha 44 (.bool false) KR KR ?_; clear ha a; intro a ha
              refine stepp ha 0 (.bool false) KR KR ?_; clear ha a; intro a ha
              refine endl ?_
              refine thenN (hK1018 _ _ ?_); clear hK1018
              refine wp_ret ?_
              obtain rfl := Option.some.inj h
              exact finv ha _ _ rfl (.tmp (v := .bool false) KR .nil) (.bool false) rfl ⟨rfl, HW.pick [] [] (by decide) (by decide) rfl KR⟩
          · skip
            replace h := ite_neg' h hp1024
            replace ha := ha.bool 35 KR (ieq_f hp1024)
            refine stepo ha 36 KR ?_; clear ha a; intro a ha
            refine stepo ha 37 KR ?_; clear ha a; intro a ha
            refine stepo ha 38 KR ?_; clear ha a; intro a ha
            refine stepp ha 39 (.bool false) KR KR ?_; clear ha a; intro a ha
            refine stepp ha 40 (.bool false) KR KR ?_; clear ha a; intro a ha
            refine stepo ha 41 KR ?_; clear ha a; intro a ha
            refine stepo ha 42 KR ?_; clear ha a; intro a ha
            refine stepo ha 43 KR ?_; clear ha a; intro a ha
            refine stepp ha 44 (.bool false) KR KR ?_; clear ha a; intro a ha
            refine stepp ha 0 (.bool false) KR KR ?_; clear ha a; intro a ha
            refine endl ?_
            refine thenN (hK1018 _ _ ?_); clear hK1018
            refine wp_ret ?_
            obtain rfl := Option.some.inj h
            exact finv ha _ _ rfl (.tmp (v := .bool false) KR .nil) (.bool false) rfl ⟨rfl, HW.pick [] [] (by decide) (by decide) rfl KR⟩
        · skip
          replace h := ite_neg' h hp1022
          replace ha := ha.bool 30 KR (ieq_f hp1022)
          refine stepo ha 31 KR ?_; clear ha a; intro a ha
          refine stepo ha 32 KR ?_; clear ha a; intro a ha
          refine stepo ha 33 KR ?_; clear ha a; intro a ha
          refine stepp ha 34 (.bool false) KR KR ?_; clear ha a; intro a ha
          refine stepp ha 35 (.bool false) KR KR ?_; clear ha a; intro a ha
          refine stepo ha 36 KR ?_; clear ha a; intro a ha
          refine stepo ha 37 KR ?_; clear ha a; intro a ha
          refine stepo ha 38 KR ?_; clear ha a; intro a ha
          refine stepp ha 39 (.bool false) KR KR ?_; clear ha a; intro a ha
          refine stepp ha 40 (.bool false) KR KR ?_; clear ha a; intro a ha
          refine stepo ha 41 KR ?_; clear ha a; intro a ha
          refine stepo ha 42 KR ?_; clear ha a; intro a ha
          refine stepo ha 43 KR ?_; clear ha a; intro a ha
          refine stepp ha 44 (.bool false) KR KR ?_; clear ha a; intro a ha
          refine stepp ha 0 (.bool false) KR KR ?_; clear ha a; intro a ha
          refine endl ?_
          refine thenN (hK1018 _ _ ?_); clear hK1018
          refine wp_ret ?_
          obtain rfl := Option.some.inj h
          exact finv ha _ _ rfl (.tmp (v := .bool false) KR .nil) (.bool false) rfl ⟨rfl, HW.pick [] [] (by decide) (by decide) rfl KR⟩
      · skip
        replace h := ite_neg' h hp1021
        replace ha := ha.bool 25 KR (ieq_f hp1021)
        refine stepo ha 26 KR ?_; clear ha a; intro a ha
        refine stepo ha 27 KR ?_; clear ha a; intro a ha
        refine stepo ha 28 KR ?_; clear ha a; intro a ha
        refine stepp ha 29 (.bool false) KR KR ?_; clear ha a; intro a ha
        refine stepp ha 30 (.bool false) KR KR ?_; clear ha a; intro a ha
        refine stepo ha 31 KR ?_; clear ha a; intro a ha
        refine stepo ha 32 KR ?_; clear ha a; intro a ha
        refine stepo ha 33 KR ?_; clear ha a; intro a ha
        refine stepp ha 34 (.bool false) KR KR ?_; clear ha a; intro a ha
        refine stepp ha 35 (.bool false) KR KR ?_; clear ha a; intro a ha
        refine stepo ha 36 KR ?_; clear ha a; intro a ha
        refine stepo ha 37 KR ?_; clear ha a; intro a ha
        refine stepo ha 38 KR ?_; clear ha a; intro a ha
        refine stepp ha 39 (.bool false) KR KR ?_; clear ha a; intro a ha
        refine stepp ha 40 (.bool false) KR KR ?_; clear ha a; intro a ha
        refine stepo ha 41 KR ?_; clear ha a; intro a ha
        refine stepo ha 42 KR ?_; clear ha a; intro a ha
        refine stepo ha 43 KR ?_; clear ha a; intro a ha
        refine stepp ha 44 (.bool false) KR KR ?_; clear ha a; intro a ha
        refine stepp ha 0 (.bool false) KR KR ?_; clear ha a; intro a ha
        refine endl ?_
        refine thenN (hK1018 _ _ ?_); clear hK1018
        refine wp_ret ?_
        obtain rfl := Option.some.inj h
        exact finv ha _ _ rfl (.tmp (v := .bool false) KR .nil) (.bool false) rfl ⟨rfl, HW.pick [] [] (by decide) (by decide) rfl KR⟩
    · skip
      replace h := ite_neg' h hp1020
      replace ha := ha.bool 20 KR (ieq_f hp1020)
      refine stepo ha 21 KR ?_; clear ha a; intro a ha
      refine stepo ha 22 KR ?_; clear ha a; intro a ha
      refine stepo ha 23 KR ?_; clear ha a; intro a ha
      refine stepp ha 24 (.bool false) KR KR ?_; clear ha a; intro a ha
      refine stepp ha 25 (.bool false) KR KR ?_; clear ha a; intro a ha
      refine stepo ha 26 KR ?_; clear ha a; intro a ha
      refine stepo ha 27 KR ?_; clear ha a; intro a ha
      refine stepo ha 28 KR ?_; clear ha a; intro a ha
      refine stepp ha 29 (.bool false) KR KR ?_; clear ha a; intro a ha
      refine stepp ha 30 (.bool false) KR KR ?_; clear ha a; intro a ha
      refine stepo ha 31 KR ?_; clear ha a; intro a ha
      refine stepo ha 32 KR ?_; clear ha a; intro a ha
      refine stepo ha 33 KR ?_; clear ha a; intro a ha
      refine stepp ha 34 (.bool false) KR KR ?_; clear ha a; intro a ha
      refine stepp ha 35 (.bool false) KR KR ?_; clear ha a; intro a ha
      refine stepo ha 36 KR ?_; clear ha a; intro a ha
      refine stepo ha 37 KR ?_; clear ha a; intro a ha
      refine stepo ha 38 KR ?_; clear ha a; intro a ha
      refine stepp ha 39 (.bool false) KR KR ?_; clear ha a; intro a ha
      refine stepp ha 40 (.bool false) KR KR ?_; clear ha a; intro a ha
      refine stepo ha 41 KR ?_; clear ha a; intro a ha
      refine stepo ha 42 KR ?_; clear ha a; intro a ha
      refine stepo ha 43 KR ?_; clear ha a; intro a ha
      refine stepp ha 44 (.bool false) KR KR ?_; clear ha a; intro a ha
      refine stepp ha 0 (.bool false) KR KR ?_; clear ha a; intro a ha
      refine endl ?_
      refine thenN (hK1018 _ _ ?_); clear hK1018
      refine wp_ret ?_
      obtain rfl := Option.some.inj h
      exact finv ha _ _ rfl (.tmp (v := .bool false) KR .nil) (.bool false) rfl ⟨rfl, HW.pick [] [] (by decide) (by decide) rfl KR⟩
  · skip
    replace h := ite_neg' h hp1019
    replace ha := ha.bool 15 KR (ieq_f hp1019)
    refine stepo ha 16 KR ?_; clear ha a; intro a ha
    refine stepo ha 17 KR ?_; clear ha a; intro a ha
    refine stepo ha 18 KR ?_; clear ha a; intro a ha
    refine stepp ha 19 (.bool false) KR KR ?_; clear ha a; intro a ha
    refine stepp ha 20 (.bool false) KR KR ?_; clear ha a; intro a ha
    refine stepo ha 21 KR ?_; clear ha a; intro a ha
    refine stepo ha 22 KR ?_; clear ha a; intro a ha
    refine stepo ha 23 KR ?_; clear ha a; intro a ha
    refine stepp ha 24 (.bool false) KR KR ?_; clear ha a; intro a ha
    refine stepp ha 25 (.bool false) KR KR ?_; clear ha a; intro a ha
    refine stepo ha 26 KR ?_; clear ha a; intro a ha
    refine stepo ha 27 KR ?_; clear ha a; intro a ha
    refine stepo ha 28 KR ?_; clear ha a; intro a ha
    refine stepp ha 29 (.bool false) KR KR ?_; clear ha a; intro a ha
    refine stepp ha 30 (.bool false) KR KR ?_; clear ha a; intro a ha
    refine stepo ha 31 KR ?_; clear ha a; intro a ha
    refine stepo ha 32 KR ?_; clear ha a; intro a ha
    refine stepo ha 33 KR ?_; clear ha a; intro a ha
    refine stepp ha 34 (.bool false) KR KR ?_; clear ha a; intro a ha
    refine stepp ha 35 (.bool false) KR KR ?_; clear ha a; intro a ha
    refine stepo ha 36 KR ?_; clear ha a; intro a ha
    refine stepo ha 37 KR ?_; clear ha a; intro a ha
    refine stepo ha 38 KR ?_; clear ha a; intro a ha
    refine stepp ha 39 (.bool false) KR KR ?_; clear ha a; intro a ha
    refine stepp ha 40 (.bool false) KR KR ?_; clear ha a; intro a ha
    refine stepo ha 41 KR ?_; clear ha a; intro a ha
    refine stepo ha 42 KR ?_; clear ha a; intro a ha
    refine stepo ha 43 KR ?_; clear ha a; intro a ha
    refine stepp ha 44 (.bool false) KR KR ?_; clear ha a; intro a ha
    refine stepp ha 0 (.bool false) KR KR ?_; clear ha a; intro a ha
    refine endl ?_
    refine thenN (hK1018 _ _ ?_); clear hK1018
    refine wp_ret ?_
    obtain rfl := Option.some.inj h
    exact finv ha _ _ rfl (.tmp (v := .bool false) KR .nil) (.bool false) rfl ⟨rfl, HW.pick [] [] (by decide) (by decide) rfl KR⟩
end Go.Proofs.YthjjbkgifelooaaDoor.F
