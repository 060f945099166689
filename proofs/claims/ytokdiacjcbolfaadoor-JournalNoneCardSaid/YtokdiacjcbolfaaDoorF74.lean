/- strings.trimRightByte, unicode/utf8.ValidRune, internal/bytealg.Cutover, unicode/utf8.RuneStart, headgate/headgatekeep.Texts, headgate/headgatekeep.Mod, headgate/headgatekeep.Zeros: plain functions, and that the calls come to what they say. No condition. -/
import Derived.Test.YtokdiacjcbolfaaDoorFT
namespace Go.Proofs.YtokdiacjcbolfaaDoor.F
open Go Go.RowKit Go.Proofs.YtokdiacjcbolfaaDoor.X
set_option linter.unusedVariables false
set_option linter.unusedSimpArgs false
/-! ### strings.trimRightByte: function 74 -/
def strings_trimRightByte.b0 (K : Nat) (a1 : Int) (again668 : ByteArray → Option ByteArray) (x669 : ByteArray) : Option ByteArray :=
  if (x669.size : Int) > 0 then (asrt (0 ≤ (IntKind.wrap .i64 ((x669.size : Int) - 1))) (asrt ((IntKind.wrap .i64 ((x669.size : Int) - 1)) < (x669.size : Int)) (if (bt x669 (IntKind.wrap .i64 ((x669.size : Int) - 1))) = a1 then (asrt ((IntKind.wrap .i64 ((x669.size : Int) - 1)) ≤ (x669.size : Int)) (again668 (x669.extract 0 (IntKind.wrap .i64 ((x669.size : Int) - 1) : Int).toNat))) else (some x669)))) else (some x669)
def strings_trimRightByte.l0 (K : Nat) (a1 : Int) : Nat → ByteArray → Option ByteArray
  | 0, _ => none
  | k_ + 1, x669 => strings_trimRightByte.b0 K a1 (strings_trimRightByte.l0 K a1 k_) x669
def strings_trimRightByte.f (K : Nat) (a0 : ByteArray) (a1 : Int) : Option ByteArray :=
  strings_trimRightByte.l0 K a1 K a0
set_option maxRecDepth 100000 in
set_option maxHeartbeats 4000000 in
theorem strings_trimRightByte.calls (K : Nat) (a0 : ByteArray) (a1 : Int)  (r : ByteArray) (w : World)  (h : strings_trimRightByte.f K a0 a1 = some r) :
    Calls Tryd.prog 74 #[.string a0, .int .u8 a1] w (fun e W' => e = .returned (.string r) ∧ Wd w W' [] [] ) := by
  refine sxstart (n := 23) (l := [(0, .string a0), (1, .int .u8 a1)]) Tryd.func74 rfl rfl (Nat.le_of_ble_eq_true KR) (subsA_cons rfl (subsA_cons rfl (subsA_nil _))) ?_
  intro a ha
  have HW := Wd.refl w
  unfold strings_trimRightByte.f at h
  refine wp_seq_k (fun K643 hK644 => ?_)
  refine wp_region_lit ?_
  refine stepp ha 4 (.string (⟨#[]⟩ : ByteArray)) KR KR ?_; clear ha a; intro a ha
  refine endl ?_
  refine thenN (hK644 _ _ ?_); clear hK644
  refine wp_seq_k (fun K645 hK646 => ?_)
  refine wp_block ?_
  refine loopk (fun k => fun a W670 => ∃ (x669 : ByteArray), strings_trimRightByte.l0 K a1 k x669 = some r ∧ Has 23 [(0, .string x669), (1, .int .u8 a1)] a ∧ Wd w W670 [] []) K ?_ ?_
  · skip
    exact ⟨a0, h, ha.sub (subs_cons KR (subs_cons KR (subs_nil _))), HW.pick [] [] (by decide) (by decide) KR KR⟩
  · skip
    intro k a W670 hI
    obtain ⟨x669, h, ha, HW⟩ := hI
    cases k with
    | zero => exact (none_some (show none = some r from h)).elim
    | succ k671 =>
      replace h : strings_trimRightByte.b0 K a1 (strings_trimRightByte.l0 K a1 k671) x669 = some r := h
      obtain ⟨again668, hag672⟩ : ∃ g_, g_ = strings_trimRightByte.l0 K a1 k671 := ⟨_, rfl⟩
      rw [← hag672] at h
      unfold strings_trimRightByte.b0 at h
      refine wp_seq_k (fun K673 hK674 => ?_)
      refine wp_seq_k (fun K675 hK676 => ?_)
      refine wp_region_lit ?_
      refine stepp ha 5 (.string x669) KR KR ?_; clear ha a; intro a ha
      refine stepp ha 6 (.int .i64 (x669.size : Int)) KR KR ?_; clear ha a; intro a ha
      refine stepp ha 7 (.bool (decide ((x669.size : Int) > 0))) KR KR ?_; clear ha a; intro a ha
      refine stepp ha 8 (.bool (decide ((x669.size : Int) > 0))) KR KR ?_; clear ha a; intro a ha
      by_cases hp677 : (x669.size : Int) > 0
      · skip
        replace h := ite_pos' h hp677
        replace ha := ha.bool 8 KR (decide_eq_true hp677)
        refine stepp ha 9 (.string x669) KR KR ?_; clear ha a; intro a ha
        refine stepp ha 10 (.string x669) KR KR ?_; clear ha a; intro a ha
        refine stepp ha 11 (.int .i64 (x669.size : Int)) KR KR ?_; clear ha a; intro a ha
        refine stepp ha 12 (.int .i64 (IntKind.wrap .i64 ((x669.size : Int) - 1))) KR KR ?_; clear ha a; intro a ha
        obtain ⟨hA678, h_⟩ := asrt_some h; clear h; have h := h_; clear h_
        obtain ⟨hA679, h_⟩ := asrt_some h; clear h; have h := h_; clear h_
        refine stepsi ha 13 9 (.tmp 9) (.tmp 12) x669 .i64 (IntKind.wrap .i64 ((x669.size : Int) - 1)) rfl KR KR KR hA678 (show (IntKind.wrap .i64 ((x669.size : Int) - 1) : Int) < ((x669).size : Int) from hA679) KR ?_; clear ha a; intro a ha
        refine stepp ha 14 (.int .u8 a1) KR KR ?_; clear ha a; intro a ha
        refine stepp ha 15 (.bool ((bt x669 (IntKind.wrap .i64 ((x669.size : Int) - 1))) == a1)) KR KR ?_; clear ha a; intro a ha
        refine stepp ha 16 (.bool ((bt x669 (IntKind.wrap .i64 ((x669.size : Int) - 1))) == a1)) KR KR ?_; clear ha a; intro a ha
        refine endl ?_
        refine thenN (hK676 _ _ ?_); clear hK676
        by_cases hp680 : (bt x669 (IntKind.wrap .i64 ((x669.size : Int) - 1))) = a1
        · skip
          replace h := ite_pos' h hp680
          refine condT ha KR KR (t := ((bt x669 (IntKind.wrap .i64 ((x669.size : Int) - 1))) == a1)) (ieq_t hp680) ?_
          refine wp_skip ?_
          refine thenN (hK674 _ _ ?_); clear hK674
          refine wp_block ?_
          refine wp_region_lit ?_
          refine stepp ha 17 (.string x669) KR KR ?_; clear ha a; intro a ha
          refine stepp ha 18 (.string x669) KR KR ?_; clear ha a; intro a ha
          refine stepp ha 19 (.int .i64 (x669.size : Int)) KR KR ?_; clear ha a; intro a ha
          refine stepp ha 20 (.int .i64 (IntKind.wrap .i64 ((x669.size : Int) - 1))) KR KR ?_; clear ha a; intro a ha
          obtain ⟨hA681, h_⟩ := asrt_some h; clear h; have h := h_; clear h_
          refine stepssh ha 21 9 (.tmp 17) (.tmp 20) x669 .i64 (IntKind.wrap .i64 ((x669.size : Int) - 1)) rfl KR KR KR hA678 (show (IntKind.wrap .i64 ((x669.size : Int) - 1) : Int) ≤ ((x669).size : Int) from hA681) KR ?_; clear ha a; intro a ha
          refine stepp ha 0 (.string (x669.extract 0 (IntKind.wrap .i64 ((x669.size : Int) - 1) : Int).toNat)) KR KR ?_; clear ha a; intro a ha
          refine endl ?_
          refine blkN ?_
          exact thenN ⟨k671, Nat.lt_succ_self k671, x669.extract 0 (IntKind.wrap .i64 ((x669.size : Int) - 1) : Int).toNat, (by rw [← hag672]; exact h), ha.sub (subs_cons KR (subs_cons KR (subs_nil _))), HW.pick [] [] (by decide) (by decide) KR KR⟩
        · skip
          replace h := ite_neg' h hp680
          refine condF ha KR KR (t := ((bt x669 (IntKind.wrap .i64 ((x669.size : Int) - 1))) == a1)) (ieq_f hp680) ?_
          refine wp_exit ?_
          refine thenE ?_
          refine thenE ?_
          refine inBlk ?_
          refine thenN (hK646 _ _ ?_); clear hK646
          refine wp_seq_k (fun K682 hK683 => ?_)
          refine wp_region_lit ?_
          refine stepp ha 22 (.string x669) KR KR ?_; clear ha a; intro a ha
          refine stepp ha 4 (.string x669) KR KR ?_; clear ha a; intro a ha
          refine endl ?_
          refine thenN (hK683 _ _ ?_); clear hK683
          refine wp_ret ?_
          obtain rfl := Option.some.inj h
          exact finv ha _ _ rfl (.tmp (v := .string x669) KR .nil) (.string x669) rfl ⟨rfl, HW.pick [] [] (by decide) (by decide) rfl KR⟩
      · skip
        replace h := ite_neg' h hp677
        replace ha := ha.bool 8 KR (decide_eq_false hp677)
        refine stepo ha 9 KR ?_; clear ha a; intro a ha
        refine stepo ha 10 KR ?_; clear ha a; intro a ha
        refine stepo ha 11 KR ?_; clear ha a; intro a ha
        refine stepo ha 12 KR ?_; clear ha a; intro a ha
        refine stepo ha 13 KR ?_; clear ha a; intro a ha
        refine stepo ha 14 KR ?_; clear ha a; intro a ha
        refine stepo ha 15 KR ?_; clear ha a; intro a ha
        refine stepp ha 16 (.bool false) KR KR ?_; clear ha a; intro a ha
        refine endl ?_
        refine thenN (hK676 _ _ ?_); clear hK676
        refine condF ha KR KR (t := false) (rfl) ?_
        refine wp_exit ?_
        refine thenE ?_
        refine thenE ?_
        refine inBlk ?_
        refine thenN (hK646 _ _ ?_); clear hK646
        refine wp_seq_k (fun K684 hK685 => ?_)
        refine wp_region_lit ?_
        refine stepp ha 22 (.string x669) KR KR ?_; clear ha a; intro a ha
        refine stepp ha 4 (.string x669) KR KR ?_; clear ha a; intro a ha
        refine endl ?_
        refine thenN (hK685 _ _ ?_); clear hK685
        refine wp_ret ?_
        obtain rfl := Option.some.inj h
        exact finv ha _ _ rfl (.tmp (v := .string x669) KR .nil) (.string x669) rfl ⟨rfl, HW.pick [] [] (by decide) (by decide) rfl KR⟩
/-! ### unicode/utf8.ValidRune: function 89 -/
def utf8_ValidRune.j0 (K : Nat) (a0 : Int) (x731 : Bool) : Option Bool :=
  if x731 = true then (some true) else (if (57343 : Int) < a0 then (if a0 ≤ 1114111 then (some true) else (some false)) else (some false))
def utf8_ValidRune.f (K : Nat) (a0 : Int) : Option Bool :=
  if (0 : Int) ≤ a0 then (utf8_ValidRune.j0 K a0 (decide (a0 < 55296))) else (utf8_ValidRune.j0 K a0 false)
set_option maxRecDepth 100000 in
set_option maxHeartbeats 4000000 in
theorem utf8_ValidRune.calls (K : Nat) (a0 : Int)  (r : Bool) (w : World)  (h : utf8_ValidRune.f K a0 = some r) :
    Calls Tryd.prog 89 #[.int .i32 a0] w (fun e W' => e = .returned (.bool r) ∧ Wd w W' [] [] ) := by
  refine sxstart (n := 17) (l := [(0, .int .i32 a0)]) Tryd.func89 rfl rfl (Nat.le_of_ble_eq_true KR) (subsA_cons rfl (subsA_nil _)) ?_
  intro a ha
  have HW := Wd.refl w
  unfold utf8_ValidRune.f at h
  refine wp_seq_k (fun K724 hK725 => ?_)
  refine wp_region_lit ?_
  refine stepp ha 2 (.bool false) KR KR ?_; clear ha a; intro a ha
  refine endl ?_
  refine thenN (hK725 _ _ ?_); clear hK725
  refine wp_seq_k (fun K726 hK727 => ?_)
  refine wp_block ?_
  refine wp_seq_k (fun K728 hK729 => ?_)
  refine cutn (fun a W732 => ∃ (x731 : Bool), utf8_ValidRune.j0 K a0 x731 = some r ∧ Has 17 [(0, .int .i32 a0), (3, .bool x731)] a ∧ Wd w W732 [] []) ?_ ?_
  · skip
    refine wp_region_lit ?_
    refine stepp ha 4 (.int .i32 a0) KR KR ?_; clear ha a; intro a ha
    refine stepp ha 5 (.bool (decide ((0 : Int) ≤ a0))) KR KR ?_; clear ha a; intro a ha
    refine stepp ha 6 (.bool (decide ((0 : Int) ≤ a0))) KR KR ?_; clear ha a; intro a ha
    by_cases hp730 : (0 : Int) ≤ a0
    · skip
      replace h := ite_pos' h hp730
      replace ha := ha.bool 6 KR (decide_eq_true hp730)
      refine stepp ha 7 (.int .i32 a0) KR KR ?_; clear ha a; intro a ha
      refine stepp ha 8 (.bool (decide (a0 < 55296))) KR KR ?_; clear ha a; intro a ha
      refine stepp ha 9 (.bool (decide (a0 < 55296))) KR KR ?_; clear ha a; intro a ha
      refine stepp ha 3 (.bool (decide (a0 < 55296))) KR KR ?_; clear ha a; intro a ha
      refine endl ?_
      exact thenN ⟨decide (a0 < 55296), h, ha.sub (subs_cons KR (subs_cons KR (subs_nil _))), HW.pick [] [] (by decide) (by decide) KR KR⟩
    · skip
      replace h := ite_neg' h hp730
      replace ha := ha.bool 6 KR (decide_eq_false hp730)
      refine stepo ha 7 KR ?_; clear ha a; intro a ha
      refine stepo ha 8 KR ?_; clear ha a; intro a ha
      refine stepp ha 9 (.bool false) KR KR ?_; clear ha a; intro a ha
      refine stepp ha 3 (.bool false) KR KR ?_; clear ha a; intro a ha
      refine endl ?_
      exact thenN ⟨false, h, ha.sub (subs_cons KR (subs_cons KR (subs_nil _))), HW.pick [] [] (by decide) (by decide) KR KR⟩
  · skip
    intro a W732 hJ
    obtain ⟨x731, h, ha, HW⟩ := hJ
    replace h : utf8_ValidRune.j0 K a0 x731 = some r := h
    unfold utf8_ValidRune.j0 at h
    refine hK729 _ _ ?_; clear hK729
    by_cases hp733 : x731 = true
    · skip
      replace h := ite_pos' h hp733
      refine condT ha KR KR (t := x731) (hp733) ?_
      refine wp_seq_k (fun K734 hK735 => ?_)
      refine wp_region_lit ?_
      refine stepp ha 2 (.bool true) KR KR ?_; clear ha a; intro a ha
      refine endl ?_
      refine thenN (hK735 _ _ ?_); clear hK735
      refine wp_ret ?_
      refine blkR ?_
      refine thenR ?_
      obtain rfl := Option.some.inj h
      exact finv ha _ _ rfl (.tmp (v := .bool true) KR .nil) (.bool true) rfl ⟨rfl, HW.pick [] [] (by decide) (by decide) rfl KR⟩
    · skip
      replace h := ite_neg' h hp733
      refine condF ha KR KR (t := x731) (bool_f hp733) ?_
      refine wp_seq_k (fun K736 hK737 => ?_)
      refine wp_region_lit ?_
      refine stepp ha 11 (.int .i32 a0) KR KR ?_; clear ha a; intro a ha
      refine stepp ha 12 (.bool (decide ((57343 : Int) < a0))) KR KR ?_; clear ha a; intro a ha
      refine stepp ha 13 (.bool (decide ((57343 : Int) < a0))) KR KR ?_; clear ha a; intro a ha
      by_cases hp738 : (57343 : Int) < a0
      · skip
        replace h := ite_pos' h hp738
        replace ha := ha.bool 13 KR (decide_eq_true hp738)
        refine stepp ha 14 (.int .i32 a0) KR KR ?_; clear ha a; intro a ha
        refine stepp ha 15 (.bool (decide (a0 ≤ 1114111))) KR KR ?_; clear ha a; intro a ha
        refine stepp ha 16 (.bool (decide (a0 ≤ 1114111))) KR KR ?_; clear ha a; intro a ha
        refine stepp ha 10 (.bool (decide (a0 ≤ 1114111))) KR KR ?_; clear ha a; intro a ha
        refine endl ?_
        refine thenN (hK737 _ _ ?_); clear hK737
        by_cases hp739 : a0 ≤ 1114111
        · skip
          replace h := ite_pos' h hp739
          refine condT ha KR KR (t := decide (a0 ≤ 1114111)) (decide_eq_true hp739) ?_
          refine wp_seq_k (fun K740 hK741 => ?_)
          refine wp_region_lit ?_
          refine stepp ha 2 (.bool true) KR KR ?_; clear ha a; intro a ha
          refine endl ?_
          refine thenN (hK741 _ _ ?_); clear hK741
          refine wp_ret ?_
          refine blkR ?_
          refine thenR ?_
          obtain rfl := Option.some.inj h
          exact finv ha _ _ rfl (.tmp (v := .bool true) KR .nil) (.bool true) rfl ⟨rfl, HW.pick [] [] (by decide) (by decide) rfl KR⟩
        · skip
          replace h := ite_neg' h hp739
          refine condF ha KR KR (t := decide (a0 ≤ 1114111)) (decide_eq_false hp739) ?_
          refine wp_skip ?_
          refine blkN ?_
          refine thenN (hK727 _ _ ?_); clear hK727
          refine wp_seq_k (fun K742 hK743 => ?_)
          refine wp_region_lit ?_
          refine stepp ha 2 (.bool false) KR KR ?_; clear ha a; intro a ha
          refine endl ?_
          refine thenN (hK743 _ _ ?_); clear hK743
          refine wp_ret ?_
          obtain rfl := Option.some.inj h
          exact finv ha _ _ rfl (.tmp (v := .bool false) KR .nil) (.bool false) rfl ⟨rfl, HW.pick [] [] (by decide) (by decide) rfl KR⟩
      · skip
        replace h := ite_neg' h hp738
        replace ha := ha.bool 13 KR (decide_eq_false hp738)
        refine stepo ha 14 KR ?_; clear ha a; intro a ha
        refine stepo ha 15 KR ?_; clear ha a; intro a ha
        refine stepp ha 16 (.bool false) KR KR ?_; clear ha a; intro a ha
        refine stepp ha 10 (.bool false) KR KR ?_; clear ha a; intro a ha
        refine endl ?_
        refine thenN (hK737 _ _ ?_); clear hK737
        refine condF ha KR KR (t := false) (rfl) ?_
        refine wp_skip ?_
        refine blkN ?_
        refine thenN (hK727 _ _ ?_); clear hK727
        refine wp_seq_k (fun K744 hK745 => ?_)
        refine wp_region_lit ?_
        refine stepp ha 2 (.bool false) KR KR ?_; clear ha a; intro a ha
        refine endl ?_
        refine thenN (hK745 _ _ ?_); clear hK745
        refine wp_ret ?_
        obtain rfl := Option.some.inj h
        exact finv ha _ _ rfl (.tmp (v := .bool false) KR .nil) (.bool false) rfl ⟨rfl, HW.pick [] [] (by decide) (by decide) rfl KR⟩
/-! ### internal/bytealg.Cutover: function 90 -/
def bytealg_Cutover.f (a0 : Int) : Option Int :=
  some (IntKind.wrap .i64 (Int.tdiv (IntKind.wrap .i64 (a0 + 16)) 8))
set_option maxRecDepth 100000 in
set_option maxHeartbeats 4000000 in
theorem bytealg_Cutover.calls (a0 : Int)  (r : Int) (w : World)  (h : bytealg_Cutover.f a0 = some r) :
    Calls Tryd.prog 90 #[.int .i64 a0] w (fun e W' => e = .returned (.int .i64 r) ∧ Wd w W' [] [] ) := by
  refine sxstart (n := 6) (l := [(0, .int .i64 a0)]) Tryd.func90 rfl rfl (Nat.le_of_ble_eq_true KR) (subsA_cons rfl (subsA_nil _)) ?_
  intro a ha
  have HW := Wd.refl w
  unfold bytealg_Cutover.f at h
  refine wp_seq_k (fun K746 hK747 => ?_)
  refine wp_region_lit ?_
  refine stepp ha 2 (.int .i64 0) KR KR ?_; clear ha a; intro a ha
  refine endl ?_
  refine thenN (hK747 _ _ ?_); clear hK747
  refine wp_seq_k (fun K748 hK749 => ?_)
  refine wp_region_lit ?_
  refine stepp ha 3 (.int .i64 a0) KR KR ?_; clear ha a; intro a ha
  refine stepp ha 4 (.int .i64 (IntKind.wrap .i64 (a0 + 16))) KR KR ?_; clear ha a; intro a ha
  refine stepp ha 5 (.int .i64 (IntKind.wrap .i64 (Int.tdiv (IntKind.wrap .i64 (a0 + 16)) 8))) KR KR ?_; clear ha a; intro a ha
  refine stepp ha 2 (.int .i64 (IntKind.wrap .i64 (Int.tdiv (IntKind.wrap .i64 (a0 + 16)) 8))) KR KR ?_; clear ha a; intro a ha
  refine endl ?_
  refine thenN (hK749 _ _ ?_); clear hK749
  refine wp_ret ?_
  obtain rfl := Option.some.inj h
  exact finv ha _ _ rfl (.tmp (v := .int .i64 (IntKind.wrap .i64 (Int.tdiv (IntKind.wrap .i64 (a0 + 16)) 8))) KR .nil) (.int .i64 (IntKind.wrap .i64 (Int.tdiv (IntKind.wrap .i64 (a0 + 16)) 8))) rfl ⟨rfl, HW.pick [] [] (by decide) (by decide) rfl KR⟩
/-! ### unicode/utf8.RuneStart: function 87 -/
def utf8_RuneStart.f (a0 : Int) : Option Bool :=
  some ((band .u8 a0 192) != 128)
set_option maxRecDepth 100000 in
set_option maxHeartbeats 4000000 in
theorem utf8_RuneStart.calls (a0 : Int)  (r : Bool) (w : World)  (h : utf8_RuneStart.f a0 = some r) :
    Calls Tryd.prog 87 #[.int .u8 a0] w (fun e W' => e = .returned (.bool r) ∧ Wd w W' [] [] ) := by
  refine sxstart (n := 6) (l := [(0, .int .u8 a0)]) Tryd.func87 rfl rfl (Nat.le_of_ble_eq_true KR) (subsA_cons rfl (subsA_nil _)) ?_
  intro a ha
  have HW := Wd.refl w
  unfold utf8_RuneStart.f at h
  refine wp_seq_k (fun K775 hK776 => ?_)
  refine wp_region_lit ?_
  refine stepp ha 2 (.bool false) KR KR ?_; clear ha a; intro a ha
  refine endl ?_
  refine thenN (hK776 _ _ ?_); clear hK776
  refine wp_seq_k (fun K777 hK778 => ?_)
  refine wp_region_lit ?_
  refine stepp ha 3 (.int .u8 a0) KR KR ?_; clear ha a; intro a ha
  refine stepp ha 4 (.int .u8 (band .u8 a0 192)) KR KR ?_; clear ha a; intro a ha
  refine stepp ha 5 (.bool ((band .u8 a0 192) != 128)) KR KR ?_; clear ha a; intro a ha
  refine stepp ha 2 (.bool ((band .u8 a0 192) != 128)) KR KR ?_; clear ha a; intro a ha
  refine endl ?_
  refine thenN (hK778 _ _ ?_); clear hK778
  refine wp_ret ?_
  obtain rfl := Option.some.inj h
  exact finv ha _ _ rfl (.tmp (v := .bool ((band .u8 a0 192) != 128)) KR .nil) (.bool ((band .u8 a0 192) != 128)) rfl ⟨rfl, HW.pick [] [] (by decide) (by decide) rfl KR⟩
/-! ### headgate/headgatekeep.Texts: function 17 -/
def headgatekeep_Texts.b0 (K : Nat) (a0 : List ByteArray) (a1 : List ByteArray) (again1034 : Int → Option Bool) (x1035 : Int) : Option Bool :=
  if x1035 < (a0.length : Int) then (asrt (0 ≤ x1035) (asrt (x1035 < (a1.length : Int)) (if (rdL (⟨#[]⟩ : ByteArray) a0 x1035) = (rdL (⟨#[]⟩ : ByteArray) a1 x1035) then (again1034 (IntKind.wrap .i64 (x1035 + 1))) else (some false)))) else (some true)
def headgatekeep_Texts.l0 (K : Nat) (a0 : List ByteArray) (a1 : List ByteArray) : Nat → Int → Option Bool
  | 0, _ => none
  | k_ + 1, x1035 => headgatekeep_Texts.b0 K a0 a1 (headgatekeep_Texts.l0 K a0 a1 k_) x1035
def headgatekeep_Texts.f (K : Nat) (a0 : List ByteArray) (a1 : List ByteArray) : Option Bool :=
  if (a0.length : Int) = (a1.length : Int) then (headgatekeep_Texts.l0 K a0 a1 K 0) else (some false)
set_option maxRecDepth 100000 in
set_option maxHeartbeats 4000000 in
theorem headgatekeep_Texts.calls (K : Nat) (a0 : List ByteArray) (a1 : List ByteArray) (A0_0 : Option Addr) (c0_0 : Nat) (A1_1 : Option Addr) (c1_1 : Nat) (r : Bool) (w : World) (hr0_0 : Rd 1 w (.slice A0_0 a0.length c0_0) a0.length (encs encS a0)) (hr1_1 : Rd 1 w (.slice A1_1 a1.length c1_1) a1.length (encs encS a1)) (h : headgatekeep_Texts.f K a0 a1 = some r) :
    Calls Tryd.prog 17 #[.slice A0_0 a0.length c0_0, .slice A1_1 a1.length c1_1] w (fun e W' => e = .returned (.bool r) ∧ Wd w W' [] [] ) := by
  refine sxstart (n := 26) (l := [(0, .slice A0_0 a0.length c0_0), (1, .slice A1_1 a1.length c1_1)]) Tryd.func17 rfl rfl (Nat.le_of_ble_eq_true KR) (subsA_cons rfl (subsA_cons rfl (subsA_nil _))) ?_
  intro a ha
  have HW := Wd.refl w
  unfold headgatekeep_Texts.f at h
  refine wp_seq_k (fun K972 hK973 => ?_)
  refine wp_region_lit ?_
  refine stepp ha 4 (.bool false) KR KR ?_; clear ha a; intro a ha
  refine endl ?_
  refine thenN (hK973 _ _ ?_); clear hK973
  refine wp_seq_k (fun K974 hK975 => ?_)
  refine wp_seq_k (fun K976 hK977 => ?_)
  refine wp_region_lit ?_
  refine stepp ha 6 (.slice A0_0 a0.length c0_0) KR KR ?_; clear ha a; intro a ha
  refine stepp ha 7 (.int .i64 (a0.length : Int)) KR KR ?_; clear ha a; intro a ha
  refine stepp ha 8 (.slice A1_1 a1.length c1_1) KR KR ?_; clear ha a; intro a ha
  refine stepp ha 9 (.int .i64 (a1.length : Int)) KR KR ?_; clear ha a; intro a ha
  refine stepp ha 10 (.bool ((a0.length : Int) != (a1.length : Int))) KR KR ?_; clear ha a; intro a ha
  refine endl ?_
  refine thenN (hK977 _ _ ?_); clear hK977
  by_cases hp978 : (a0.length : Int) = (a1.length : Int)
  · skip
    replace h := ite_pos' h hp978
    refine condF ha KR KR (t := ((a0.length : Int) != (a1.length : Int))) (ineq_f hp978) ?_
    refine wp_skip ?_
    refine thenN (hK975 _ _ ?_); clear hK975
    refine wp_seq_k (fun K981 hK982 => ?_)
    refine wp_seq_k (fun K983 hK984 => ?_)
    refine wp_region_lit ?_
    refine stepp ha 5 (.int .i64 0) KR KR ?_; clear ha a; intro a ha
    refine endl ?_
    refine thenN (hK984 _ _ ?_); clear hK984
    refine wp_block ?_
    refine loopk (fun k => fun a W1036 => ∃ (x1035 : Int), headgatekeep_Texts.l0 K a0 a1 k x1035 = some r ∧ Has 26 [(0, .slice A0_0 a0.length c0_0), (1, .slice A1_1 a1.length c1_1), (5, .int .i64 x1035)] a ∧ Wd w W1036 [] []) K ?_ ?_
    · skip
      exact ⟨0, h, ha.sub (subs_cons KR (subs_cons KR (subs_cons KR (subs_nil _)))), HW.pick [] [] (by decide) (by decide) KR KR⟩
    · skip
      intro k a W1036 hI
      obtain ⟨x1035, h, ha, HW⟩ := hI
      cases k with
      | zero => exact (none_some (show none = some r from h)).elim
      | succ k1037 =>
        replace h : headgatekeep_Texts.b0 K a0 a1 (headgatekeep_Texts.l0 K a0 a1 k1037) x1035 = some r := h
        obtain ⟨again1034, hag1038⟩ : ∃ g_, g_ = headgatekeep_Texts.l0 K a0 a1 k1037 := ⟨_, rfl⟩
        rw [← hag1038] at h
        unfold headgatekeep_Texts.b0 at h
        refine wp_seq_k (fun K1039 hK1040 => ?_)
        refine wp_seq_k (fun K1041 hK1042 => ?_)
        refine wp_region_lit ?_
        refine stepp ha 11 (.int .i64 x1035) KR KR ?_; clear ha a; intro a ha
        refine stepp ha 12 (.slice A0_0 a0.length c0_0) KR KR ?_; clear ha a; intro a ha
        refine stepp ha 13 (.int .i64 (a0.length : Int)) KR KR ?_; clear ha a; intro a ha
        refine stepp ha 14 (.bool (decide (x1035 < (a0.length : Int)))) KR KR ?_; clear ha a; intro a ha
        refine endl ?_
        refine thenN (hK1042 _ _ ?_); clear hK1042
        by_cases hp1043 : x1035 < (a0.length : Int)
        · skip
          replace h := ite_pos' h hp1043
          refine condT ha KR KR (t := decide (x1035 < (a0.length : Int))) (decide_eq_true hp1043) ?_
          refine wp_skip ?_
          refine thenN (hK1040 _ _ ?_); clear hK1040
          refine wp_seq_k (fun K1044 hK1045 => ?_)
          refine wp_block ?_
          refine wp_seq_k (fun K1046 hK1047 => ?_)
          obtain ⟨hA1048, h_⟩ := asrt_some h; clear h; have h := h_; clear h_
          obtain ⟨b1050, off1051, hA1052⟩ := Rd.addr ((HW.rd0 hr0_0)) hA1048 (show (x1035 : Int) < ((a0).length : Int) from hp1043)
          obtain ⟨hA1053, h_⟩ := asrt_some h; clear h; have h := h_; clear h_
          obtain ⟨b1055, off1056, hA1057⟩ := Rd.addr ((HW.rd0 hr1_1)) hA1048 (show (x1035 : Int) < ((a1).length : Int) from hA1053)
          refine regionG 9 KR KR ha HW [.fix (.slice A0_0 a0.length c0_0), .fix (.int .i64 x1035), .fix (.pointer (some ⟨b1050, off1051 + (x1035 : Int).toNat * 1, none⟩)), .fix (.string (rdL (⟨#[]⟩ : ByteArray) a0 x1035)), .fix (.slice A1_1 a1.length c1_1), .fix (.int .i64 x1035), .fix (.pointer (some ⟨b1055, off1056 + (x1035 : Int).toNat * 1, none⟩)), .fix (.string (rdL (⟨#[]⟩ : ByteArray) a1 x1035)), .fix (.bool (!((rdL (⟨#[]⟩ : ByteArray) a0 x1035).toList == (rdL (⟨#[]⟩ : ByteArray) a1 x1035).toList)))] ?_ ?_
          · skip
            refine ⟨?_, ?_, ?_, ?_, ?_, ?_, ?_, ?_, ?_, trivial⟩
            · skip
              intro a wr hn hd HW hs; have ha := hasNil hn hd
              have ha := ha.add (seeE hs 0 (.slice A0_0 a0.length c0_0) KR KR)
              refine yStep ha 17 KR ?_; intro l_ ha HK
              refine stepp ha 17 (.slice A0_0 a0.length c0_0) KR KR ?_; intro ax hax; exact HK _ _ _ hax rfl (Below.refl _ _)
            · skip
              intro a wr hn hd HW hs; have ha := hasNil hn hd
              have ha := ha.add (seeE hs 5 (.int .i64 x1035) KR KR)
              refine yStep ha 18 KR ?_; intro l_ ha HK
              refine stepp ha 18 (.int .i64 x1035) KR KR ?_; intro ax hax; exact HK _ _ _ hax rfl (Below.refl _ _)
            · skip
              intro a wr hn hd HW hs; have ha := hasNil hn hd
              have ha := ha.add (seeF hs 17 0 (.slice A0_0 a0.length c0_0) KR KR)
              have ha := ha.add (seeF hs 18 1 (.int .i64 x1035) KR KR)
              replace ha := ha.turn 17 (u := .slice A0_0 a0.length c0_0) (v := .slice (some ⟨b1050, off1051, none⟩) a0.length c0_0) KR (by rw [hA1052])
              refine yStep ha 19 KR ?_; intro l_ ha HK
              refine stepif ha 19 (sz := 1) (len := a0.length) (b := b1050) (off := off1051) (c := c0_0) 22 9 (.tmp 17) (.tmp 18) .i64 x1035 rfl KR KR KR KR hA1048 (show (x1035 : Int) < ((a0).length : Int) from hp1043) KR ?_; intro ax hax; exact HK _ _ _ hax rfl (Below.refl _ _)
            · skip
              intro a wr hn hd HW hs; have ha := hasNil hn hd
              have ha := ha.add (seeF hs 19 2 (.pointer (some ⟨b1050, off1051 + (x1035 : Int).toNat * 1, none⟩)) KR KR)
              refine yStep ha 20 KR ?_; intro l_ ha HK
              refine stepl ha 20 (Rd.ca encS (⟨#[]⟩ : ByteArray) (fun _ => rfl) (by have h_ := ((HW.rd0 hr0_0)); rw [hA1052] at h_; exact h_) hA1048 (show (x1035 : Int) < ((a0).length : Int) from hp1043)) 9 0 (.tmp 19) (.string (rdL (⟨#[]⟩ : ByteArray) a0 x1035)) rfl KR KR KR ?_; intro ax hax; exact HK _ _ _ hax rfl (Below.refl _ _)
            · skip
              intro a wr hn hd HW hs; have ha := hasNil hn hd
              have ha := ha.add (seeE hs 1 (.slice A1_1 a1.length c1_1) KR KR)
              refine yStep ha 21 KR ?_; intro l_ ha HK
              refine stepp ha 21 (.slice A1_1 a1.length c1_1) KR KR ?_; intro ax hax; exact HK _ _ _ hax rfl (Below.refl _ _)
            · skip
              intro a wr hn hd HW hs; have ha := hasNil hn hd
              have ha := ha.add (seeE hs 5 (.int .i64 x1035) KR KR)
              refine yStep ha 22 KR ?_; intro l_ ha HK
              refine stepp ha 22 (.int .i64 x1035) KR KR ?_; intro ax hax; exact HK _ _ _ hax rfl (Below.refl _ _)
            · skip
              intro a wr hn hd HW hs; have ha := hasNil hn hd
              have ha := ha.add (seeF hs 21 4 (.slice A1_1 a1.length c1_1) KR KR)
              have ha := ha.add (seeF hs 22 5 (.int .i64 x1035) KR KR)
              replace ha := ha.turn 21 (u := .slice A1_1 a1.length c1_1) (v := .slice (some ⟨b1055, off1056, none⟩) a1.length c1_1) KR (by rw [hA1057])
              refine yStep ha 23 KR ?_; intro l_ ha HK
              refine stepif ha 23 (sz := 1) (len := a1.length) (b := b1055) (off := off1056) (c := c1_1) 22 9 (.tmp 21) (.tmp 22) .i64 x1035 rfl KR KR KR KR hA1048 (show (x1035 : Int) < ((a1).length : Int) from hA1053) KR ?_; intro ax hax; exact HK _ _ _ hax rfl (Below.refl _ _)
            · skip
              intro a wr hn hd HW hs; have ha := hasNil hn hd
              have ha := ha.add (seeF hs 23 6 (.pointer (some ⟨b1055, off1056 + (x1035 : Int).toNat * 1, none⟩)) KR KR)
              refine yStep ha 24 KR ?_; intro l_ ha HK
              refine stepl ha 24 (Rd.ca encS (⟨#[]⟩ : ByteArray) (fun _ => rfl) (by have h_ := ((HW.rd0 hr1_1)); rw [hA1057] at h_; exact h_) hA1048 (show (x1035 : Int) < ((a1).length : Int) from hA1053)) 9 0 (.tmp 23) (.string (rdL (⟨#[]⟩ : ByteArray) a1 x1035)) rfl KR KR KR ?_; intro ax hax; exact HK _ _ _ hax rfl (Below.refl _ _)
            · skip
              intro a wr hn hd HW hs; have ha := hasNil hn hd
              have ha := ha.add (seeF hs 20 3 (.string (rdL (⟨#[]⟩ : ByteArray) a0 x1035)) KR KR)
              have ha := ha.add (seeF hs 24 7 (.string (rdL (⟨#[]⟩ : ByteArray) a1 x1035)) KR KR)
              refine yStep ha 25 KR ?_; intro l_ ha HK
              refine stepp ha 25 (.bool (!((rdL (⟨#[]⟩ : ByteArray) a0 x1035).toList == (rdL (⟨#[]⟩ : ByteArray) a1 x1035).toList))) KR KR ?_; intro ax hax; exact HK _ _ _ hax rfl (Below.refl _ _)
          · skip
            intro a W1058 ha HW he hf
            replace ha := ha.add (he 0 (.slice A0_0 a0.length c0_0) KR KR)
            replace ha := ha.add (he 1 (.slice A1_1 a1.length c1_1) KR KR)
            replace ha := ha.add (he 5 (.int .i64 x1035) KR KR)
            replace ha := ha.add (gotF (m := 9) (j := 8) (d := 25) (v := .bool (!((rdL (⟨#[]⟩ : ByteArray) a0 x1035).toList == (rdL (⟨#[]⟩ : ByteArray) a1 x1035).toList))) hf KR KR KR)
            clear he hf
            refine endl ?_
            refine thenN (hK1047 _ _ ?_); clear hK1047
            by_cases hp1059 : (rdL (⟨#[]⟩ : ByteArray) a0 x1035) = (rdL (⟨#[]⟩ : ByteArray) a1 x1035)
            · skip
              replace h := ite_pos' h hp1059
              refine condF ha KR KR (t := (!((rdL (⟨#[]⟩ : ByteArray) a0 x1035).toList == (rdL (⟨#[]⟩ : ByteArray) a1 x1035).toList))) (str_ne_f hp1059) ?_
              refine wp_skip ?_
              refine blkN ?_
              refine thenN (hK1045 _ _ ?_); clear hK1045
              refine wp_region_lit ?_
              refine stepp ha 15 (.int .i64 x1035) KR KR ?_; clear ha a; intro a ha
              refine stepp ha 16 (.int .i64 (IntKind.wrap .i64 (x1035 + 1))) KR KR ?_; clear ha a; intro a ha
              refine stepp ha 5 (.int .i64 (IntKind.wrap .i64 (x1035 + 1))) KR KR ?_; clear ha a; intro a ha
              refine endl ?_
              exact thenN ⟨k1037, Nat.lt_succ_self k1037, IntKind.wrap .i64 (x1035 + 1), (by rw [← hag1038]; exact h), ha.sub (subs_cons KR (subs_cons KR (subs_cons KR (subs_nil _)))), HW.pick [] [] (by decide) (by decide) KR KR⟩
            · skip
              replace h := ite_neg' h hp1059
              refine condT ha KR KR (t := (!((rdL (⟨#[]⟩ : ByteArray) a0 x1035).toList == (rdL (⟨#[]⟩ : ByteArray) a1 x1035).toList))) (str_ne_t hp1059) ?_
              refine wp_seq_k (fun K1060 hK1061 => ?_)
              refine wp_region_lit ?_
              refine stepp ha 4 (.bool false) KR KR ?_; clear ha a; intro a ha
              refine endl ?_
              refine thenN (hK1061 _ _ ?_); clear hK1061
              refine wp_ret ?_
              refine blkR ?_
              refine thenR ?_
              refine thenR ?_
              refine blkR ?_
              refine thenR ?_
              obtain rfl := Option.some.inj h
              exact finv ha _ _ rfl (.tmp (v := .bool false) KR .nil) (.bool false) rfl ⟨rfl, HW.pick [] [] (by decide) (by decide) rfl KR⟩
        · skip
          replace h := ite_neg' h hp1043
          refine condF ha KR KR (t := decide (x1035 < (a0.length : Int))) (decide_eq_false hp1043) ?_
          refine wp_exit ?_
          refine thenE ?_
          refine thenE ?_
          refine inBlk ?_
          refine thenN (hK982 _ _ ?_); clear hK982
          refine wp_seq_k (fun K1062 hK1063 => ?_)
          refine wp_region_lit ?_
          refine stepp ha 4 (.bool true) KR KR ?_; clear ha a; intro a ha
          refine endl ?_
          refine thenN (hK1063 _ _ ?_); clear hK1063
          refine wp_ret ?_
          obtain rfl := Option.some.inj h
          exact finv ha _ _ rfl (.tmp (v := .bool true) KR .nil) (.bool true) rfl ⟨rfl, HW.pick [] [] (by decide) (by decide) rfl KR⟩
  · skip
    replace h := ite_neg' h hp978
    refine condT ha KR KR (t := ((a0.length : Int) != (a1.length : Int))) (ineq_t hp978) ?_
    refine wp_seq_k (fun K979 hK980 => ?_)
    refine wp_region_lit ?_
    refine stepp ha 4 (.bool false) KR KR ?_; clear ha a; intro a ha
    refine endl ?_
    refine thenN (hK980 _ _ ?_); clear hK980
    refine wp_ret ?_
    refine thenR ?_
    obtain rfl := Option.some.inj h
    exact finv ha _ _ rfl (.tmp (v := .bool false) KR .nil) (.bool false) rfl ⟨rfl, HW.pick [] [] (by decide) (by decide) rfl KR⟩
/-! ### headgate/headgatekeep.Mod: function 10 -/
def headgatekeep_Mod.f (a0 : Int) (a1 : Int) : Option Int :=
  if a1 < 1 then (some 0) else (asrt (¬ a1 = 0) (some (Int.tmod (IntKind.wrap .i64 ((Int.tmod a0 a1) + a1)) a1)))
set_option maxRecDepth 100000 in
set_option maxHeartbeats 4000000 in
theorem headgatekeep_Mod.calls (a0 : Int) (a1 : Int)  (r : Int) (w : World)  (h : headgatekeep_Mod.f a0 a1 = some r) :
    Calls Tryd.prog 10 #[.int .i64 a0, .int .i64 a1] w (fun e W' => e = .returned (.int .i64 r) ∧ Wd w W' [] [] ) := by
  refine sxstart (n := 14) (l := [(0, .int .i64 a0), (1, .int .i64 a1)]) Tryd.func10 rfl rfl (Nat.le_of_ble_eq_true KR) (subsA_cons rfl (subsA_cons rfl (subsA_nil _))) ?_
  intro a ha
  have HW := Wd.refl w
  unfold headgatekeep_Mod.f at h
  refine wp_seq_k (fun K1068 hK1069 => ?_)
  refine wp_region_lit ?_
  refine stepp ha 4 (.int .i64 0) KR KR ?_; clear ha a; intro a ha
  refine endl ?_
  refine thenN (hK1069 _ _ ?_); clear hK1069
  refine wp_seq_k (fun K1070 hK1071 => ?_)
  refine wp_seq_k (fun K1072 hK1073 => ?_)
  refine wp_region_lit ?_
  refine stepp ha 5 (.int .i64 a1) KR KR ?_; clear ha a; intro a ha
  refine stepp ha 6 (.bool (decide (a1 < 1))) KR KR ?_; clear ha a; intro a ha
  refine endl ?_
  refine thenN (hK1073 _ _ ?_); clear hK1073
  by_cases hp1074 : a1 < 1
  · skip
    replace h := ite_pos' h hp1074
    refine condT ha KR KR (t := decide (a1 < 1)) (decide_eq_true hp1074) ?_
    refine wp_seq_k (fun K1075 hK1076 => ?_)
    refine wp_region_lit ?_
    refine stepp ha 4 (.int .i64 0) KR KR ?_; clear ha a; intro a ha
    refine endl ?_
    refine thenN (hK1076 _ _ ?_); clear hK1076
    refine wp_ret ?_
    refine thenR ?_
    obtain rfl := Option.some.inj h
    exact finv ha _ _ rfl (.tmp (v := .int .i64 0) KR .nil) (.int .i64 0) rfl ⟨rfl, HW.pick [] [] (by decide) (by decide) rfl KR⟩
  · skip
    replace h := ite_neg' h hp1074
    refine condF ha KR KR (t := decide (a1 < 1)) (decide_eq_false hp1074) ?_
    refine wp_skip ?_
    refine thenN (hK1071 _ _ ?_); clear hK1071
    refine wp_seq_k (fun K1077 hK1078 => ?_)
    refine wp_region_lit ?_
    refine stepp ha 7 (.int .i64 a0) KR KR ?_; clear ha a; intro a ha
    refine stepp ha 8 (.int .i64 a1) KR KR ?_; clear ha a; intro a ha
    obtain ⟨hA1079, h_⟩ := asrt_some h; clear h; have h := h_; clear h_
    refine steprem ha 9 3 3 (.tmp 7) (.tmp 8) .i64 a0 a1 rfl KR KR hA1079 KR ?_; clear ha a; intro a ha
    refine stepp ha 10 (.int .i64 a1) KR KR ?_; clear ha a; intro a ha
    refine stepp ha 11 (.int .i64 (IntKind.wrap .i64 ((Int.tmod a0 a1) + a1))) KR KR ?_; clear ha a; intro a ha
    refine stepp ha 12 (.int .i64 a1) KR KR ?_; clear ha a; intro a ha
    refine steprem ha 13 3 3 (.tmp 11) (.tmp 12) .i64 (IntKind.wrap .i64 ((Int.tmod a0 a1) + a1)) a1 rfl KR KR hA1079 KR ?_; clear ha a; intro a ha
    refine stepp ha 4 (.int .i64 (Int.tmod (IntKind.wrap .i64 ((Int.tmod a0 a1) + a1)) a1)) KR KR ?_; clear ha a; intro a ha
    refine endl ?_
    refine thenN (hK1078 _ _ ?_); clear hK1078
    refine wp_ret ?_
    obtain rfl := Option.some.inj h
    exact finv ha _ _ rfl (.tmp (v := .int .i64 (Int.tmod (IntKind.wrap .i64 ((Int.tmod a0 a1) + a1)) a1)) KR .nil) (.int .i64 (Int.tmod (IntKind.wrap .i64 ((Int.tmod a0 a1) + a1)) a1)) rfl ⟨rfl, HW.pick [] [] (by decide) (by decide) rfl KR⟩
/-! ### headgate/headgatekeep.Zeros: function 20 -/
def headgatekeep_Zeros.f (a0 : Int) : Option ByteArray :=
  asrt (0 ≤ a0) (asrt (a0 ≤ 281474976710656) (some (strOfNums (List.replicate (a0 : Int).toNat (0 : Int)))))
set_option maxRecDepth 100000 in
set_option maxHeartbeats 4000000 in
theorem headgatekeep_Zeros.calls (a0 : Int)  (r : ByteArray) (w : World)  (h : headgatekeep_Zeros.f a0 = some r) :
    Calls Tryd.prog 20 #[.int .i64 a0] w (fun e W' => e = .returned (.string r) ∧ Wd w W' [] [] ) := by
  refine sxstart (n := 6) (l := [(0, .int .i64 a0)]) Tryd.func20 rfl rfl (Nat.le_of_ble_eq_true KR) (subsA_cons rfl (subsA_nil _)) ?_
  intro a ha
  have HW := Wd.refl w
  unfold headgatekeep_Zeros.f at h
  refine wp_seq_k (fun K1100 hK1101 => ?_)
  refine wp_region_lit ?_
  refine stepp ha 2 (.string (⟨#[]⟩ : ByteArray)) KR KR ?_; clear ha a; intro a ha
  refine endl ?_
  refine thenN (hK1101 _ _ ?_); clear hK1101
  refine wp_seq_k (fun K1102 hK1103 => ?_)
  refine wp_region_lit ?_
  refine stepp ha 3 (.int .i64 a0) KR KR ?_; clear ha a; intro a ha
  obtain ⟨hA1104, h_⟩ := asrt_some h; clear h; have h := h_; clear h_
  obtain ⟨hA1105, h_⟩ := asrt_some h; clear h; have h := h_; clear h_
  refine stepmk (encI .u8) (0 : Int) ha HW 4 71 5 (.tmp 3) (.tmp 3) .i64 .i64 a0 (.int .u8 0) 1 rfl KR KR KR KR rfl rfl hA1104 (by have := hA1105; omega) (by have := hA1105; omega) KR ?_; clear ha HW a; intro b1106 a W1107 HW ha
  refine stepbt ha 5 71 9 5 (.tmp 4) (v := .slice (some ⟨b1106, 0, none⟩) (List.replicate (a0 : Int).toNat (0 : Int)).length ((a0 : Int).toNat)) (xs := List.replicate (a0 : Int).toNat (0 : Int)) (HW.rdo (i := 0) (q := ⟨5, 1, .slice (some ⟨b1106, 0, none⟩) (List.replicate (a0 : Int).toNat (0 : Int)).length ((a0 : Int).toNat), (List.replicate (a0 : Int).toNat (0 : Int)).length, encs (encI .u8) (List.replicate (a0 : Int).toNat (0 : Int))⟩) KR) rfl KR KR KR KR KR ?_; clear ha a; intro a ha
  refine stepp ha 2 (.string (strOfNums (List.replicate (a0 : Int).toNat (0 : Int)))) KR KR ?_; clear ha a; intro a ha
  refine endl ?_
  refine thenN (hK1103 _ _ ?_); clear hK1103
  refine wp_ret ?_
  obtain rfl := Option.some.inj h
  exact finv ha _ _ rfl (.tmp (v := .string (strOfNums (List.replicate (a0 : Int).toNat (0 : Int)))) KR .nil) (.string (strOfNums (List.replicate (a0 : Int).toNat (0 : Int)))) rfl ⟨rfl, HW.pick [] [] (by decide) (by decide) rfl KR⟩
end Go.Proofs.YtokdiacjcbolfaaDoor.F
