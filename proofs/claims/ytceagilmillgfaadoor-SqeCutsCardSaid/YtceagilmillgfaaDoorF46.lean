/- headgate/headgateref01.PutLittle: a plain function, and that the call comes to what it says. No condition. -/
import Derived.Test.YtceagilmillgfaaDoorFT
namespace Go.Proofs.YtceagilmillgfaaDoor.F
open Go Go.RowKit Go.Proofs.YtceagilmillgfaaDoor.X
set_option linter.unusedVariables false
set_option linter.unusedSimpArgs false
/-! ### headgate/headgateref01.PutLittle: function 46 -/
def headgateref01_PutLittle.b0 (K : Nat) (a1 : Int) (again785 : Int → (List Int) → Int → Option ByteArray) (x786 : Int) (x787 : List Int) (x791 : Int) : Option ByteArray :=
  if x791 < a1 then (asrt (0 ≤ x791) (asrt (x791 < (x787.length : Int)) (again785 (IntKind.wrap .u64 (Int.tdiv x786 256)) (x787.set (x791 : Int).toNat (IntKind.wrap .u8 (Int.tmod x786 256))) (IntKind.wrap .i64 (x791 + 1))))) else (some (strOfNums x787))
def headgateref01_PutLittle.l0 (K : Nat) (a1 : Int) : Nat → Int → (List Int) → Int → Option ByteArray
  | 0, _, _, _ => none
  | k_ + 1, x786, x787, x791 => headgateref01_PutLittle.b0 K a1 (headgateref01_PutLittle.l0 K a1 k_) x786 x787 x791
def headgateref01_PutLittle.f (K : Nat) (a0 : Int) (a1 : Int) : Option ByteArray :=
  if a1 < 1 then (some (⟨#[]⟩ : ByteArray)) else (if a1 > 8 then (some (⟨#[]⟩ : ByteArray)) else (asrt (0 ≤ a1) (asrt (a1 ≤ 281474976710656) (headgateref01_PutLittle.l0 K a1 K a0 (List.replicate (a1 : Int).toNat (0 : Int)) 0))))
set_option maxRecDepth 100000 in
set_option maxHeartbeats 4000000 in
theorem headgateref01_PutLittle.calls (K : Nat) (a0 : Int) (a1 : Int)  (r : ByteArray) (w : World)  (h : headgateref01_PutLittle.f K a0 a1 = some r) :
    Calls Tryd.prog 46 #[.int .u64 a0, .int .i64 a1] w (fun e W' => e = .returned (.string r) ∧ Wd w W' [] [] ) := by
  refine sxstart (n := 30) (l := [(0, .int .u64 a0), (1, .int .i64 a1)]) Tryd.func46 rfl rfl (Nat.le_of_ble_eq_true (by kernel_rfl)) (subsA_cons rfl (subsA_cons rfl (subsA_nil _))) ?_
  intro a ha
  have HW := Wd.refl w
  unfold headgateref01_PutLittle.f at h
  refine wp_seq_k (fun K727 hK728 => ?_)
  refine wp_region_lit ?_
  refine stepp ha 4 (.string (⟨#[]⟩ : ByteArray)) (by kernel_rfl) (by kernel_rfl) ?_; clear ha a; intro a ha
  refine endl ?_
  refine thenN (hK728 _ _ ?_); clear hK728
  refine wp_seq_k (fun K729 hK730 => ?_)
  refine wp_seq_k (fun K731 hK732 => ?_)
  refine wp_region_lit ?_
  refine stepp ha 7 (.int .i64 a1) (by kernel_rfl) (by kernel_rfl) ?_; clear ha a; intro a ha
  refine stepp ha 8 (.bool (decide (a1 < 1))) (by kernel_rfl) (by kernel_rfl) ?_; clear ha a; intro a ha
  refine stepp ha 9 (.bool (decide (a1 < 1))) (by kernel_rfl) (by kernel_rfl) ?_; clear ha a; intro a ha
  by_cases hp733 : a1 < 1
  · skip
    replace h := ite_pos' h hp733
    replace ha := ha.bool 9 (by kernel_rfl) (decide_eq_true hp733)
    refine stepo ha 10 (by kernel_rfl) ?_; clear ha a; intro a ha
    refine stepo ha 11 (by kernel_rfl) ?_; clear ha a; intro a ha
    refine stepp ha 12 (.bool true) (by kernel_rfl) (by kernel_rfl) ?_; clear ha a; intro a ha
    refine endl ?_
    refine thenN (hK732 _ _ ?_); clear hK732
    refine condT ha (by kernel_rfl) (by kernel_rfl) (t := true) (rfl) ?_
    refine wp_seq_k (fun K734 hK735 => ?_)
    refine wp_region_lit ?_
    refine stepp ha 4 (.string (⟨#[]⟩ : ByteArray)) (by kernel_rfl) (by kernel_rfl) ?_; clear ha a; intro a ha
    refine endl ?_
    refine thenN (hK735 _ _ ?_); clear hK735
    refine wp_ret ?_
    refine thenR ?_
    obtain rfl := Option.some.inj h
    exact finv ha _ _ rfl (.tmp (v := .string (⟨#[]⟩ : ByteArray)) (by kernel_rfl) .nil) (.string (⟨#[]⟩ : ByteArray)) rfl ⟨rfl, HW.pick [] [] (by decide) (by decide) rfl (by kernel_rfl)⟩
  · skip
    replace h := ite_neg' h hp733
    replace ha := ha.bool 9 (by kernel_rfl) (decide_eq_false hp733)
    refine stepp ha 10 (.int .i64 a1) (by kernel_rfl) (by kernel_rfl) ?_; clear ha a; intro a ha
    refine stepp ha 11 (.bool (decide (a1 > 8))) (by kernel_rfl) (by kernel_rfl) ?_; clear ha a; intro a ha
    refine stepp ha 12 (.bool (decide (a1 > 8))) (by kernel_rfl) (by kernel_rfl) ?_; clear ha a; intro a ha
    refine endl ?_
    refine thenN (hK732 _ _ ?_); clear hK732
    by_cases hp736 : a1 > 8
    · skip
      replace h := ite_pos' h hp736
      refine condT ha (by kernel_rfl) (by kernel_rfl) (t := decide (a1 > 8)) (decide_eq_true hp736) ?_
      refine wp_seq_k (fun K737 hK738 => ?_)
      refine wp_region_lit ?_
      refine stepp ha 4 (.string (⟨#[]⟩ : ByteArray)) (by kernel_rfl) (by kernel_rfl) ?_; clear ha a; intro a ha
      refine endl ?_
      refine thenN (hK738 _ _ ?_); clear hK738
      refine wp_ret ?_
      refine thenR ?_
      obtain rfl := Option.some.inj h
      exact finv ha _ _ rfl (.tmp (v := .string (⟨#[]⟩ : ByteArray)) (by kernel_rfl) .nil) (.string (⟨#[]⟩ : ByteArray)) rfl ⟨rfl, HW.pick [] [] (by decide) (by decide) rfl (by kernel_rfl)⟩
    · skip
      replace h := ite_neg' h hp736
      refine condF ha (by kernel_rfl) (by kernel_rfl) (t := decide (a1 > 8)) (decide_eq_false hp736) ?_
      refine wp_skip ?_
      refine thenN (hK730 _ _ ?_); clear hK730
      refine wp_seq_k (fun K739 hK740 => ?_)
      refine wp_region_lit ?_
      refine stepp ha 13 (.int .i64 a1) (by kernel_rfl) (by kernel_rfl) ?_; clear ha a; intro a ha
      obtain ⟨hA741, h_⟩ := asrt_some h; clear h; have h := h_; clear h_
      obtain ⟨hA742, h_⟩ := asrt_some h; clear h; have h := h_; clear h_
      refine stepmk (encI .u8) (0 : Int) ha HW 14 80 5 (.tmp 13) (.tmp 13) .i64 .i64 a1 (.int .u8 0) 1 rfl (by kernel_rfl) (by kernel_rfl) (by kernel_rfl) (by kernel_rfl) rfl rfl hA741 (by have := hA742; omega) (by have := hA742; omega) (by kernel_rfl) ?_; clear ha HW a; intro b743 a W744 HW ha
      refine stepp ha 5 (.slice (some ⟨b743, 0, none⟩) (List.replicate (a1 : Int).toNat (0 : Int)).length ((a1 : Int).toNat)) (by kernel_rfl) (by kernel_rfl) ?_; clear ha a; intro a ha
      refine endl ?_
      refine thenN (hK740 _ _ ?_); clear hK740
      refine wp_seq_k (fun K746 hK747 => ?_)
      refine wp_seq_k (fun K748 hK749 => ?_)
      refine wp_region_lit ?_
      refine stepp ha 6 (.int .i64 0) (by kernel_rfl) (by kernel_rfl) ?_; clear ha a; intro a ha
      refine endl ?_
      refine thenN (hK749 _ _ ?_); clear hK749
      refine wp_block ?_
      refine loopk (fun k => fun a W792 => ∃ (x786 : Int), ∃ (x787 : List Int), ∃ A788, ∃ c789, ∃ (x791 : Int), headgateref01_PutLittle.l0 K a1 k x786 x787 x791 = some r ∧ Has 30 [(0, .int .u64 x786), (1, .int .i64 a1), (5, .slice A788 x787.length c789), (6, .int .i64 x791)] a ∧ Wd w W792 [] [⟨5, 1, .slice A788 x787.length c789, x787.length, encs (encI .u8) x787⟩]) K ?_ ?_
      · skip
        exact ⟨a0, List.replicate (a1 : Int).toNat (0 : Int), some ⟨b743, 0, none⟩, (a1 : Int).toNat, 0, h, ha.sub (subs_cons (by kernel_rfl) (subs_cons (by kernel_rfl) (subs_cons (by kernel_rfl) (subs_cons (by kernel_rfl) (subs_nil _))))), HW.pick [] [0] (by decide) (by decide) (by kernel_rfl) (by kernel_rfl)⟩
      · skip
        intro k a W792 hI
        obtain ⟨x786, x787, A788, c789, x791, h, ha, HW⟩ := hI
        cases k with
        | zero => exact (none_some (show none = some r from h)).elim
        | succ k793 =>
          replace h : headgateref01_PutLittle.b0 K a1 (headgateref01_PutLittle.l0 K a1 k793) x786 x787 x791 = some r := h
          obtain ⟨again785, hag794⟩ : ∃ g_, g_ = headgateref01_PutLittle.l0 K a1 k793 := ⟨_, rfl⟩
          rw [← hag794] at h
          unfold headgateref01_PutLittle.b0 at h
          refine wp_seq_k (fun K795 hK796 => ?_)
          refine wp_seq_k (fun K797 hK798 => ?_)
          refine wp_region_lit ?_
          refine stepp ha 15 (.int .i64 x791) (by kernel_rfl) (by kernel_rfl) ?_; clear ha a; intro a ha
          refine stepp ha 16 (.int .i64 a1) (by kernel_rfl) (by kernel_rfl) ?_; clear ha a; intro a ha
          refine stepp ha 17 (.bool (decide (x791 < a1))) (by kernel_rfl) (by kernel_rfl) ?_; clear ha a; intro a ha
          refine endl ?_
          refine thenN (hK798 _ _ ?_); clear hK798
          by_cases hp799 : x791 < a1
          · skip
            replace h := ite_pos' h hp799
            refine condT ha (by kernel_rfl) (by kernel_rfl) (t := decide (x791 < a1)) (decide_eq_true hp799) ?_
            refine wp_skip ?_
            refine thenN (hK796 _ _ ?_); clear hK796
            refine wp_seq_k (fun K800 hK801 => ?_)
            refine wp_block ?_
            refine wp_seq_k (fun K802 hK803 => ?_)
            refine wp_region_lit ?_
            refine stepp ha 20 (.slice A788 x787.length c789) (by kernel_rfl) (by kernel_rfl) ?_; clear ha a; intro a ha
            refine stepp ha 21 (.int .i64 x791) (by kernel_rfl) (by kernel_rfl) ?_; clear ha a; intro a ha
            refine stepp ha 22 (.int .u64 x786) (by kernel_rfl) (by kernel_rfl) ?_; clear ha a; intro a ha
            refine stepp ha 23 (.int .u64 (Int.tmod x786 256)) (by kernel_rfl) (by kernel_rfl) ?_; clear ha a; intro a ha
            refine stepp ha 24 (.int .u8 (IntKind.wrap .u8 (Int.tmod x786 256))) (by kernel_rfl) (by kernel_rfl) ?_; clear ha a; intro a ha
            obtain ⟨hA804, h_⟩ := asrt_some h; clear h; have h := h_; clear h_
            obtain ⟨hA805, h_⟩ := asrt_some h; clear h; have h := h_; clear h_
            refine stepio (encI .u8) ha HW 25 0 (sz := 1) (e := 5) (v := .slice A788 x787.length c789) (xs := x787) (by kernel_rfl) 80 (.tmp 20) (.tmp 21) .i64 x791 rfl (by kernel_rfl) (by kernel_rfl) (by kernel_rfl) (by kernel_rfl) hA804 (show (x791 : Int) < ((x787).length : Int) from hA805) (by kernel_rfl) ?_; clear ha a; intro b806 a hb807 ha
            refine stepos (encI .u8) (0 : Int) ha HW 0 (sz := 1) (e := 5) (fun _ => rfl) (v := .slice A788 x787.length c789) (xs := x787) (by kernel_rfl) hb807 x791 hA804 (show (x791 : Int) < ((x787).length : Int) from hA805) 5 0 (.tmp 25) (.tmp 24) (.int .u8 (IntKind.wrap .u8 (Int.tmod x786 256))) (IntKind.wrap .u8 (Int.tmod x786 256)) rfl (by kernel_rfl) (by kernel_rfl) (by kernel_rfl) (by kernel_rfl) (by kernel_rfl) (by kernel_rfl) (by kernel_rfl) (.slice A788 (x787.set (x791 : Int).toNat (IntKind.wrap .u8 (Int.tmod x786 256))).length c789) (by rw [List.length_set]) ?_; clear ha HW a; intro a W808 HW ha
            replace ha := ha.turn 5 (v := .slice A788 (x787.set (x791 : Int).toNat (IntKind.wrap .u8 (Int.tmod x786 256))).length c789) (by kernel_rfl) (by rw [List.length_set])
            replace ha := ha.turn 20 (v := .slice A788 (x787.set (x791 : Int).toNat (IntKind.wrap .u8 (Int.tmod x786 256))).length c789) (by kernel_rfl) (by rw [List.length_set])
            replace HW : Wd w W808 [] [⟨5, 1, .slice A788 (x787.set (x791 : Int).toNat (IntKind.wrap .u8 (Int.tmod x786 256))).length c789, (x787.set (x791 : Int).toNat (IntKind.wrap .u8 (Int.tmod x786 256))).length, encs (encI .u8) (x787.set (x791 : Int).toNat (IntKind.wrap .u8 (Int.tmod x786 256)))⟩] := HW
            refine endl ?_
            refine thenN (hK803 _ _ ?_); clear hK803
            refine wp_region_lit ?_
            refine stepp ha 26 (.int .u64 x786) (by kernel_rfl) (by kernel_rfl) ?_; clear ha a; intro a ha
            refine stepp ha 27 (.int .u64 (IntKind.wrap .u64 (Int.tdiv x786 256))) (by kernel_rfl) (by kernel_rfl) ?_; clear ha a; intro a ha
            refine stepp ha 0 (.int .u64 (IntKind.wrap .u64 (Int.tdiv x786 256))) (by kernel_rfl) (by kernel_rfl) ?_; clear ha a; intro a ha
            refine endl ?_
            refine blkN ?_
            refine thenN (hK801 _ _ ?_); clear hK801
            refine wp_region_lit ?_
            refine stepp ha 18 (.int .i64 x791) (by kernel_rfl) (by kernel_rfl) ?_; clear ha a; intro a ha
            refine stepp ha 19 (.int .i64 (IntKind.wrap .i64 (x791 + 1))) (by kernel_rfl) (by kernel_rfl) ?_; clear ha a; intro a ha
            refine stepp ha 6 (.int .i64 (IntKind.wrap .i64 (x791 + 1))) (by kernel_rfl) (by kernel_rfl) ?_; clear ha a; intro a ha
            refine endl ?_
            exact thenN ⟨k793, Nat.lt_succ_self k793, IntKind.wrap .u64 (Int.tdiv x786 256), x787.set (x791 : Int).toNat (IntKind.wrap .u8 (Int.tmod x786 256)), A788, c789, IntKind.wrap .i64 (x791 + 1), (by rw [← hag794]; exact h), ha.sub (subs_cons (by kernel_rfl) (subs_cons (by kernel_rfl) (subs_cons (by kernel_rfl) (subs_cons (by kernel_rfl) (subs_nil _))))), HW.pick [] [0] (by decide) (by decide) (by kernel_rfl) (by kernel_rfl)⟩
          · skip
            replace h := ite_neg' h hp799
            refine condF ha (by kernel_rfl) (by kernel_rfl) (t := decide (x791 < a1)) (decide_eq_false hp799) ?_
            refine wp_exit ?_
            refine thenE ?_
            refine thenE ?_
            refine inBlk ?_
            refine thenN (hK747 _ _ ?_); clear hK747
            refine wp_seq_k (fun K809 hK810 => ?_)
            refine wp_region_lit ?_
            refine stepp ha 28 (.slice A788 x787.length c789) (by kernel_rfl) (by kernel_rfl) ?_; clear ha a; intro a ha
            refine stepbt ha 29 80 9 5 (.tmp 28) (v := .slice A788 x787.length c789) (xs := x787) (HW.rdo (i := 0) (q := ⟨5, 1, .slice A788 x787.length c789, x787.length, encs (encI .u8) x787⟩) (by kernel_rfl)) rfl (by kernel_rfl) (by kernel_rfl) (by kernel_rfl) (by kernel_rfl) (by kernel_rfl) ?_; clear ha a; intro a ha
            refine stepp ha 4 (.string (strOfNums x787)) (by kernel_rfl) (by kernel_rfl) ?_; clear ha a; intro a ha
            refine endl ?_
            refine thenN (hK810 _ _ ?_); clear hK810
            refine wp_ret ?_
            obtain rfl := Option.some.inj h
            exact finv ha _ _ rfl (.tmp (v := .string (strOfNums x787)) (by kernel_rfl) .nil) (.string (strOfNums x787)) rfl ⟨rfl, HW.pick [] [] (by decide) (by decide) rfl (by kernel_rfl)⟩
end Go.Proofs.YtceagilmillgfaaDoor.F
