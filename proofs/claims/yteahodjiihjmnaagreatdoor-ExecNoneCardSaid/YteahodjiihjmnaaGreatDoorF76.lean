/- headgate/headgatekeep.Block, headgate/headgatelaw08.Fill, headgate/headgatekeep.CopyRanges, headgate/headgateref10.Reads, headgate/headgateref10.Changes, headgate/headgateref10.Holds, headgate/headgateref10.May, headgate/headgatekeep.Outs, headgate/headgateref14.known, headgate/headgateref14.code, headgate/headgateref11.Key: plain functions, and that the calls come to what they say. No condition. -/
import Derived.Test.YteahodjiihjmnaaGreatDoorFT
import Derived.Test.YteahodjiihjmnaaGreatDoorF23
import Derived.Test.YteahodjiihjmnaaGreatDoorF220
namespace Go.Proofs.YteahodjiihjmnaaGreatDoor.F
open Go Go.RowKit Go.Proofs.YteahodjiihjmnaaGreatDoor.X
set_option linter.unusedVariables false
set_option linter.unusedSimpArgs false
/-! ### headgate/headgatekeep.Block: function 76 -/
def headgatekeep_Block.b0 (K : Nat) (a0 : Int) (again5675 : (List Int) → Int → Option ByteArray) (x5676 : List Int) (x5680 : Int) : Option ByteArray :=
  if x5680 < (x5676.length : Int) then (asrt (0 ≤ x5680) (again5675 (x5676.set (x5680 : Int).toNat a0) (IntKind.wrap .i64 (x5680 + 1)))) else (some (strOfNums x5676))
def headgatekeep_Block.l0 (K : Nat) (a0 : Int) : Nat → (List Int) → Int → Option ByteArray
  | 0, _, _ => none
  | k_ + 1, x5676, x5680 => headgatekeep_Block.b0 K a0 (headgatekeep_Block.l0 K a0 k_) x5676 x5680
def headgatekeep_Block.f (K : Nat) (a0 : Int) : Option ByteArray :=
  headgatekeep_Block.l0 K a0 K (List.replicate (512 : Int).toNat (0 : Int)) 0
set_option maxRecDepth 100000 in
set_option maxHeartbeats 4000000 in
theorem headgatekeep_Block.calls (K : Nat) (a0 : Int)  (r : ByteArray) (w : World)  (h : headgatekeep_Block.f K a0 = some r) :
    Calls Tryz.prog 76 #[.int .u8 a0] w (fun e W' => e = .returned (.string r) ∧ Wd w W' [] [] ) := by
  refine sxstart (n := 18) (l := [(0, .int .u8 a0)]) Tryz.func76 rfl rfl (Nat.le_of_ble_eq_true KR) (subsA_cons rfl (subsA_nil _)) ?_
  intro a ha
  have HW := Wd.refl w
  unfold headgatekeep_Block.f at h
  refine wp_seq_k (fun K5635 hK5636 => ?_)
  refine wp_region_lit ?_
  refine stepp ha 2 (.string (⟨#[]⟩ : ByteArray)) KR KR ?_; clear ha a; intro a ha
  refine endl ?_
  refine thenN (hK5636 _ _ ?_); clear hK5636
  refine wp_seq_k (fun K5637 hK5638 => ?_)
  refine wp_region_lit ?_
  refine stepmk (encIK .u8) (0 : Int) ha HW 5 79 5 (.const (.int .i64 512)) (.const (.int .i64 512)) .i64 .i64 512 (.int .u8 0) 1 rfl KR KR KR KR rfl rfl (by decide) (by have := (show (512 : Int) ≤ 281474976710656 by decide); omega) (by have := (show (512 : Int) ≤ 281474976710656 by decide); omega) KR ?_; clear ha HW a; intro b5639 a W5640 HW ha
  refine stepp ha 3 (.slice (some ⟨b5639, 0, none⟩) (List.replicate (512 : Int).toNat (0 : Int)).length ((512 : Int).toNat)) KR KR ?_; clear ha a; intro a ha
  refine endl ?_
  refine thenN (hK5638 _ _ ?_); clear hK5638
  refine wp_seq_k (fun K5642 hK5643 => ?_)
  refine wp_seq_k (fun K5644 hK5645 => ?_)
  refine wp_region_lit ?_
  refine stepp ha 4 (.int .i64 0) KR KR ?_; clear ha a; intro a ha
  refine endl ?_
  refine thenN (hK5645 _ _ ?_); clear hK5645
  refine wp_block ?_
  refine loopk (fun k => fun a W5681 => ∃ (x5676 : List Int), ∃ A5677, ∃ c5678, ∃ (x5680 : Int), headgatekeep_Block.l0 K a0 k x5676 x5680 = some r ∧ Has 18 [(0, .int .u8 a0), (3, .slice A5677 x5676.length c5678), (4, .int .i64 x5680)] a ∧ Wd w W5681 [] [⟨5, 1, .slice A5677 x5676.length c5678, x5676.length, encs (encIK .u8) x5676⟩]) K ?_ ?_
  · skip
    exact ⟨List.replicate (512 : Int).toNat (0 : Int), some ⟨b5639, 0, none⟩, (512 : Int).toNat, 0, h, ha.sub (subs_cons KR (subs_cons KR (subs_cons KR (subs_nil _)))), HW.pick [] [0] (by decide) (by decide) KR KR⟩
  · skip
    intro k a W5681 hI
    obtain ⟨x5676, A5677, c5678, x5680, h, ha, HW⟩ := hI
    cases k with
    | zero => exact (none_some (show none = some r from h)).elim
    | succ k5682 =>
      replace h : headgatekeep_Block.b0 K a0 (headgatekeep_Block.l0 K a0 k5682) x5676 x5680 = some r := h
      obtain ⟨again5675, hag5683⟩ : ∃ g_, g_ = headgatekeep_Block.l0 K a0 k5682 := ⟨_, rfl⟩
      rw [← hag5683] at h
      unfold headgatekeep_Block.b0 at h
      refine wp_seq_k (fun K5684 hK5685 => ?_)
      refine wp_seq_k (fun K5686 hK5687 => ?_)
      refine wp_region_lit ?_
      refine stepp ha 6 (.int .i64 x5680) KR KR ?_; clear ha a; intro a ha
      refine stepp ha 7 (.slice A5677 x5676.length c5678) KR KR ?_; clear ha a; intro a ha
      refine stepp ha 8 (.int .i64 (x5676.length : Int)) KR KR ?_; clear ha a; intro a ha
      refine stepp ha 9 (.bool (decide (x5680 < (x5676.length : Int)))) KR KR ?_; clear ha a; intro a ha
      refine endl ?_
      refine thenN (hK5687 _ _ ?_); clear hK5687
      by_cases hp5688 : x5680 < (x5676.length : Int)
      · skip
        replace h := ite_pos' h hp5688
        refine condT ha KR KR (t := decide (x5680 < (x5676.length : Int))) (decide_eq_true hp5688) ?_
        refine wp_skip ?_
        refine thenN (hK5685 _ _ ?_); clear hK5685
        refine wp_seq_k (fun K5689 hK5690 => ?_)
        refine wp_block ?_
        refine wp_region_lit ?_
        refine stepp ha 12 (.slice A5677 x5676.length c5678) KR KR ?_; clear ha a; intro a ha
        refine stepp ha 13 (.int .i64 x5680) KR KR ?_; clear ha a; intro a ha
        refine stepp ha 14 (.int .u8 a0) KR KR ?_; clear ha a; intro a ha
        obtain ⟨hA5691, h_⟩ := asrt_some h; clear h; have h := h_; clear h_
        refine stepio (encIK .u8) ha HW 15 0 (sz := 1) (e := 5) (v := .slice A5677 x5676.length c5678) (xs := x5676) KR 79 (.tmp 12) (.tmp 13) .i64 x5680 rfl KR KR KR KR hA5691 (show (x5680 : Int) < ((x5676).length : Int) from hp5688) KR ?_; clear ha a; intro b5692 a hb5693 ha
        refine stepos (encIK .u8) (0 : Int) ha HW 0 (sz := 1) (e := 5) (fun _ => rfl) (v := .slice A5677 x5676.length c5678) (xs := x5676) KR hb5693 x5680 hA5691 (show (x5680 : Int) < ((x5676).length : Int) from hp5688) 5 0 (.tmp 15) (.tmp 14) (.int .u8 a0) a0 rfl KR KR KR KR KR KR KR (.slice A5677 (x5676.set (x5680 : Int).toNat a0).length c5678) (by rw [List.length_set]) ?_; clear ha HW a; intro a W5694 HW ha
        replace ha := ha.turn 3 (v := .slice A5677 (x5676.set (x5680 : Int).toNat a0).length c5678) KR (by rw [List.length_set])
        replace ha := ha.turn 7 (v := .slice A5677 (x5676.set (x5680 : Int).toNat a0).length c5678) KR (by rw [List.length_set])
        replace ha := ha.turn 12 (v := .slice A5677 (x5676.set (x5680 : Int).toNat a0).length c5678) KR (by rw [List.length_set])
        replace HW : Wd w W5694 [] [⟨5, 1, .slice A5677 (x5676.set (x5680 : Int).toNat a0).length c5678, (x5676.set (x5680 : Int).toNat a0).length, encs (encIK .u8) (x5676.set (x5680 : Int).toNat a0)⟩] := HW
        refine endl ?_
        refine blkN ?_
        refine thenN (hK5690 _ _ ?_); clear hK5690
        refine wp_region_lit ?_
        refine stepp ha 10 (.int .i64 x5680) KR KR ?_; clear ha a; intro a ha
        refine stepp ha 11 (.int .i64 (IntKind.wrap .i64 (x5680 + 1))) KR KR ?_; clear ha a; intro a ha
        refine stepp ha 4 (.int .i64 (IntKind.wrap .i64 (x5680 + 1))) KR KR ?_; clear ha a; intro a ha
        refine endl ?_
        exact thenN ⟨k5682, Nat.lt_succ_self k5682, x5676.set (x5680 : Int).toNat a0, A5677, c5678, IntKind.wrap .i64 (x5680 + 1), (by rw [← hag5683]; exact h), ha.sub (subs_cons KR (subs_cons KR (subs_cons KR (subs_nil _)))), HW.pick [] [0] (by decide) (by decide) KR KR⟩
      · skip
        replace h := ite_neg' h hp5688
        refine condF ha KR KR (t := decide (x5680 < (x5676.length : Int))) (decide_eq_false hp5688) ?_
        refine wp_exit ?_
        refine thenE ?_
        refine thenE ?_
        refine inBlk ?_
        refine thenN (hK5643 _ _ ?_); clear hK5643
        refine wp_seq_k (fun K5695 hK5696 => ?_)
        refine wp_region_lit ?_
        refine stepp ha 16 (.slice A5677 x5676.length c5678) KR KR ?_; clear ha a; intro a ha
        refine stepbt ha 17 79 9 5 (.tmp 16) (v := .slice A5677 x5676.length c5678) (xs := x5676) (HW.rdo (i := 0) (q := ⟨5, 1, .slice A5677 x5676.length c5678, x5676.length, encs (encIK .u8) x5676⟩) KR) rfl KR KR KR KR KR ?_; clear ha a; intro a ha
        refine stepp ha 2 (.string (strOfNums x5676)) KR KR ?_; clear ha a; intro a ha
        refine endl ?_
        refine thenN (hK5696 _ _ ?_); clear hK5696
        refine wp_ret ?_
        obtain rfl := Option.some.inj h
        exact finv ha _ _ rfl (.tmp (v := .string (strOfNums x5676)) KR .nil) (.string (strOfNums x5676)) rfl ⟨rfl, HW.pick [] [] (by decide) (by decide) rfl KR⟩
/-! ### headgate/headgatelaw08.Fill: function 31 -/
def headgatelaw08_Fill.b0 (K : Nat) (a0 : Int) (a1 : Int) (again5733 : ByteArray → Int → Option ByteArray) (x5734 : ByteArray) (x5735 : Int) : Option ByteArray :=
  if x5735 < a0 then ((headgatekeep_Block.f K (IntKind.wrap .u8 (a1 + (IntKind.wrap .u8 x5735)))).bind fun t5746 => (asrt (x5734.size + t5746.size ≤ 9223372036854775807) (again5733 (x5734 ++ t5746) (IntKind.wrap .i64 (x5735 + 1))))) else (some x5734)
def headgatelaw08_Fill.l0 (K : Nat) (a0 : Int) (a1 : Int) : Nat → ByteArray → Int → Option ByteArray
  | 0, _, _ => none
  | k_ + 1, x5734, x5735 => headgatelaw08_Fill.b0 K a0 a1 (headgatelaw08_Fill.l0 K a0 a1 k_) x5734 x5735
def headgatelaw08_Fill.f (K : Nat) (a0 : Int) (a1 : Int) : Option ByteArray :=
  headgatelaw08_Fill.l0 K a0 a1 K (⟨#[]⟩ : ByteArray) 0
set_option maxRecDepth 100000 in
set_option maxHeartbeats 4000000 in
theorem headgatelaw08_Fill.calls (K : Nat) (a0 : Int) (a1 : Int)  (r : ByteArray) (w : World)  (h : headgatelaw08_Fill.f K a0 a1 = some r) :
    Calls Tryz.prog 31 #[.int .i64 a0, .int .u8 a1] w (fun e W' => e = .returned (.string r) ∧ Wd w W' [] [] ) := by
  refine sxstart (n := 20) (l := [(0, .int .i64 a0), (1, .int .u8 a1)]) Tryz.func31 rfl rfl (Nat.le_of_ble_eq_true KR) (subsA_cons rfl (subsA_cons rfl (subsA_nil _))) ?_
  intro a ha
  have HW := Wd.refl w
  unfold headgatelaw08_Fill.f at h
  refine wp_seq_k (fun K5697 hK5698 => ?_)
  refine wp_region_lit ?_
  refine stepp ha 4 (.string (⟨#[]⟩ : ByteArray)) KR KR ?_; clear ha a; intro a ha
  refine endl ?_
  refine thenN (hK5698 _ _ ?_); clear hK5698
  refine wp_seq_k (fun K5699 hK5700 => ?_)
  refine wp_region_lit ?_
  refine stepp ha 5 (.string (⟨#[]⟩ : ByteArray)) KR KR ?_; clear ha a; intro a ha
  refine endl ?_
  refine thenN (hK5700 _ _ ?_); clear hK5700
  refine wp_seq_k (fun K5701 hK5702 => ?_)
  refine wp_seq_k (fun K5703 hK5704 => ?_)
  refine wp_region_lit ?_
  refine stepp ha 6 (.int .i64 0) KR KR ?_; clear ha a; intro a ha
  refine endl ?_
  refine thenN (hK5704 _ _ ?_); clear hK5704
  refine wp_block ?_
  refine loopk (fun k => fun a W5736 => ∃ (x5734 : ByteArray), ∃ (x5735 : Int), headgatelaw08_Fill.l0 K a0 a1 k x5734 x5735 = some r ∧ Has 20 [(0, .int .i64 a0), (1, .int .u8 a1), (5, .string x5734), (6, .int .i64 x5735)] a ∧ Wd w W5736 [] []) K ?_ ?_
  · skip
    exact ⟨(⟨#[]⟩ : ByteArray), 0, h, ha.sub (subs_cons KR (subs_cons KR (subs_cons KR (subs_cons KR (subs_nil _))))), HW.pick [] [] (by decide) (by decide) KR KR⟩
  · skip
    intro k a W5736 hI
    obtain ⟨x5734, x5735, h, ha, HW⟩ := hI
    cases k with
    | zero => exact (none_some (show none = some r from h)).elim
    | succ k5737 =>
      replace h : headgatelaw08_Fill.b0 K a0 a1 (headgatelaw08_Fill.l0 K a0 a1 k5737) x5734 x5735 = some r := h
      obtain ⟨again5733, hag5738⟩ : ∃ g_, g_ = headgatelaw08_Fill.l0 K a0 a1 k5737 := ⟨_, rfl⟩
      rw [← hag5738] at h
      unfold headgatelaw08_Fill.b0 at h
      refine wp_seq_k (fun K5739 hK5740 => ?_)
      refine wp_seq_k (fun K5741 hK5742 => ?_)
      refine wp_region_lit ?_
      refine stepp ha 7 (.int .i64 x5735) KR KR ?_; clear ha a; intro a ha
      refine stepp ha 8 (.int .i64 a0) KR KR ?_; clear ha a; intro a ha
      refine stepp ha 9 (.bool (decide (x5735 < a0))) KR KR ?_; clear ha a; intro a ha
      refine endl ?_
      refine thenN (hK5742 _ _ ?_); clear hK5742
      by_cases hp5743 : x5735 < a0
      · skip
        replace h := ite_pos' h hp5743
        refine condT ha KR KR (t := decide (x5735 < a0)) (decide_eq_true hp5743) ?_
        refine wp_skip ?_
        refine thenN (hK5740 _ _ ?_); clear hK5740
        refine wp_seq_k (fun K5744 hK5745 => ?_)
        refine wp_block ?_
        refine wp_region_lit ?_
        refine stepp ha 12 (.string x5734) KR KR ?_; clear ha a; intro a ha
        refine stepp ha 13 (.int .u8 a1) KR KR ?_; clear ha a; intro a ha
        refine stepp ha 14 (.int .i64 x5735) KR KR ?_; clear ha a; intro a ha
        refine stepp ha 15 (.int .u8 (IntKind.wrap .u8 x5735)) KR KR ?_; clear ha a; intro a ha
        refine stepp ha 16 (.int .u8 (IntKind.wrap .u8 (a1 + (IntKind.wrap .u8 x5735)))) KR KR ?_; clear ha a; intro a ha
        obtain ⟨t5746, ht5747, h_⟩ := bind_some' h; clear h; have h := h_; clear h_
        refine stepc ha 17 KR KR (headgatekeep_Block.calls K (IntKind.wrap .u8 (a1 + (IntKind.wrap .u8 x5735))) t5746 _ ht5747) ?_; clear ha a; rintro e W5748 ⟨rfl, HX5749⟩
        refine ⟨_, rfl, ?_⟩; intro a ha; replace HW := HW.callw HX5749; clear HX5749
        obtain ⟨hA5750, h_⟩ := asrt_some h; clear h; have h := h_; clear h_
        refine stepsa ha 18 9 9 (.tmp 12) (.tmp 17) x5734 t5746 rfl KR KR (show (x5734).size + (t5746).size ≤ 9223372036854775807 from hA5750) KR ?_; clear ha a; intro a ha
        refine stepp ha 5 (.string (x5734 ++ t5746)) KR KR ?_; clear ha a; intro a ha
        refine endl ?_
        refine blkN ?_
        refine thenN (hK5745 _ _ ?_); clear hK5745
        refine wp_region_lit ?_
        refine stepp ha 10 (.int .i64 x5735) KR KR ?_; clear ha a; intro a ha
        refine stepp ha 11 (.int .i64 (IntKind.wrap .i64 (x5735 + 1))) KR KR ?_; clear ha a; intro a ha
        refine stepp ha 6 (.int .i64 (IntKind.wrap .i64 (x5735 + 1))) KR KR ?_; clear ha a; intro a ha
        refine endl ?_
        exact thenN ⟨k5737, Nat.lt_succ_self k5737, x5734 ++ t5746, IntKind.wrap .i64 (x5735 + 1), (by rw [← hag5738]; exact h), ha.sub (subs_cons KR (subs_cons KR (subs_cons KR (subs_cons KR (subs_nil _))))), HW.pick [] [] (by decide) (by decide) KR KR⟩
      · skip
        replace h := ite_neg' h hp5743
        refine condF ha KR KR (t := decide (x5735 < a0)) (decide_eq_false hp5743) ?_
        refine wp_exit ?_
        refine thenE ?_
        refine thenE ?_
        refine inBlk ?_
        refine thenN (hK5702 _ _ ?_); clear hK5702
        refine wp_seq_k (fun K5751 hK5752 => ?_)
        refine wp_region_lit ?_
        refine stepp ha 19 (.string x5734) KR KR ?_; clear ha a; intro a ha
        refine stepp ha 4 (.string x5734) KR KR ?_; clear ha a; intro a ha
        refine endl ?_
        refine thenN (hK5752 _ _ ?_); clear hK5752
        refine wp_ret ?_
        obtain rfl := Option.some.inj h
        exact finv ha _ _ rfl (.tmp (v := .string x5734) KR .nil) (.string x5734) rfl ⟨rfl, HW.pick [] [] (by decide) (by decide) rfl KR⟩
/-! ### headgate/headgatekeep.CopyRanges: function 32 -/
def headgatekeep_CopyRanges.f (a0 : List T_api_Range) : Option (List T_api_Range) :=
  asrt (([] : List T_api_Range).length + a0.length ≤ 8796093022208) (some (([] : List T_api_Range) ++ a0))
set_option maxRecDepth 100000 in
set_option maxHeartbeats 4000000 in
theorem headgatekeep_CopyRanges.calls (a0 : List T_api_Range) (A0_0 : Option Addr) (c0_0 : Nat) (r : List T_api_Range) (w : World) (hr0_0 : Rd 2 w (.slice A0_0 a0.length c0_0) a0.length (encs T_api_Range.enc a0)) (h : headgatekeep_CopyRanges.f a0 = some r) :
    Calls Tryz.prog 32 #[.slice A0_0 a0.length c0_0] w (fun e W' => ∃ A_0 c_0, e = .returned (.slice A_0 r.length c_0) ∧ Wd w W' [] [⟨77, 2, .slice A_0 r.length c_0, r.length, encs T_api_Range.enc r⟩] ) := by
  refine sxstart (n := 6) (l := [(0, .slice A0_0 a0.length c0_0)]) Tryz.func32 rfl rfl (Nat.le_of_ble_eq_true KR) (subsA_cons rfl (subsA_nil _)) ?_
  intro a ha
  have HW := Wd.refl w
  unfold headgatekeep_CopyRanges.f at h
  refine wp_seq_k (fun K5759 hK5760 => ?_)
  refine wp_region_lit ?_
  refine stepp ha 2 (.slice none 0 0) KR KR ?_; clear ha a; intro a ha
  refine endl ?_
  refine thenN (hK5760 _ _ ?_); clear hK5760
  refine wp_seq_k (fun K5761 hK5762 => ?_)
  refine wp_region_lit ?_
  refine stepbs ha HW 3 77 2 0 #[] [] (by decide) KR KR KR KR ?_; clear ha HW a; intro b5763 a W5764 HW ha
  replace HW : Wd w W5764 [] [⟨77, 2, .slice (some ⟨b5763, 0, none⟩) ([] : List T_api_Range).length 0, ([] : List T_api_Range).length, encs T_api_Range.enc ([] : List T_api_Range)⟩] := HW
  replace ha := ha.turn 3 (v := .slice (some ⟨b5763, 0, none⟩) ([] : List T_api_Range).length 0) KR rfl
  refine stepp ha 4 (.slice A0_0 a0.length c0_0) KR KR ?_; clear ha a; intro a ha
  obtain ⟨hA5766, h_⟩ := asrt_some h; clear h; have h := h_; clear h_
  refine stepape T_api_Range.enc ha HW 5 0 30 77 (.tmp 3) (.tmp 4) (.agg #[.int .i64 0, .int .i64 0]) 2 16 (.slice (some ⟨b5763, 0, none⟩) ([] : List T_api_Range).length 0) ([] : List T_api_Range) (.slice A0_0 a0.length c0_0) a0 KR rfl KR KR ((HW.rd0 hr0_0)) (fun _ => rfl) KR KR KR (by decide) (by have := hA5766; unfold maxLen; omega) (by have := hA5766; omega) KR ?_; clear ha HW a; intro A5767 c5768 a W5769 HW ha
  refine stepp ha 2 (.slice A5767 (([] : List T_api_Range) ++ a0).length c5768) KR KR ?_; clear ha a; intro a ha
  refine endl ?_
  refine thenN (hK5762 _ _ ?_); clear hK5762
  refine wp_ret ?_
  obtain rfl := Option.some.inj h
  exact finv ha _ _ rfl (.tmp (v := .slice A5767 (([] : List T_api_Range) ++ a0).length c5768) KR .nil) (.slice A5767 (([] : List T_api_Range) ++ a0).length c5768) rfl ⟨A5767, c5768, rfl, HW.pick [] [0] (by decide) (by decide) rfl KR⟩
/-! ### headgate/headgateref10.Reads: function 33 -/
def headgateref10_Reads.f (a0 : Int) : Option Bool :=
  some (a0 == 2)
set_option maxRecDepth 100000 in
set_option maxHeartbeats 4000000 in
theorem headgateref10_Reads.calls (a0 : Int)  (r : Bool) (w : World)  (h : headgateref10_Reads.f a0 = some r) :
    Calls Tryz.prog 33 #[.int .i64 a0] w (fun e W' => e = .returned (.bool r) ∧ Wd w W' [] [] ) := by
  refine sxstart (n := 5) (l := [(0, .int .i64 a0)]) Tryz.func33 rfl rfl (Nat.le_of_ble_eq_true KR) (subsA_cons rfl (subsA_nil _)) ?_
  intro a ha
  have HW := Wd.refl w
  unfold headgateref10_Reads.f at h
  refine wp_seq_k (fun K5776 hK5777 => ?_)
  refine wp_region_lit ?_
  refine stepp ha 2 (.bool false) KR KR ?_; clear ha a; intro a ha
  refine endl ?_
  refine thenN (hK5777 _ _ ?_); clear hK5777
  refine wp_seq_k (fun K5778 hK5779 => ?_)
  refine wp_region_lit ?_
  refine stepp ha 3 (.int .i64 a0) KR KR ?_; clear ha a; intro a ha
  refine stepp ha 4 (.bool (a0 == 2)) KR KR ?_; clear ha a; intro a ha
  refine stepp ha 2 (.bool (a0 == 2)) KR KR ?_; clear ha a; intro a ha
  refine endl ?_
  refine thenN (hK5779 _ _ ?_); clear hK5779
  refine wp_ret ?_
  obtain rfl := Option.some.inj h
  exact finv ha _ _ rfl (.tmp (v := .bool (a0 == 2)) KR .nil) (.bool (a0 == 2)) rfl ⟨rfl, HW.pick [] [] (by decide) (by decide) rfl KR⟩
/-! ### headgate/headgateref10.Changes: function 34 -/
def headgateref10_Changes.f (a0 : Int) : Option Bool :=
  if a0 = 3 then (some true) else (if a0 = 5 then (some true) else (if a0 = 6 then (some true) else (if a0 = 7 then (some true) else (some (a0 == 4)))))
set_option maxRecDepth 100000 in
set_option maxHeartbeats 4000000 in
theorem headgateref10_Changes.calls (a0 : Int)  (r : Bool) (w : World)  (h : headgateref10_Changes.f a0 = some r) :
    Calls Tryz.prog 34 #[.int .i64 a0] w (fun e W' => e = .returned (.bool r) ∧ Wd w W' [] [] ) := by
  refine sxstart (n := 21) (l := [(0, .int .i64 a0)]) Tryz.func34 rfl rfl (Nat.le_of_ble_eq_true KR) (subsA_cons rfl (subsA_nil _)) ?_
  intro a ha
  have HW := Wd.refl w
  unfold headgateref10_Changes.f at h
  refine wp_seq_k (fun K5780 hK5781 => ?_)
  refine wp_region_lit ?_
  refine stepp ha 2 (.bool false) KR KR ?_; clear ha a; intro a ha
  refine endl ?_
  refine thenN (hK5781 _ _ ?_); clear hK5781
  refine wp_seq_k (fun K5782 hK5783 => ?_)
  refine wp_region_lit ?_
  refine stepp ha 3 (.int .i64 a0) KR KR ?_; clear ha a; intro a ha
  refine stepp ha 4 (.bool (a0 == 3)) KR KR ?_; clear ha a; intro a ha
  refine stepp ha 5 (.bool (a0 == 3)) KR KR ?_; clear ha a; intro a ha
  by_cases hp5784 : a0 = 3
  · skip
    replace h := ite_pos' h hp5784
    replace ha := ha.bool 5 KR (ieq_t hp5784)
    refine stepo ha 6 KR ?_; clear ha a; intro a ha
    refine stepo ha 7 KR ?_; clear ha a; intro a ha
    refine stepp ha 8 (.bool true) KR KR ?_; clear ha a; intro a ha
    refine stepp ha 9 (.bool true) KR KR ?_; clear ha a; intro a ha
    refine stepo ha 10 KR ?_; clear ha a; intro a ha
    refine stepo ha 11 KR ?_; clear ha a; intro a ha
    refine stepp ha 12 (.bool true) KR KR ?_; clear ha a; intro a ha
    refine stepp ha 13 (.bool true) KR KR ?_; clear ha a; intro a ha
    refine stepo ha 14 KR ?_; clear ha a; intro a ha
    refine stepo ha 15 KR ?_; clear ha a; intro a ha
    refine stepp ha 16 (.bool true) KR KR ?_; clear ha a; intro a ha
    refine stepp ha 17 (.bool true) KR KR ?_; clear ha a; intro a ha
    refine stepo ha 18 KR ?_; clear ha a; intro a ha
    refine stepo ha 19 KR ?_; clear ha a; intro a ha
    refine stepp ha 20 (.bool true) KR KR ?_; clear ha a; intro a ha
    refine stepp ha 2 (.bool true) KR KR ?_; clear ha a; intro a ha
    refine endl ?_
    refine thenN (hK5783 _ _ ?_); clear hK5783
    refine wp_ret ?_
    obtain rfl := Option.some.inj h
    exact finv ha _ _ rfl (.tmp (v := .bool true) KR .nil) (.bool true) rfl ⟨rfl, HW.pick [] [] (by decide) (by decide) rfl KR⟩
  · skip
    replace h := ite_neg' h hp5784
    replace ha := ha.bool 5 KR (ieq_f hp5784)
    refine stepp ha 6 (.int .i64 a0) KR KR ?_; clear ha a; intro a ha
    refine stepp ha 7 (.bool (a0 == 5)) KR KR ?_; clear ha a; intro a ha
    refine stepp ha 8 (.bool (a0 == 5)) KR KR ?_; clear ha a; intro a ha
    refine stepp ha 9 (.bool (a0 == 5)) KR KR ?_; clear ha a; intro a ha
    by_cases hp5785 : a0 = 5
    · skip
      replace h := ite_pos' h hp5785
      replace ha := ha.bool 9 KR (ieq_t hp5785)
      refine stepo ha 10 KR ?_; clear ha a; intro a ha
      refine stepo ha 11 KR ?_; clear ha a; intro a ha
      refine stepp ha 12 (.bool true) KR KR ?_; clear ha a; intro a ha
      refine stepp ha 13 (.bool true) KR KR ?_; clear ha a; intro a ha
      refine stepo ha 14 KR ?_; clear ha a; intro a ha
      refine stepo ha 15 KR ?_; clear ha a; intro a ha
      refine stepp ha 16 (.bool true) KR KR ?_; clear ha a; intro a ha
      refine stepp ha 17 (.bool true) KR KR ?_; clear ha a; intro a ha
      refine stepo ha 18 KR ?_; clear ha a; intro a ha
      refine stepo ha 19 KR ?_; clear ha a; intro a ha
      refine stepp ha 20 (.bool true) KR KR ?_; clear ha a; intro a ha
      refine stepp ha 2 (.bool true) KR KR ?_; clear ha a; intro a ha
      refine endl ?_
      refine thenN (hK5783 _ _ ?_); clear hK5783
      refine wp_ret ?_
      obtain rfl := Option.some.inj h
      exact finv ha _ _ rfl (.tmp (v := .bool true) KR .nil) (.bool true) rfl ⟨rfl, HW.pick [] [] (by decide) (by decide) rfl KR⟩
    · skip
      replace h := ite_neg' h hp5785
      replace ha := ha.bool 9 KR (ieq_f hp5785)
      refine stepp ha 10 (.int .i64 a0) KR KR ?_; clear ha a; intro a ha
      refine stepp ha 11 (.bool (a0 == 6)) KR KR ?_; clear ha a; intro a ha
      refine stepp ha 12 (.bool (a0 == 6)) KR KR ?_; clear ha a; intro a ha
      refine stepp ha 13 (.bool (a0 == 6)) KR KR ?_; clear ha a; intro a ha
      by_cases hp5786 : a0 = 6
      · skip
        replace h := ite_pos' h hp5786
        replace ha := ha.bool 13 KR (ieq_t hp5786)
        refine stepo ha 14 KR ?_; clear ha a; intro a ha
        refine stepo ha 15 KR ?_; clear ha a; intro a ha
        refine stepp ha 16 (.bool true) KR KR ?_; clear ha a; intro a ha
        refine stepp ha 17 (.bool true) KR KR ?_; clear ha a; intro a ha
        refine stepo ha 18 KR ?_; clear ha a; intro a ha
        refine stepo ha 19 KR ?_; clear ha a; intro a ha
        refine stepp ha 20 (.bool true) KR KR ?_; clear ha a; intro a ha
        refine stepp ha 2 (.bool true) KR KR ?_; clear ha a; intro a ha
        refine endl ?_
        refine thenN (hK5783 _ _ ?_); clear hK5783
        refine wp_ret ?_
        obtain rfl := Option.some.inj h
        exact finv ha _ _ rfl (.tmp (v := .bool true) KR .nil) (.bool true) rfl ⟨rfl, HW.pick [] [] (by decide) (by decide) rfl KR⟩
      · skip
        replace h := ite_neg' h hp5786
        replace ha := ha.bool 13 KR (ieq_f hp5786)
        refine stepp ha 14 (.int .i64 a0) KR KR ?_; clear ha a; intro a ha
        refine stepp ha 15 (.bool (a0 == 7)) KR KR ?_; clear ha a; intro a ha
        refine stepp ha 16 (.bool (a0 == 7)) KR KR ?_; clear ha a; intro a ha
        refine stepp ha 17 (.bool (a0 == 7)) KR KR ?_; clear ha a; intro a ha
        by_cases hp5787 : a0 = 7
        · skip
          replace h := ite_pos' h hp5787
          replace ha := ha.bool 17 KR (ieq_t hp5787)
          refine stepo ha 18 KR ?_; clear ha a; intro a ha
          refine stepo ha 19 KR ?_; clear ha a; intro a ha
          refine stepp ha 20 (.bool true) KR KR ?_; clear ha a; intro a ha
          refine stepp ha 2 (.bool true) KR KR ?_; clear ha a; intro a ha
          refine endl ?_
          refine thenN (hK5783 _ _ ?_); clear hK5783
          refine wp_ret ?_
          obtain rfl := Option.some.inj h
          exact finv ha _ _ rfl (.tmp (v := .bool true) KR .nil) (.bool true) rfl ⟨rfl, HW.pick [] [] (by decide) (by decide) rfl KR⟩
        · skip
          replace h := ite_neg' h hp5787
          replace ha := ha.bool 17 KR (ieq_f hp5787)
          refine stepp ha 18 (.int .i64 a0) KR KR ?_; clear ha a; intro a ha
          refine stepp ha 19 (.bool (a0 == 4)) KR KR ?_; clear ha a; intro a ha
          refine stepp ha 20 (.bool (a0 == 4)) KR KR ?_; clear ha a; intro a ha
          refine stepp ha 2 (.bool (a0 == 4)) KR KR ?_; clear ha a; intro a ha
          refine endl ?_
          refine thenN (hK5783 _ _ ?_); clear hK5783
          refine wp_ret ?_
          obtain rfl := Option.some.inj h
          exact finv ha _ _ rfl (.tmp (v := .bool (a0 == 4)) KR .nil) (.bool (a0 == 4)) rfl ⟨rfl, HW.pick [] [] (by decide) (by decide) rfl KR⟩
/-! ### headgate/headgateref10.Holds: function 83 -/
def headgateref10_Holds.j1 (K : Nat) (a0 : T_api_Table) (a1 : ByteArray) (x5817 : Bool) : Option Bool :=
  if x5817 = true then ((headgateref10_Registered.f K (⟨a0.f0, (⟨a0.f1.f0, a0.f1.f1⟩ : T_api_Hold), a0.f2, a0.f3⟩ : T_api_Table) a1).bind fun t5822 => (some t5822)) else (some false)
def headgateref10_Holds.j0 (K : Nat) (a0 : T_api_Table) (a1 : ByteArray) (x5807 : Bool) : Option Bool :=
  if x5807 = true then (some (a0.f1.f1.toList == a1.toList)) else (if a0.f1.f0 = 5 then (headgateref10_Holds.j1 K a0 a1 (a0.f1.f0 == 5)) else (headgateref10_Holds.j1 K a0 a1 (a0.f1.f0 == 6)))
def headgateref10_Holds.f (K : Nat) (a0 : T_api_Table) (a1 : ByteArray) : Option Bool :=
  if a0.f1.f0 = 1 then (headgateref10_Holds.j0 K a0 a1 (a0.f1.f0 == 1)) else (if a0.f1.f0 = 2 then (headgateref10_Holds.j0 K a0 a1 (a0.f1.f0 == 2)) else (if a0.f1.f0 = 3 then (headgateref10_Holds.j0 K a0 a1 (a0.f1.f0 == 3)) else (headgateref10_Holds.j0 K a0 a1 (a0.f1.f0 == 4))))
set_option maxRecDepth 100000 in
set_option maxHeartbeats 4000000 in
theorem headgateref10_Holds.calls (K : Nat) (a0 : T_api_Table) (a1 : ByteArray) (A0_0 : Option Addr) (c0_0 : Nat) (r : Bool) (w : World) (hr0_0 : Rd 2 w (.slice A0_0 a0.f0.length c0_0) a0.f0.length (encs T_api_Reg.enc a0.f0)) (h : headgateref10_Holds.f K a0 a1 = some r) :
    Calls Tryz.prog 83 #[.agg #[.slice A0_0 a0.f0.length c0_0, .int .i64 a0.f1.f0, .string a0.f1.f1, .int .u32 a0.f2, .bool a0.f3], .string a1] w (fun e W' => e = .returned (.bool r) ∧ Wd w W' [] [] ) := by
  refine sxstart (n := 24) (l := [(0, .agg #[.slice A0_0 a0.f0.length c0_0, .int .i64 a0.f1.f0, .string a0.f1.f1, .int .u32 a0.f2, .bool a0.f3]), (1, .string a1)]) Tryz.func83 rfl rfl (Nat.le_of_ble_eq_true KR) (subsA_cons rfl (subsA_cons rfl (subsA_nil _))) ?_
  intro a ha
  have HW := Wd.refl w
  unfold headgateref10_Holds.f at h
  refine wp_seq_k (fun K5788 hK5789 => ?_)
  refine wp_region_lit ?_
  refine stepnew ha HW 2 #[.slice A0_0 a0.f0.length c0_0, .int .i64 a0.f1.f0, .string a0.f1.f1, .int .u32 a0.f2, .bool a0.f3] 63 KR KR ?_; clear ha HW a; intro b5790 a W5791 HW ha
  refine stepp ha 4 (.bool false) KR KR ?_; clear ha a; intro a ha
  refine endl ?_
  refine thenN (hK5789 _ _ ?_); clear hK5789
  refine wp_seq_k (fun K5792 hK5793 => ?_)
  refine wp_seq_k (fun K5794 hK5795 => ?_)
  refine wp_region_lit ?_
  refine stepp ha 5 (.pointer (some ⟨b5790, 1, none⟩)) KR KR ?_; clear ha a; intro a ha
  refine stepp ha 6 (.pointer (some ⟨b5790, 1, none⟩)) KR KR ?_; clear ha a; intro a ha
  refine stepl ha 7 (HW.ca (i := 0) (b := b5790) (C := #[.slice A0_0 a0.f0.length c0_0, .int .i64 a0.f1.f0, .string a0.f1.f1, .int .u32 a0.f2, .bool a0.f3]) (T := 63) (fr := (0, 0)) KR) 3 1 (.tmp 6) (.int .i64 a0.f1.f0) rfl KR KR KR ?_; clear ha a; intro a ha
  refine endl ?_
  refine thenN (hK5795 _ _ ?_); clear hK5795
  refine wp_block ?_
  refine wp_seq_k (fun K5796 hK5797 => ?_)
  refine cutn (fun a W5808 => ∃ (x5807 : Bool), headgateref10_Holds.j0 K a0 a1 x5807 = some r ∧ Has 24 [(1, .string a1), (2, .pointer (some ⟨b5790, 0, none⟩)), (7, .int .i64 a0.f1.f0), (8, .bool x5807)] a ∧ Wd w W5808 [(b5790, .cells #[.slice A0_0 a0.f0.length c0_0, .int .i64 a0.f1.f0, .string a0.f1.f1, .int .u32 a0.f2, .bool a0.f3] 63 (0, 0))] []) ?_ ?_
  · skip
    refine wp_seq_k (fun K5798 hK5799 => ?_)
    refine wp_region_lit ?_
    refine stepp ha 9 (.bool (a0.f1.f0 == 1)) KR KR ?_; clear ha a; intro a ha
    refine stepp ha 8 (.bool (a0.f1.f0 == 1)) KR KR ?_; clear ha a; intro a ha
    refine endl ?_
    refine thenN (hK5799 _ _ ?_); clear hK5799
    by_cases hp5800 : a0.f1.f0 = 1
    · skip
      replace h := ite_pos' h hp5800
      refine condT ha KR KR (t := (a0.f1.f0 == 1)) (ieq_t hp5800) ?_
      refine wp_skip ?_
      exact thenN ⟨(a0.f1.f0 == 1), h, ha.sub (subs_cons KR (subs_cons KR (subs_cons KR (subs_cons KR (subs_nil _))))), HW.pick [0] [] (by decide) (by decide) KR KR⟩
    · skip
      replace h := ite_neg' h hp5800
      refine condF ha KR KR (t := (a0.f1.f0 == 1)) (ieq_f hp5800) ?_
      refine wp_seq_k (fun K5801 hK5802 => ?_)
      refine wp_region_lit ?_
      refine stepp ha 10 (.bool (a0.f1.f0 == 2)) KR KR ?_; clear ha a; intro a ha
      refine stepp ha 8 (.bool (a0.f1.f0 == 2)) KR KR ?_; clear ha a; intro a ha
      refine endl ?_
      refine thenN (hK5802 _ _ ?_); clear hK5802
      by_cases hp5803 : a0.f1.f0 = 2
      · skip
        replace h := ite_pos' h hp5803
        refine condT ha KR KR (t := (a0.f1.f0 == 2)) (ieq_t hp5803) ?_
        refine wp_skip ?_
        exact thenN ⟨(a0.f1.f0 == 2), h, ha.sub (subs_cons KR (subs_cons KR (subs_cons KR (subs_cons KR (subs_nil _))))), HW.pick [0] [] (by decide) (by decide) KR KR⟩
      · skip
        replace h := ite_neg' h hp5803
        refine condF ha KR KR (t := (a0.f1.f0 == 2)) (ieq_f hp5803) ?_
        refine wp_seq_k (fun K5804 hK5805 => ?_)
        refine wp_region_lit ?_
        refine stepp ha 11 (.bool (a0.f1.f0 == 3)) KR KR ?_; clear ha a; intro a ha
        refine stepp ha 8 (.bool (a0.f1.f0 == 3)) KR KR ?_; clear ha a; intro a ha
        refine endl ?_
        refine thenN (hK5805 _ _ ?_); clear hK5805
        by_cases hp5806 : a0.f1.f0 = 3
        · skip
          replace h := ite_pos' h hp5806
          refine condT ha KR KR (t := (a0.f1.f0 == 3)) (ieq_t hp5806) ?_
          refine wp_skip ?_
          exact thenN ⟨(a0.f1.f0 == 3), h, ha.sub (subs_cons KR (subs_cons KR (subs_cons KR (subs_cons KR (subs_nil _))))), HW.pick [0] [] (by decide) (by decide) KR KR⟩
        · skip
          replace h := ite_neg' h hp5806
          refine condF ha KR KR (t := (a0.f1.f0 == 3)) (ieq_f hp5806) ?_
          refine wp_region_lit ?_
          refine stepp ha 12 (.bool (a0.f1.f0 == 4)) KR KR ?_; clear ha a; intro a ha
          refine stepp ha 8 (.bool (a0.f1.f0 == 4)) KR KR ?_; clear ha a; intro a ha
          refine endl ?_
          exact thenN ⟨(a0.f1.f0 == 4), h, ha.sub (subs_cons KR (subs_cons KR (subs_cons KR (subs_cons KR (subs_nil _))))), HW.pick [0] [] (by decide) (by decide) KR KR⟩
  · skip
    intro a W5808 hJ
    obtain ⟨x5807, h, ha, HW⟩ := hJ
    replace h : headgateref10_Holds.j0 K a0 a1 x5807 = some r := h
    unfold headgateref10_Holds.j0 at h
    refine hK5797 _ _ ?_; clear hK5797
    by_cases hp5809 : x5807 = true
    · skip
      replace h := ite_pos' h hp5809
      refine condT ha KR KR (t := x5807) (hp5809) ?_
      refine wp_seq_k (fun K5810 hK5811 => ?_)
      refine wp_region_lit ?_
      refine stepp ha 13 (.pointer (some ⟨b5790, 1, none⟩)) KR KR ?_; clear ha a; intro a ha
      refine stepp ha 14 (.pointer (some ⟨b5790, 2, none⟩)) KR KR ?_; clear ha a; intro a ha
      refine stepl ha 15 (HW.ca (i := 0) (b := b5790) (C := #[.slice A0_0 a0.f0.length c0_0, .int .i64 a0.f1.f0, .string a0.f1.f1, .int .u32 a0.f2, .bool a0.f3]) (T := 63) (fr := (0, 0)) KR) 9 2 (.tmp 14) (.string a0.f1.f1) rfl KR KR KR ?_; clear ha a; intro a ha
      refine stepp ha 16 (.string a1) KR KR ?_; clear ha a; intro a ha
      refine stepp ha 17 (.bool (a0.f1.f1.toList == a1.toList)) KR KR ?_; clear ha a; intro a ha
      refine stepp ha 4 (.bool (a0.f1.f1.toList == a1.toList)) KR KR ?_; clear ha a; intro a ha
      refine endl ?_
      refine thenN (hK5811 _ _ ?_); clear hK5811
      refine wp_ret ?_
      refine blkR ?_
      refine thenR ?_
      obtain rfl := Option.some.inj h
      exact finv ha _ _ rfl (.tmp (v := .bool (a0.f1.f1.toList == a1.toList)) KR .nil) (.bool (a0.f1.f1.toList == a1.toList)) rfl ⟨rfl, HW.pick [] [] (by decide) (by decide) rfl KR⟩
    · skip
      replace h := ite_neg' h hp5809
      refine condF ha KR KR (t := x5807) (bool_f hp5809) ?_
      refine wp_seq_k (fun K5812 hK5813 => ?_)
      refine cutn (fun a W5818 => ∃ (x5817 : Bool), headgateref10_Holds.j1 K a0 a1 x5817 = some r ∧ Has 24 [(1, .string a1), (2, .pointer (some ⟨b5790, 0, none⟩)), (18, .bool x5817)] a ∧ Wd w W5818 [(b5790, .cells #[.slice A0_0 a0.f0.length c0_0, .int .i64 a0.f1.f0, .string a0.f1.f1, .int .u32 a0.f2, .bool a0.f3] 63 (0, 0))] []) ?_ ?_
      · skip
        refine wp_seq_k (fun K5814 hK5815 => ?_)
        refine wp_region_lit ?_
        refine stepp ha 19 (.bool (a0.f1.f0 == 5)) KR KR ?_; clear ha a; intro a ha
        refine stepp ha 18 (.bool (a0.f1.f0 == 5)) KR KR ?_; clear ha a; intro a ha
        refine endl ?_
        refine thenN (hK5815 _ _ ?_); clear hK5815
        by_cases hp5816 : a0.f1.f0 = 5
        · skip
          replace h := ite_pos' h hp5816
          refine condT ha KR KR (t := (a0.f1.f0 == 5)) (ieq_t hp5816) ?_
          refine wp_skip ?_
          exact thenN ⟨(a0.f1.f0 == 5), h, ha.sub (subs_cons KR (subs_cons KR (subs_cons KR (subs_nil _)))), HW.pick [0] [] (by decide) (by decide) KR KR⟩
        · skip
          replace h := ite_neg' h hp5816
          refine condF ha KR KR (t := (a0.f1.f0 == 5)) (ieq_f hp5816) ?_
          refine wp_region_lit ?_
          refine stepp ha 20 (.bool (a0.f1.f0 == 6)) KR KR ?_; clear ha a; intro a ha
          refine stepp ha 18 (.bool (a0.f1.f0 == 6)) KR KR ?_; clear ha a; intro a ha
          refine endl ?_
          exact thenN ⟨(a0.f1.f0 == 6), h, ha.sub (subs_cons KR (subs_cons KR (subs_cons KR (subs_nil _)))), HW.pick [0] [] (by decide) (by decide) KR KR⟩
      · skip
        intro a W5818 hJ
        obtain ⟨x5817, h, ha, HW⟩ := hJ
        replace h : headgateref10_Holds.j1 K a0 a1 x5817 = some r := h
        unfold headgateref10_Holds.j1 at h
        refine hK5813 _ _ ?_; clear hK5813
        by_cases hp5819 : x5817 = true
        · skip
          replace h := ite_pos' h hp5819
          refine condT ha KR KR (t := x5817) (hp5819) ?_
          refine wp_seq_k (fun K5820 hK5821 => ?_)
          refine wp_region_lit ?_
          refine stepl ha 21 (HW.ca (i := 0) (b := b5790) (C := #[.slice A0_0 a0.f0.length c0_0, .int .i64 a0.f1.f0, .string a0.f1.f1, .int .u32 a0.f2, .bool a0.f3]) (T := 63) (fr := (0, 0)) KR) 63 0 (.tmp 2) (.agg #[.slice A0_0 a0.f0.length c0_0, .int .i64 a0.f1.f0, .string a0.f1.f1, .int .u32 a0.f2, .bool a0.f3]) rfl KR KR KR ?_; clear ha a; intro a ha
          refine stepp ha 22 (.string a1) KR KR ?_; clear ha a; intro a ha
          obtain ⟨t5822, ht5823, h_⟩ := bind_some' h; clear h; have h := h_; clear h_
          refine stepc ha 23 KR KR (headgateref10_Registered.calls K (⟨a0.f0, (⟨a0.f1.f0, a0.f1.f1⟩ : T_api_Hold), a0.f2, a0.f3⟩ : T_api_Table) a1 A0_0 c0_0 t5822 _ ((HW.rd0 hr0_0)) ht5823) ?_; clear ha a; rintro e W5824 ⟨rfl, HX5825⟩
          refine ⟨_, rfl, ?_⟩; intro a ha; replace HW := HW.callw HX5825; clear HX5825
          refine stepp ha 4 (.bool t5822) KR KR ?_; clear ha a; intro a ha
          refine endl ?_
          refine thenN (hK5821 _ _ ?_); clear hK5821
          refine wp_ret ?_
          refine blkR ?_
          refine thenR ?_
          obtain rfl := Option.some.inj h
          exact finv ha _ _ rfl (.tmp (v := .bool t5822) KR .nil) (.bool t5822) rfl ⟨rfl, HW.pick [] [] (by decide) (by decide) rfl KR⟩
        · skip
          replace h := ite_neg' h hp5819
          refine condF ha KR KR (t := x5817) (bool_f hp5819) ?_
          refine wp_skip ?_
          refine blkN ?_
          refine thenN (hK5793 _ _ ?_); clear hK5793
          refine wp_seq_k (fun K5826 hK5827 => ?_)
          refine wp_region_lit ?_
          refine stepp ha 4 (.bool false) KR KR ?_; clear ha a; intro a ha
          refine endl ?_
          refine thenN (hK5827 _ _ ?_); clear hK5827
          refine wp_ret ?_
          obtain rfl := Option.some.inj h
          exact finv ha _ _ rfl (.tmp (v := .bool false) KR .nil) (.bool false) rfl ⟨rfl, HW.pick [] [] (by decide) (by decide) rfl KR⟩
/-! ### headgate/headgateref10.May: function 37 -/
def headgateref10_May.j1 (K : Nat) (a0 : T_api_Table) (a1 : ByteArray) : Option Bool :=
  if a0.f1.f0 ≥ 3 then ((headgateref10_Registered.f K (⟨a0.f0, (⟨a0.f1.f0, a0.f1.f1⟩ : T_api_Hold), a0.f2, a0.f3⟩ : T_api_Table) a1).bind fun t5894 => (some t5894)) else (some false)
def headgateref10_May.j0 (K : Nat) (a0 : T_api_Table) (a1 : ByteArray) (a2 : Int) : Option Bool :=
  (headgateref10_Reads.f a2).bind fun t5876 => (if t5876 = true then (if a0.f1.f0 = 1 then (some true) else (if a0.f1.f0 = 3 then (some true) else (if a0.f1.f0 = 5 then (some true) else (headgateref10_May.j1 K a0 a1)))) else (headgateref10_May.j1 K a0 a1))
def headgateref10_May.f (K : Nat) (a0 : T_api_Table) (a1 : ByteArray) (a2 : Int) : Option Bool :=
  (headgateref10_Type.f a0.f1.f0).bind fun t5838 => (if t5838 = true then ((headgateref10_Reads.f a2).bind fun t5843 => (if t5843 = true then ((headgateref10_Holds.f K (⟨a0.f0, (⟨a0.f1.f0, a0.f1.f1⟩ : T_api_Hold), a0.f2, a0.f3⟩ : T_api_Table) a1).bind fun t5848 => (if t5848 = true then (some true) else (headgateref10_May.j0 K a0 a1 a2))) else ((headgateref10_Changes.f a2).bind fun t5852 => (if t5852 = true then ((headgateref10_Holds.f K (⟨a0.f0, (⟨a0.f1.f0, a0.f1.f1⟩ : T_api_Hold), a0.f2, a0.f3⟩ : T_api_Table) a1).bind fun t5857 => (if t5857 = true then (some true) else (headgateref10_May.j0 K a0 a1 a2))) else (some true))))) else (some true))
set_option maxRecDepth 100000 in
set_option maxHeartbeats 4000000 in
theorem headgateref10_May.calls (K : Nat) (a0 : T_api_Table) (a1 : ByteArray) (a2 : Int) (A0_0 : Option Addr) (c0_0 : Nat) (r : Bool) (w : World) (hr0_0 : Rd 2 w (.slice A0_0 a0.f0.length c0_0) a0.f0.length (encs T_api_Reg.enc a0.f0)) (h : headgateref10_May.f K a0 a1 a2 = some r) :
    Calls Tryz.prog 37 #[.agg #[.slice A0_0 a0.f0.length c0_0, .int .i64 a0.f1.f0, .string a0.f1.f1, .int .u32 a0.f2, .bool a0.f3], .string a1, .int .i64 a2] w (fun e W' => e = .returned (.bool r) ∧ Wd w W' [] [] ) := by
  refine sxstart (n := 50) (l := [(0, .agg #[.slice A0_0 a0.f0.length c0_0, .int .i64 a0.f1.f0, .string a0.f1.f1, .int .u32 a0.f2, .bool a0.f3]), (1, .string a1), (2, .int .i64 a2)]) Tryz.func37 rfl rfl (Nat.le_of_ble_eq_true KR) (subsA_cons rfl (subsA_cons rfl (subsA_cons rfl (subsA_nil _)))) ?_
  intro a ha
  have HW := Wd.refl w
  unfold headgateref10_May.f at h
  refine wp_seq_k (fun K5828 hK5829 => ?_)
  refine wp_region_lit ?_
  refine stepnew ha HW 3 #[.slice A0_0 a0.f0.length c0_0, .int .i64 a0.f1.f0, .string a0.f1.f1, .int .u32 a0.f2, .bool a0.f3] 63 KR KR ?_; clear ha HW a; intro b5830 a W5831 HW ha
  refine stepp ha 6 (.bool false) KR KR ?_; clear ha a; intro a ha
  refine endl ?_
  refine thenN (hK5829 _ _ ?_); clear hK5829
  refine wp_seq_k (fun K5832 hK5833 => ?_)
  refine wp_region_lit ?_
  refine stepp ha 8 (.pointer (some ⟨b5830, 1, none⟩)) KR KR ?_; clear ha a; intro a ha
  refine stepp ha 9 (.pointer (some ⟨b5830, 1, none⟩)) KR KR ?_; clear ha a; intro a ha
  refine stepl ha 10 (HW.ca (i := 0) (b := b5830) (C := #[.slice A0_0 a0.f0.length c0_0, .int .i64 a0.f1.f0, .string a0.f1.f1, .int .u32 a0.f2, .bool a0.f3]) (T := 63) (fr := (0, 0)) KR) 3 1 (.tmp 9) (.int .i64 a0.f1.f0) rfl KR KR KR ?_; clear ha a; intro a ha
  refine stepp ha 7 (.int .i64 a0.f1.f0) KR KR ?_; clear ha a; intro a ha
  refine endl ?_
  refine thenN (hK5833 _ _ ?_); clear hK5833
  refine wp_seq_k (fun K5834 hK5835 => ?_)
  refine cutn (fun a W5871 => headgateref10_May.j0 K a0 a1 a2 = some r ∧ Has 50 [(1, .string a1), (2, .int .i64 a2), (3, .pointer (some ⟨b5830, 0, none⟩)), (7, .int .i64 a0.f1.f0)] a ∧ Wd w W5871 [(b5830, .cells #[.slice A0_0 a0.f0.length c0_0, .int .i64 a0.f1.f0, .string a0.f1.f1, .int .u32 a0.f2, .bool a0.f3] 63 (0, 0))] []) ?_ ?_
  · skip
    refine wp_seq_k (fun K5836 hK5837 => ?_)
    refine wp_region_lit ?_
    refine stepp ha 11 (.int .i64 a0.f1.f0) KR KR ?_; clear ha a; intro a ha
    obtain ⟨t5838, ht5839, h_⟩ := bind_some' h; clear h; have h := h_; clear h_
    refine stepc ha 12 KR KR (headgateref10_Type.calls a0.f1.f0 t5838 _ ht5839) ?_; clear ha a; rintro e W5840 ⟨rfl, HX5841⟩
    refine ⟨_, rfl, ?_⟩; intro a ha; replace HW := HW.callw HX5841; clear HX5841
    refine stepp ha 13 (.bool (!t5838)) KR KR ?_; clear ha a; intro a ha
    refine stepp ha 14 (.bool (!t5838)) KR KR ?_; clear ha a; intro a ha
    by_cases hp5842 : t5838 = true
    · skip
      replace h := ite_pos' h hp5842
      replace ha := ha.bool 14 KR (not_f (hp5842))
      refine stepp ha 15 (.int .i64 a2) KR KR ?_; clear ha a; intro a ha
      obtain ⟨t5843, ht5844, h_⟩ := bind_some' h; clear h; have h := h_; clear h_
      refine stepc ha 16 KR KR (headgateref10_Reads.calls a2 t5843 _ ht5844) ?_; clear ha a; rintro e W5845 ⟨rfl, HX5846⟩
      refine ⟨_, rfl, ?_⟩; intro a ha; replace HW := HW.callw HX5846; clear HX5846
      refine stepp ha 17 (.bool (!t5843)) KR KR ?_; clear ha a; intro a ha
      refine stepp ha 18 (.bool (!t5843)) KR KR ?_; clear ha a; intro a ha
      by_cases hp5847 : t5843 = true
      · skip
        replace h := ite_pos' h hp5847
        replace ha := ha.bool 18 KR (not_f (hp5847))
        refine stepo ha 19 KR ?_; clear ha a; intro a ha
        refine stepo ha 20 KR ?_; clear ha a; intro a ha
        refine stepo ha 21 KR ?_; clear ha a; intro a ha
        refine stepp ha 22 (.bool false) KR KR ?_; clear ha a; intro a ha
        refine stepp ha 23 (.bool false) KR KR ?_; clear ha a; intro a ha
        refine stepp ha 24 (.bool false) KR KR ?_; clear ha a; intro a ha
        refine stepl ha 25 (HW.ca (i := 0) (b := b5830) (C := #[.slice A0_0 a0.f0.length c0_0, .int .i64 a0.f1.f0, .string a0.f1.f1, .int .u32 a0.f2, .bool a0.f3]) (T := 63) (fr := (0, 0)) KR) 63 0 (.tmp 3) (.agg #[.slice A0_0 a0.f0.length c0_0, .int .i64 a0.f1.f0, .string a0.f1.f1, .int .u32 a0.f2, .bool a0.f3]) rfl KR KR KR ?_; clear ha a; intro a ha
        refine stepp ha 26 (.string a1) KR KR ?_; clear ha a; intro a ha
        obtain ⟨t5848, ht5849, h_⟩ := bind_some' h; clear h; have h := h_; clear h_
        refine stepc ha 27 KR KR (headgateref10_Holds.calls K (⟨a0.f0, (⟨a0.f1.f0, a0.f1.f1⟩ : T_api_Hold), a0.f2, a0.f3⟩ : T_api_Table) a1 A0_0 c0_0 t5848 _ ((HW.rd0 hr0_0)) ht5849) ?_; clear ha a; rintro e W5850 ⟨rfl, HX5851⟩
        refine ⟨_, rfl, ?_⟩; intro a ha; replace HW := HW.callw HX5851; clear HX5851
        refine stepp ha 28 (.bool t5848) KR KR ?_; clear ha a; intro a ha
        refine endl ?_
        refine thenN (hK5837 _ _ ?_); clear hK5837
        by_cases hp5861 : t5848 = true
        · skip
          replace h := ite_pos' h hp5861
          refine condT ha KR KR (t := t5848) (hp5861) ?_
          refine wp_seq_k (fun K5862 hK5863 => ?_)
          refine wp_region_lit ?_
          refine stepp ha 6 (.bool true) KR KR ?_; clear ha a; intro a ha
          refine endl ?_
          refine thenN (hK5863 _ _ ?_); clear hK5863
          refine wp_ret ?_
          refine thenR ?_
          obtain rfl := Option.some.inj h
          exact finv ha _ _ rfl (.tmp (v := .bool true) KR .nil) (.bool true) rfl ⟨rfl, HW.pick [] [] (by decide) (by decide) rfl KR⟩
        · skip
          replace h := ite_neg' h hp5861
          refine condF ha KR KR (t := t5848) (bool_f hp5861) ?_
          refine wp_skip ?_
          exact thenN ⟨h, ha.sub (subs_cons KR (subs_cons KR (subs_cons KR (subs_cons KR (subs_nil _))))), HW.pick [0] [] (by decide) (by decide) KR KR⟩
      · skip
        replace h := ite_neg' h hp5847
        replace ha := ha.bool 18 KR (not_t (bool_f hp5847))
        refine stepp ha 19 (.int .i64 a2) KR KR ?_; clear ha a; intro a ha
        obtain ⟨t5852, ht5853, h_⟩ := bind_some' h; clear h; have h := h_; clear h_
        refine stepc ha 20 KR KR (headgateref10_Changes.calls a2 t5852 _ ht5853) ?_; clear ha a; rintro e W5854 ⟨rfl, HX5855⟩
        refine ⟨_, rfl, ?_⟩; intro a ha; replace HW := HW.callw HX5855; clear HX5855
        refine stepp ha 21 (.bool (!t5852)) KR KR ?_; clear ha a; intro a ha
        refine stepp ha 22 (.bool (!t5852)) KR KR ?_; clear ha a; intro a ha
        refine stepp ha 23 (.bool (!t5852)) KR KR ?_; clear ha a; intro a ha
        refine stepp ha 24 (.bool (!t5852)) KR KR ?_; clear ha a; intro a ha
        by_cases hp5856 : t5852 = true
        · skip
          replace h := ite_pos' h hp5856
          replace ha := ha.bool 24 KR (not_f (hp5856))
          refine stepl ha 25 (HW.ca (i := 0) (b := b5830) (C := #[.slice A0_0 a0.f0.length c0_0, .int .i64 a0.f1.f0, .string a0.f1.f1, .int .u32 a0.f2, .bool a0.f3]) (T := 63) (fr := (0, 0)) KR) 63 0 (.tmp 3) (.agg #[.slice A0_0 a0.f0.length c0_0, .int .i64 a0.f1.f0, .string a0.f1.f1, .int .u32 a0.f2, .bool a0.f3]) rfl KR KR KR ?_; clear ha a; intro a ha
          refine stepp ha 26 (.string a1) KR KR ?_; clear ha a; intro a ha
          obtain ⟨t5857, ht5858, h_⟩ := bind_some' h; clear h; have h := h_; clear h_
          refine stepc ha 27 KR KR (headgateref10_Holds.calls K (⟨a0.f0, (⟨a0.f1.f0, a0.f1.f1⟩ : T_api_Hold), a0.f2, a0.f3⟩ : T_api_Table) a1 A0_0 c0_0 t5857 _ ((HW.rd0 hr0_0)) ht5858) ?_; clear ha a; rintro e W5859 ⟨rfl, HX5860⟩
          refine ⟨_, rfl, ?_⟩; intro a ha; replace HW := HW.callw HX5860; clear HX5860
          refine stepp ha 28 (.bool t5857) KR KR ?_; clear ha a; intro a ha
          refine endl ?_
          refine thenN (hK5837 _ _ ?_); clear hK5837
          by_cases hp5864 : t5857 = true
          · skip
            replace h := ite_pos' h hp5864
            refine condT ha KR KR (t := t5857) (hp5864) ?_
            refine wp_seq_k (fun K5865 hK5866 => ?_)
            refine wp_region_lit ?_
            refine stepp ha 6 (.bool true) KR KR ?_; clear ha a; intro a ha
            refine endl ?_
            refine thenN (hK5866 _ _ ?_); clear hK5866
            refine wp_ret ?_
            refine thenR ?_
            obtain rfl := Option.some.inj h
            exact finv ha _ _ rfl (.tmp (v := .bool true) KR .nil) (.bool true) rfl ⟨rfl, HW.pick [] [] (by decide) (by decide) rfl KR⟩
          · skip
            replace h := ite_neg' h hp5864
            refine condF ha KR KR (t := t5857) (bool_f hp5864) ?_
            refine wp_skip ?_
            exact thenN ⟨h, ha.sub (subs_cons KR (subs_cons KR (subs_cons KR (subs_cons KR (subs_nil _))))), HW.pick [0] [] (by decide) (by decide) KR KR⟩
        · skip
          replace h := ite_neg' h hp5856
          replace ha := ha.bool 24 KR (not_t (bool_f hp5856))
          refine stepo ha 25 KR ?_; clear ha a; intro a ha
          refine stepo ha 26 KR ?_; clear ha a; intro a ha
          refine stepo ha 27 KR ?_; clear ha a; intro a ha
          refine stepp ha 28 (.bool true) KR KR ?_; clear ha a; intro a ha
          refine endl ?_
          refine thenN (hK5837 _ _ ?_); clear hK5837
          refine condT ha KR KR (t := true) (rfl) ?_
          refine wp_seq_k (fun K5867 hK5868 => ?_)
          refine wp_region_lit ?_
          refine stepp ha 6 (.bool true) KR KR ?_; clear ha a; intro a ha
          refine endl ?_
          refine thenN (hK5868 _ _ ?_); clear hK5868
          refine wp_ret ?_
          refine thenR ?_
          obtain rfl := Option.some.inj h
          exact finv ha _ _ rfl (.tmp (v := .bool true) KR .nil) (.bool true) rfl ⟨rfl, HW.pick [] [] (by decide) (by decide) rfl KR⟩
    · skip
      replace h := ite_neg' h hp5842
      replace ha := ha.bool 14 KR (not_t (bool_f hp5842))
      refine stepo ha 15 KR ?_; clear ha a; intro a ha
      refine stepo ha 16 KR ?_; clear ha a; intro a ha
      refine stepo ha 17 KR ?_; clear ha a; intro a ha
      refine stepo ha 18 KR ?_; clear ha a; intro a ha
      refine stepo ha 19 KR ?_; clear ha a; intro a ha
      refine stepo ha 20 KR ?_; clear ha a; intro a ha
      refine stepo ha 21 KR ?_; clear ha a; intro a ha
      refine stepo ha 22 KR ?_; clear ha a; intro a ha
      refine stepp ha 23 (.bool true) KR KR ?_; clear ha a; intro a ha
      refine stepp ha 24 (.bool true) KR KR ?_; clear ha a; intro a ha
      refine stepo ha 25 KR ?_; clear ha a; intro a ha
      refine stepo ha 26 KR ?_; clear ha a; intro a ha
      refine stepo ha 27 KR ?_; clear ha a; intro a ha
      refine stepp ha 28 (.bool true) KR KR ?_; clear ha a; intro a ha
      refine endl ?_
      refine thenN (hK5837 _ _ ?_); clear hK5837
      refine condT ha KR KR (t := true) (rfl) ?_
      refine wp_seq_k (fun K5869 hK5870 => ?_)
      refine wp_region_lit ?_
      refine stepp ha 6 (.bool true) KR KR ?_; clear ha a; intro a ha
      refine endl ?_
      refine thenN (hK5870 _ _ ?_); clear hK5870
      refine wp_ret ?_
      refine thenR ?_
      obtain rfl := Option.some.inj h
      exact finv ha _ _ rfl (.tmp (v := .bool true) KR .nil) (.bool true) rfl ⟨rfl, HW.pick [] [] (by decide) (by decide) rfl KR⟩
  · skip
    intro a W5871 hJ
    obtain ⟨h, ha, HW⟩ := hJ
    replace h : headgateref10_May.j0 K a0 a1 a2 = some r := h
    unfold headgateref10_May.j0 at h
    refine hK5835 _ _ ?_; clear hK5835
    refine wp_seq_k (fun K5872 hK5873 => ?_)
    refine cutn (fun a W5890 => headgateref10_May.j1 K a0 a1 = some r ∧ Has 50 [(1, .string a1), (3, .pointer (some ⟨b5830, 0, none⟩)), (7, .int .i64 a0.f1.f0)] a ∧ Wd w W5890 [(b5830, .cells #[.slice A0_0 a0.f0.length c0_0, .int .i64 a0.f1.f0, .string a0.f1.f1, .int .u32 a0.f2, .bool a0.f3] 63 (0, 0))] []) ?_ ?_
    · skip
      refine wp_seq_k (fun K5874 hK5875 => ?_)
      refine wp_region_lit ?_
      refine stepp ha 29 (.int .i64 a2) KR KR ?_; clear ha a; intro a ha
      obtain ⟨t5876, ht5877, h_⟩ := bind_some' h; clear h; have h := h_; clear h_
      refine stepc ha 30 KR KR (headgateref10_Reads.calls a2 t5876 _ ht5877) ?_; clear ha a; rintro e W5878 ⟨rfl, HX5879⟩
      refine ⟨_, rfl, ?_⟩; intro a ha; replace HW := HW.callw HX5879; clear HX5879
      refine stepp ha 31 (.bool t5876) KR KR ?_; clear ha a; intro a ha
      by_cases hp5880 : t5876 = true
      · skip
        replace h := ite_pos' h hp5880
        replace ha := ha.bool 31 KR (hp5880)
        refine stepp ha 32 (.int .i64 a0.f1.f0) KR KR ?_; clear ha a; intro a ha
        refine stepp ha 33 (.bool (a0.f1.f0 == 1)) KR KR ?_; clear ha a; intro a ha
        refine stepp ha 34 (.bool (a0.f1.f0 == 1)) KR KR ?_; clear ha a; intro a ha
        by_cases hp5881 : a0.f1.f0 = 1
        · skip
          replace h := ite_pos' h hp5881
          replace ha := ha.bool 34 KR (ieq_t hp5881)
          refine stepo ha 35 KR ?_; clear ha a; intro a ha
          refine stepo ha 36 KR ?_; clear ha a; intro a ha
          refine stepp ha 37 (.bool true) KR KR ?_; clear ha a; intro a ha
          refine stepp ha 38 (.bool true) KR KR ?_; clear ha a; intro a ha
          refine stepo ha 39 KR ?_; clear ha a; intro a ha
          refine stepo ha 40 KR ?_; clear ha a; intro a ha
          refine stepp ha 41 (.bool true) KR KR ?_; clear ha a; intro a ha
          refine stepp ha 42 (.bool true) KR KR ?_; clear ha a; intro a ha
          refine endl ?_
          refine thenN (hK5875 _ _ ?_); clear hK5875
          refine condT ha KR KR (t := true) (rfl) ?_
          refine wp_seq_k (fun K5883 hK5884 => ?_)
          refine wp_region_lit ?_
          refine stepp ha 6 (.bool true) KR KR ?_; clear ha a; intro a ha
          refine endl ?_
          refine thenN (hK5884 _ _ ?_); clear hK5884
          refine wp_ret ?_
          refine thenR ?_
          obtain rfl := Option.some.inj h
          exact finv ha _ _ rfl (.tmp (v := .bool true) KR .nil) (.bool true) rfl ⟨rfl, HW.pick [] [] (by decide) (by decide) rfl KR⟩
        · skip
          replace h := ite_neg' h hp5881
          replace ha := ha.bool 34 KR (ieq_f hp5881)
          refine stepp ha 35 (.int .i64 a0.f1.f0) KR KR ?_; clear ha a; intro a ha
          refine stepp ha 36 (.bool (a0.f1.f0 == 3)) KR KR ?_; clear ha a; intro a ha
          refine stepp ha 37 (.bool (a0.f1.f0 == 3)) KR KR ?_; clear ha a; intro a ha
          refine stepp ha 38 (.bool (a0.f1.f0 == 3)) KR KR ?_; clear ha a; intro a ha
          by_cases hp5882 : a0.f1.f0 = 3
          · skip
            replace h := ite_pos' h hp5882
            replace ha := ha.bool 38 KR (ieq_t hp5882)
            refine stepo ha 39 KR ?_; clear ha a; intro a ha
            refine stepo ha 40 KR ?_; clear ha a; intro a ha
            refine stepp ha 41 (.bool true) KR KR ?_; clear ha a; intro a ha
            refine stepp ha 42 (.bool true) KR KR ?_; clear ha a; intro a ha
            refine endl ?_
            refine thenN (hK5875 _ _ ?_); clear hK5875
            refine condT ha KR KR (t := true) (rfl) ?_
            refine wp_seq_k (fun K5885 hK5886 => ?_)
            refine wp_region_lit ?_
            refine stepp ha 6 (.bool true) KR KR ?_; clear ha a; intro a ha
            refine endl ?_
            refine thenN (hK5886 _ _ ?_); clear hK5886
            refine wp_ret ?_
            refine thenR ?_
            obtain rfl := Option.some.inj h
            exact finv ha _ _ rfl (.tmp (v := .bool true) KR .nil) (.bool true) rfl ⟨rfl, HW.pick [] [] (by decide) (by decide) rfl KR⟩
          · skip
            replace h := ite_neg' h hp5882
            replace ha := ha.bool 38 KR (ieq_f hp5882)
            refine stepp ha 39 (.int .i64 a0.f1.f0) KR KR ?_; clear ha a; intro a ha
            refine stepp ha 40 (.bool (a0.f1.f0 == 5)) KR KR ?_; clear ha a; intro a ha
            refine stepp ha 41 (.bool (a0.f1.f0 == 5)) KR KR ?_; clear ha a; intro a ha
            refine stepp ha 42 (.bool (a0.f1.f0 == 5)) KR KR ?_; clear ha a; intro a ha
            refine endl ?_
            refine thenN (hK5875 _ _ ?_); clear hK5875
            by_cases hp5887 : a0.f1.f0 = 5
            · skip
              replace h := ite_pos' h hp5887
              refine condT ha KR KR (t := (a0.f1.f0 == 5)) (ieq_t hp5887) ?_
              refine wp_seq_k (fun K5888 hK5889 => ?_)
              refine wp_region_lit ?_
              refine stepp ha 6 (.bool true) KR KR ?_; clear ha a; intro a ha
              refine endl ?_
              refine thenN (hK5889 _ _ ?_); clear hK5889
              refine wp_ret ?_
              refine thenR ?_
              obtain rfl := Option.some.inj h
              exact finv ha _ _ rfl (.tmp (v := .bool true) KR .nil) (.bool true) rfl ⟨rfl, HW.pick [] [] (by decide) (by decide) rfl KR⟩
            · skip
              replace h := ite_neg' h hp5887
              refine condF ha KR KR (t := (a0.f1.f0 == 5)) (ieq_f hp5887) ?_
              refine wp_skip ?_
              exact thenN ⟨h, ha.sub (subs_cons KR (subs_cons KR (subs_cons KR (subs_nil _)))), HW.pick [0] [] (by decide) (by decide) KR KR⟩
      · skip
        replace h := ite_neg' h hp5880
        replace ha := ha.bool 31 KR (bool_f hp5880)
        refine stepo ha 32 KR ?_; clear ha a; intro a ha
        refine stepo ha 33 KR ?_; clear ha a; intro a ha
        refine stepo ha 34 KR ?_; clear ha a; intro a ha
        refine stepo ha 35 KR ?_; clear ha a; intro a ha
        refine stepo ha 36 KR ?_; clear ha a; intro a ha
        refine stepo ha 37 KR ?_; clear ha a; intro a ha
        refine stepo ha 38 KR ?_; clear ha a; intro a ha
        refine stepo ha 39 KR ?_; clear ha a; intro a ha
        refine stepo ha 40 KR ?_; clear ha a; intro a ha
        refine stepo ha 41 KR ?_; clear ha a; intro a ha
        refine stepp ha 42 (.bool false) KR KR ?_; clear ha a; intro a ha
        refine endl ?_
        refine thenN (hK5875 _ _ ?_); clear hK5875
        refine condF ha KR KR (t := false) (rfl) ?_
        refine wp_skip ?_
        exact thenN ⟨h, ha.sub (subs_cons KR (subs_cons KR (subs_cons KR (subs_nil _)))), HW.pick [0] [] (by decide) (by decide) KR KR⟩
    · skip
      intro a W5890 hJ
      obtain ⟨h, ha, HW⟩ := hJ
      replace h : headgateref10_May.j1 K a0 a1 = some r := h
      unfold headgateref10_May.j1 at h
      refine hK5873 _ _ ?_; clear hK5873
      refine wp_seq_k (fun K5891 hK5892 => ?_)
      refine wp_region_lit ?_
      refine stepp ha 43 (.int .i64 a0.f1.f0) KR KR ?_; clear ha a; intro a ha
      refine stepp ha 44 (.bool (decide (a0.f1.f0 ≥ 3))) KR KR ?_; clear ha a; intro a ha
      refine stepp ha 45 (.bool (decide (a0.f1.f0 ≥ 3))) KR KR ?_; clear ha a; intro a ha
      by_cases hp5893 : a0.f1.f0 ≥ 3
      · skip
        replace h := ite_pos' h hp5893
        replace ha := ha.bool 45 KR (decide_eq_true hp5893)
        refine stepl ha 46 (HW.ca (i := 0) (b := b5830) (C := #[.slice A0_0 a0.f0.length c0_0, .int .i64 a0.f1.f0, .string a0.f1.f1, .int .u32 a0.f2, .bool a0.f3]) (T := 63) (fr := (0, 0)) KR) 63 0 (.tmp 3) (.agg #[.slice A0_0 a0.f0.length c0_0, .int .i64 a0.f1.f0, .string a0.f1.f1, .int .u32 a0.f2, .bool a0.f3]) rfl KR KR KR ?_; clear ha a; intro a ha
        refine stepp ha 47 (.string a1) KR KR ?_; clear ha a; intro a ha
        obtain ⟨t5894, ht5895, h_⟩ := bind_some' h; clear h; have h := h_; clear h_
        refine stepc ha 48 KR KR (headgateref10_Registered.calls K (⟨a0.f0, (⟨a0.f1.f0, a0.f1.f1⟩ : T_api_Hold), a0.f2, a0.f3⟩ : T_api_Table) a1 A0_0 c0_0 t5894 _ ((HW.rd0 hr0_0)) ht5895) ?_; clear ha a; rintro e W5896 ⟨rfl, HX5897⟩
        refine ⟨_, rfl, ?_⟩; intro a ha; replace HW := HW.callw HX5897; clear HX5897
        refine stepp ha 49 (.bool t5894) KR KR ?_; clear ha a; intro a ha
        refine stepp ha 6 (.bool t5894) KR KR ?_; clear ha a; intro a ha
        refine endl ?_
        refine thenN (hK5892 _ _ ?_); clear hK5892
        refine wp_ret ?_
        obtain rfl := Option.some.inj h
        exact finv ha _ _ rfl (.tmp (v := .bool t5894) KR .nil) (.bool t5894) rfl ⟨rfl, HW.pick [] [] (by decide) (by decide) rfl KR⟩
      · skip
        replace h := ite_neg' h hp5893
        replace ha := ha.bool 45 KR (decide_eq_false hp5893)
        refine stepo ha 46 KR ?_; clear ha a; intro a ha
        refine stepo ha 47 KR ?_; clear ha a; intro a ha
        refine stepo ha 48 KR ?_; clear ha a; intro a ha
        refine stepp ha 49 (.bool false) KR KR ?_; clear ha a; intro a ha
        refine stepp ha 6 (.bool false) KR KR ?_; clear ha a; intro a ha
        refine endl ?_
        refine thenN (hK5892 _ _ ?_); clear hK5892
        refine wp_ret ?_
        obtain rfl := Option.some.inj h
        exact finv ha _ _ rfl (.tmp (v := .bool false) KR .nil) (.bool false) rfl ⟨rfl, HW.pick [] [] (by decide) (by decide) rfl KR⟩
/-! ### headgate/headgatekeep.Outs: function 38 -/
def headgatekeep_Outs.f (K : Nat) (a0 : T_api_Out) (a1 : T_api_Out) : Option Bool :=
  if a0.f0 = a1.f0 then (if a0.f1 = a1.f1 then (if a0.f2 = a1.f2 then (if a0.f3 = a1.f3 then ((headgatekeep_Regs.f K a0.f4 a1.f4).bind fun t5957 => (if t5957 = true then (if a0.f5 = a1.f5 then (if a0.f6.f0 = a1.f6.f0 then (if a0.f6.f1 = a1.f6.f1 then (some (a0.f7 == a1.f7)) else (some false)) else (some false)) else (some false)) else (some false))) else (some false)) else (some false)) else (some false)) else (some false)
set_option maxRecDepth 100000 in
set_option maxHeartbeats 4000000 in
theorem headgatekeep_Outs.calls (K : Nat) (a0 : T_api_Out) (a1 : T_api_Out) (A0_0 : Option Addr) (c0_0 : Nat) (A1_1 : Option Addr) (c1_1 : Nat) (r : Bool) (w : World) (hr0_0 : Rd 2 w (.slice A0_0 a0.f4.length c0_0) a0.f4.length (encs T_api_Reg.enc a0.f4)) (hr1_1 : Rd 2 w (.slice A1_1 a1.f4.length c1_1) a1.f4.length (encs T_api_Reg.enc a1.f4)) (h : headgatekeep_Outs.f K a0 a1 = some r) :
    Calls Tryz.prog 38 #[.agg #[.int .i64 a0.f0, .string a0.f1, .int .i64 a0.f2, .int .i64 a0.f3, .slice A0_0 a0.f4.length c0_0, .int .u32 a0.f5, .int .i64 a0.f6.f0, .string a0.f6.f1, .int .i64 a0.f7], .agg #[.int .i64 a1.f0, .string a1.f1, .int .i64 a1.f2, .int .i64 a1.f3, .slice A1_1 a1.f4.length c1_1, .int .u32 a1.f5, .int .i64 a1.f6.f0, .string a1.f6.f1, .int .i64 a1.f7]] w (fun e W' => e = .returned (.bool r) ∧ Wd w W' [] [] ) := by
  refine sxstart (n := 70) (l := [(0, .agg #[.int .i64 a0.f0, .string a0.f1, .int .i64 a0.f2, .int .i64 a0.f3, .slice A0_0 a0.f4.length c0_0, .int .u32 a0.f5, .int .i64 a0.f6.f0, .string a0.f6.f1, .int .i64 a0.f7]), (1, .agg #[.int .i64 a1.f0, .string a1.f1, .int .i64 a1.f2, .int .i64 a1.f3, .slice A1_1 a1.f4.length c1_1, .int .u32 a1.f5, .int .i64 a1.f6.f0, .string a1.f6.f1, .int .i64 a1.f7])]) Tryz.func38 rfl rfl (Nat.le_of_ble_eq_true KR) (subsA_cons rfl (subsA_cons rfl (subsA_nil _))) ?_
  intro a ha
  have HW := Wd.refl w
  unfold headgatekeep_Outs.f at h
  refine wp_seq_k (fun K5945 hK5946 => ?_)
  refine wp_region_lit ?_
  refine stepnew ha HW 2 #[.int .i64 a0.f0, .string a0.f1, .int .i64 a0.f2, .int .i64 a0.f3, .slice A0_0 a0.f4.length c0_0, .int .u32 a0.f5, .int .i64 a0.f6.f0, .string a0.f6.f1, .int .i64 a0.f7] 40 KR KR ?_; clear ha HW a; intro b5947 a W5948 HW ha
  refine stepnew ha HW 3 #[.int .i64 a1.f0, .string a1.f1, .int .i64 a1.f2, .int .i64 a1.f3, .slice A1_1 a1.f4.length c1_1, .int .u32 a1.f5, .int .i64 a1.f6.f0, .string a1.f6.f1, .int .i64 a1.f7] 40 KR KR ?_; clear ha HW a; intro b5949 a W5950 HW ha
  refine stepp ha 4 (.bool false) KR KR ?_; clear ha a; intro a ha
  refine endl ?_
  refine thenN (hK5946 _ _ ?_); clear hK5946
  refine wp_seq_k (fun K5951 hK5952 => ?_)
  refine wp_region_lit ?_
  refine stepp ha 5 (.pointer (some ⟨b5947, 0, none⟩)) KR KR ?_; clear ha a; intro a ha
  refine stepl ha 6 (HW.ca (i := 1) (b := b5947) (C := #[.int .i64 a0.f0, .string a0.f1, .int .i64 a0.f2, .int .i64 a0.f3, .slice A0_0 a0.f4.length c0_0, .int .u32 a0.f5, .int .i64 a0.f6.f0, .string a0.f6.f1, .int .i64 a0.f7]) (T := 40) (fr := (0, 0)) KR) 3 0 (.tmp 5) (.int .i64 a0.f0) rfl KR KR KR ?_; clear ha a; intro a ha
  refine stepp ha 7 (.pointer (some ⟨b5949, 0, none⟩)) KR KR ?_; clear ha a; intro a ha
  refine stepl ha 8 (HW.ca (i := 0) (b := b5949) (C := #[.int .i64 a1.f0, .string a1.f1, .int .i64 a1.f2, .int .i64 a1.f3, .slice A1_1 a1.f4.length c1_1, .int .u32 a1.f5, .int .i64 a1.f6.f0, .string a1.f6.f1, .int .i64 a1.f7]) (T := 40) (fr := (0, 0)) KR) 3 0 (.tmp 7) (.int .i64 a1.f0) rfl KR KR KR ?_; clear ha a; intro a ha
  refine stepp ha 9 (.bool (a0.f0 == a1.f0)) KR KR ?_; clear ha a; intro a ha
  refine stepp ha 10 (.bool (a0.f0 == a1.f0)) KR KR ?_; clear ha a; intro a ha
  by_cases hp5953 : a0.f0 = a1.f0
  · skip
    replace h := ite_pos' h hp5953
    replace ha := ha.bool 10 KR (ieq_t hp5953)
    refine stepp ha 11 (.pointer (some ⟨b5947, 1, none⟩)) KR KR ?_; clear ha a; intro a ha
    refine stepl ha 12 (HW.ca (i := 1) (b := b5947) (C := #[.int .i64 a0.f0, .string a0.f1, .int .i64 a0.f2, .int .i64 a0.f3, .slice A0_0 a0.f4.length c0_0, .int .u32 a0.f5, .int .i64 a0.f6.f0, .string a0.f6.f1, .int .i64 a0.f7]) (T := 40) (fr := (0, 0)) KR) 9 1 (.tmp 11) (.string a0.f1) rfl KR KR KR ?_; clear ha a; intro a ha
    refine stepp ha 13 (.pointer (some ⟨b5949, 1, none⟩)) KR KR ?_; clear ha a; intro a ha
    refine stepl ha 14 (HW.ca (i := 0) (b := b5949) (C := #[.int .i64 a1.f0, .string a1.f1, .int .i64 a1.f2, .int .i64 a1.f3, .slice A1_1 a1.f4.length c1_1, .int .u32 a1.f5, .int .i64 a1.f6.f0, .string a1.f6.f1, .int .i64 a1.f7]) (T := 40) (fr := (0, 0)) KR) 9 1 (.tmp 13) (.string a1.f1) rfl KR KR KR ?_; clear ha a; intro a ha
    refine stepp ha 15 (.bool (a0.f1.toList == a1.f1.toList)) KR KR ?_; clear ha a; intro a ha
    refine stepp ha 16 (.bool (a0.f1.toList == a1.f1.toList)) KR KR ?_; clear ha a; intro a ha
    refine stepp ha 17 (.bool (a0.f1.toList == a1.f1.toList)) KR KR ?_; clear ha a; intro a ha
    by_cases hp5954 : a0.f1 = a1.f1
    · skip
      replace h := ite_pos' h hp5954
      replace ha := ha.bool 17 KR (str_eq_t hp5954)
      refine stepp ha 18 (.pointer (some ⟨b5947, 2, none⟩)) KR KR ?_; clear ha a; intro a ha
      refine stepl ha 19 (HW.ca (i := 1) (b := b5947) (C := #[.int .i64 a0.f0, .string a0.f1, .int .i64 a0.f2, .int .i64 a0.f3, .slice A0_0 a0.f4.length c0_0, .int .u32 a0.f5, .int .i64 a0.f6.f0, .string a0.f6.f1, .int .i64 a0.f7]) (T := 40) (fr := (0, 0)) KR) 3 2 (.tmp 18) (.int .i64 a0.f2) rfl KR KR KR ?_; clear ha a; intro a ha
      refine stepp ha 20 (.pointer (some ⟨b5949, 2, none⟩)) KR KR ?_; clear ha a; intro a ha
      refine stepl ha 21 (HW.ca (i := 0) (b := b5949) (C := #[.int .i64 a1.f0, .string a1.f1, .int .i64 a1.f2, .int .i64 a1.f3, .slice A1_1 a1.f4.length c1_1, .int .u32 a1.f5, .int .i64 a1.f6.f0, .string a1.f6.f1, .int .i64 a1.f7]) (T := 40) (fr := (0, 0)) KR) 3 2 (.tmp 20) (.int .i64 a1.f2) rfl KR KR KR ?_; clear ha a; intro a ha
      refine stepp ha 22 (.bool (a0.f2 == a1.f2)) KR KR ?_; clear ha a; intro a ha
      refine stepp ha 23 (.bool (a0.f2 == a1.f2)) KR KR ?_; clear ha a; intro a ha
      refine stepp ha 24 (.bool (a0.f2 == a1.f2)) KR KR ?_; clear ha a; intro a ha
      by_cases hp5955 : a0.f2 = a1.f2
      · skip
        replace h := ite_pos' h hp5955
        replace ha := ha.bool 24 KR (ieq_t hp5955)
        refine stepp ha 25 (.pointer (some ⟨b5947, 3, none⟩)) KR KR ?_; clear ha a; intro a ha
        refine stepl ha 26 (HW.ca (i := 1) (b := b5947) (C := #[.int .i64 a0.f0, .string a0.f1, .int .i64 a0.f2, .int .i64 a0.f3, .slice A0_0 a0.f4.length c0_0, .int .u32 a0.f5, .int .i64 a0.f6.f0, .string a0.f6.f1, .int .i64 a0.f7]) (T := 40) (fr := (0, 0)) KR) 3 3 (.tmp 25) (.int .i64 a0.f3) rfl KR KR KR ?_; clear ha a; intro a ha
        refine stepp ha 27 (.pointer (some ⟨b5949, 3, none⟩)) KR KR ?_; clear ha a; intro a ha
        refine stepl ha 28 (HW.ca (i := 0) (b := b5949) (C := #[.int .i64 a1.f0, .string a1.f1, .int .i64 a1.f2, .int .i64 a1.f3, .slice A1_1 a1.f4.length c1_1, .int .u32 a1.f5, .int .i64 a1.f6.f0, .string a1.f6.f1, .int .i64 a1.f7]) (T := 40) (fr := (0, 0)) KR) 3 3 (.tmp 27) (.int .i64 a1.f3) rfl KR KR KR ?_; clear ha a; intro a ha
        refine stepp ha 29 (.bool (a0.f3 == a1.f3)) KR KR ?_; clear ha a; intro a ha
        refine stepp ha 30 (.bool (a0.f3 == a1.f3)) KR KR ?_; clear ha a; intro a ha
        refine stepp ha 31 (.bool (a0.f3 == a1.f3)) KR KR ?_; clear ha a; intro a ha
        by_cases hp5956 : a0.f3 = a1.f3
        · skip
          replace h := ite_pos' h hp5956
          replace ha := ha.bool 31 KR (ieq_t hp5956)
          refine stepp ha 32 (.pointer (some ⟨b5947, 4, none⟩)) KR KR ?_; clear ha a; intro a ha
          refine stepl ha 33 (HW.ca (i := 1) (b := b5947) (C := #[.int .i64 a0.f0, .string a0.f1, .int .i64 a0.f2, .int .i64 a0.f3, .slice A0_0 a0.f4.length c0_0, .int .u32 a0.f5, .int .i64 a0.f6.f0, .string a0.f6.f1, .int .i64 a0.f7]) (T := 40) (fr := (0, 0)) KR) 35 4 (.tmp 32) (.slice A0_0 a0.f4.length c0_0) rfl KR KR KR ?_; clear ha a; intro a ha
          refine stepp ha 34 (.pointer (some ⟨b5949, 4, none⟩)) KR KR ?_; clear ha a; intro a ha
          refine stepl ha 35 (HW.ca (i := 0) (b := b5949) (C := #[.int .i64 a1.f0, .string a1.f1, .int .i64 a1.f2, .int .i64 a1.f3, .slice A1_1 a1.f4.length c1_1, .int .u32 a1.f5, .int .i64 a1.f6.f0, .string a1.f6.f1, .int .i64 a1.f7]) (T := 40) (fr := (0, 0)) KR) 35 4 (.tmp 34) (.slice A1_1 a1.f4.length c1_1) rfl KR KR KR ?_; clear ha a; intro a ha
          obtain ⟨t5957, ht5958, h_⟩ := bind_some' h; clear h; have h := h_; clear h_
          refine stepc ha 36 KR KR (headgatekeep_Regs.calls K a0.f4 a1.f4 A0_0 c0_0 A1_1 c1_1 t5957 _ ((HW.rd0 hr0_0)) ((HW.rd0 hr1_1)) ht5958) ?_; clear ha a; rintro e W5959 ⟨rfl, HX5960⟩
          refine ⟨_, rfl, ?_⟩; intro a ha; replace HW := HW.callw HX5960; clear HX5960
          refine stepp ha 37 (.bool t5957) KR KR ?_; clear ha a; intro a ha
          refine stepp ha 38 (.bool t5957) KR KR ?_; clear ha a; intro a ha
          by_cases hp5961 : t5957 = true
          · skip
            replace h := ite_pos' h hp5961
            replace ha := ha.bool 38 KR (hp5961)
            refine stepp ha 39 (.pointer (some ⟨b5947, 5, none⟩)) KR KR ?_; clear ha a; intro a ha
            refine stepl ha 40 (HW.ca (i := 1) (b := b5947) (C := #[.int .i64 a0.f0, .string a0.f1, .int .i64 a0.f2, .int .i64 a0.f3, .slice A0_0 a0.f4.length c0_0, .int .u32 a0.f5, .int .i64 a0.f6.f0, .string a0.f6.f1, .int .i64 a0.f7]) (T := 40) (fr := (0, 0)) KR) 36 5 (.tmp 39) (.int .u32 a0.f5) rfl KR KR KR ?_; clear ha a; intro a ha
            refine stepp ha 41 (.pointer (some ⟨b5949, 5, none⟩)) KR KR ?_; clear ha a; intro a ha
            refine stepl ha 42 (HW.ca (i := 0) (b := b5949) (C := #[.int .i64 a1.f0, .string a1.f1, .int .i64 a1.f2, .int .i64 a1.f3, .slice A1_1 a1.f4.length c1_1, .int .u32 a1.f5, .int .i64 a1.f6.f0, .string a1.f6.f1, .int .i64 a1.f7]) (T := 40) (fr := (0, 0)) KR) 36 5 (.tmp 41) (.int .u32 a1.f5) rfl KR KR KR ?_; clear ha a; intro a ha
            refine stepp ha 43 (.bool (a0.f5 == a1.f5)) KR KR ?_; clear ha a; intro a ha
            refine stepp ha 44 (.bool (a0.f5 == a1.f5)) KR KR ?_; clear ha a; intro a ha
            refine stepp ha 45 (.bool (a0.f5 == a1.f5)) KR KR ?_; clear ha a; intro a ha
            by_cases hp5962 : a0.f5 = a1.f5
            · skip
              replace h := ite_pos' h hp5962
              replace ha := ha.bool 45 KR (ieq_t hp5962)
              refine stepp ha 46 (.pointer (some ⟨b5947, 6, none⟩)) KR KR ?_; clear ha a; intro a ha
              refine stepp ha 47 (.pointer (some ⟨b5947, 6, none⟩)) KR KR ?_; clear ha a; intro a ha
              refine stepl ha 48 (HW.ca (i := 1) (b := b5947) (C := #[.int .i64 a0.f0, .string a0.f1, .int .i64 a0.f2, .int .i64 a0.f3, .slice A0_0 a0.f4.length c0_0, .int .u32 a0.f5, .int .i64 a0.f6.f0, .string a0.f6.f1, .int .i64 a0.f7]) (T := 40) (fr := (0, 0)) KR) 3 6 (.tmp 47) (.int .i64 a0.f6.f0) rfl KR KR KR ?_; clear ha a; intro a ha
              refine stepp ha 49 (.pointer (some ⟨b5949, 6, none⟩)) KR KR ?_; clear ha a; intro a ha
              refine stepp ha 50 (.pointer (some ⟨b5949, 6, none⟩)) KR KR ?_; clear ha a; intro a ha
              refine stepl ha 51 (HW.ca (i := 0) (b := b5949) (C := #[.int .i64 a1.f0, .string a1.f1, .int .i64 a1.f2, .int .i64 a1.f3, .slice A1_1 a1.f4.length c1_1, .int .u32 a1.f5, .int .i64 a1.f6.f0, .string a1.f6.f1, .int .i64 a1.f7]) (T := 40) (fr := (0, 0)) KR) 3 6 (.tmp 50) (.int .i64 a1.f6.f0) rfl KR KR KR ?_; clear ha a; intro a ha
              refine stepp ha 52 (.bool (a0.f6.f0 == a1.f6.f0)) KR KR ?_; clear ha a; intro a ha
              refine stepp ha 53 (.bool (a0.f6.f0 == a1.f6.f0)) KR KR ?_; clear ha a; intro a ha
              refine stepp ha 54 (.bool (a0.f6.f0 == a1.f6.f0)) KR KR ?_; clear ha a; intro a ha
              by_cases hp5963 : a0.f6.f0 = a1.f6.f0
              · skip
                replace h := ite_pos' h hp5963
                replace ha := ha.bool 54 KR (ieq_t hp5963)
                refine stepp ha 55 (.pointer (some ⟨b5947, 6, none⟩)) KR KR ?_; clear ha a; intro a ha
                refine stepp ha 56 (.pointer (some ⟨b5947, 7, none⟩)) KR KR ?_; clear ha a; intro a ha
                refine stepl ha 57 (HW.ca (i := 1) (b := b5947) (C := #[.int .i64 a0.f0, .string a0.f1, .int .i64 a0.f2, .int .i64 a0.f3, .slice A0_0 a0.f4.length c0_0, .int .u32 a0.f5, .int .i64 a0.f6.f0, .string a0.f6.f1, .int .i64 a0.f7]) (T := 40) (fr := (0, 0)) KR) 9 7 (.tmp 56) (.string a0.f6.f1) rfl KR KR KR ?_; clear ha a; intro a ha
                refine stepp ha 58 (.pointer (some ⟨b5949, 6, none⟩)) KR KR ?_; clear ha a; intro a ha
                refine stepp ha 59 (.pointer (some ⟨b5949, 7, none⟩)) KR KR ?_; clear ha a; intro a ha
                refine stepl ha 60 (HW.ca (i := 0) (b := b5949) (C := #[.int .i64 a1.f0, .string a1.f1, .int .i64 a1.f2, .int .i64 a1.f3, .slice A1_1 a1.f4.length c1_1, .int .u32 a1.f5, .int .i64 a1.f6.f0, .string a1.f6.f1, .int .i64 a1.f7]) (T := 40) (fr := (0, 0)) KR) 9 7 (.tmp 59) (.string a1.f6.f1) rfl KR KR KR ?_; clear ha a; intro a ha
                refine stepp ha 61 (.bool (a0.f6.f1.toList == a1.f6.f1.toList)) KR KR ?_; clear ha a; intro a ha
                refine stepp ha 62 (.bool (a0.f6.f1.toList == a1.f6.f1.toList)) KR KR ?_; clear ha a; intro a ha
                refine stepp ha 63 (.bool (a0.f6.f1.toList == a1.f6.f1.toList)) KR KR ?_; clear ha a; intro a ha
                by_cases hp5964 : a0.f6.f1 = a1.f6.f1
                · skip
                  replace h := ite_pos' h hp5964
                  replace ha := ha.bool 63 KR (str_eq_t hp5964)
                  refine stepp ha 64 (.pointer (some ⟨b5947, 8, none⟩)) KR KR ?_; clear ha a; intro a ha
                  refine stepl ha 65 (HW.ca (i := 1) (b := b5947) (C := #[.int .i64 a0.f0, .string a0.f1, .int .i64 a0.f2, .int .i64 a0.f3, .slice A0_0 a0.f4.length c0_0, .int .u32 a0.f5, .int .i64 a0.f6.f0, .string a0.f6.f1, .int .i64 a0.f7]) (T := 40) (fr := (0, 0)) KR) 3 8 (.tmp 64) (.int .i64 a0.f7) rfl KR KR KR ?_; clear ha a; intro a ha
                  refine stepp ha 66 (.pointer (some ⟨b5949, 8, none⟩)) KR KR ?_; clear ha a; intro a ha
                  refine stepl ha 67 (HW.ca (i := 0) (b := b5949) (C := #[.int .i64 a1.f0, .string a1.f1, .int .i64 a1.f2, .int .i64 a1.f3, .slice A1_1 a1.f4.length c1_1, .int .u32 a1.f5, .int .i64 a1.f6.f0, .string a1.f6.f1, .int .i64 a1.f7]) (T := 40) (fr := (0, 0)) KR) 3 8 (.tmp 66) (.int .i64 a1.f7) rfl KR KR KR ?_; clear ha a; intro a ha
                  refine stepp ha 68 (.bool (a0.f7 == a1.f7)) KR KR ?_; clear ha a; intro a ha
                  refine stepp ha 69 (.bool (a0.f7 == a1.f7)) KR KR ?_; clear ha a; intro a ha
                  refine stepp ha 4 (.bool (a0.f7 == a1.f7)) KR KR ?_; clear ha a; intro a ha
                  refine endl ?_
                  refine thenN (hK5952 _ _ ?_); clear hK5952
                  refine wp_ret ?_
                  obtain rfl := Option.some.inj h
                  exact finv ha _ _ rfl (.tmp (v := .bool (a0.f7 == a1.f7)) KR .nil) (.bool (a0.f7 == a1.f7)) rfl ⟨rfl, HW.pick [] [] (by decide) (by decide) rfl KR⟩
                · skip
                  replace h := ite_neg' h hp5964
                  replace ha := ha.bool 63 KR (str_eq_f hp5964)
                  refine stepo ha 64 KR ?_; clear ha a; intro a ha
                  refine stepo ha 65 KR ?_; clear ha a; intro a ha
                  refine stepo ha 66 KR ?_; clear ha a; intro a ha
                  refine stepo ha 67 KR ?_; clear ha a; intro a ha
                  refine stepo ha 68 KR ?_; clear ha a; intro a ha
                  refine stepp ha 69 (.bool false) KR KR ?_; clear ha a; intro a ha
                  refine stepp ha 4 (.bool false) KR KR ?_; clear ha a; intro a ha
                  refine endl ?_
                  refine thenN (hK5952 _ _ ?_); clear hK5952
                  refine wp_ret ?_
                  obtain rfl := Option.some.inj h
                  exact finv ha _ _ rfl (.tmp (v := .bool false) KR .nil) (.bool false) rfl ⟨rfl, HW.pick [] [] (by decide) (by decide) rfl KR⟩
              · skip
                replace h := ite_neg' h hp5963
                replace ha := ha.bool 54 KR (ieq_f hp5963)
                refine stepo ha 55 KR ?_; clear ha a; intro a ha
                refine stepo ha 56 KR ?_; clear ha a; intro a ha
                refine stepo ha 57 KR ?_; clear ha a; intro a ha
                refine stepo ha 58 KR ?_; clear ha a; intro a ha
                refine stepo ha 59 KR ?_; clear ha a; intro a ha
                refine stepo ha 60 KR ?_; clear ha a; intro a ha
                refine stepo ha 61 KR ?_; clear ha a; intro a ha
                refine stepp ha 62 (.bool false) KR KR ?_; clear ha a; intro a ha
                refine stepp ha 63 (.bool false) KR KR ?_; clear ha a; intro a ha
                refine stepo ha 64 KR ?_; clear ha a; intro a ha
                refine stepo ha 65 KR ?_; clear ha a; intro a ha
                refine stepo ha 66 KR ?_; clear ha a; intro a ha
                refine stepo ha 67 KR ?_; clear ha a; intro a ha
                refine stepo ha 68 KR ?_; clear ha a; intro a ha
                refine stepp ha 69 (.bool false) KR KR ?_; clear ha a; intro a ha
                refine stepp ha 4 (.bool false) KR KR ?_; clear ha a; intro a ha
                refine endl ?_
                refine thenN (hK5952 _ _ ?_); clear hK5952
                refine wp_ret ?_
                obtain rfl := Option.some.inj h
                exact finv ha _ _ rfl (.tmp (v := .bool false) KR .nil) (.bool false) rfl ⟨rfl, HW.pick [] [] (by decide) (by decide) rfl KR⟩
            · skip
              replace h := ite_neg' h hp5962
              replace ha := ha.bool 45 KR (ieq_f hp5962)
              refine stepo ha 46 KR ?_; clear ha a; intro a ha
              refine stepo ha 47 KR ?_; clear ha a; intro a ha
              refine stepo ha 48 KR ?_; clear ha a; intro a ha
              refine stepo ha 49 KR ?_; clear ha a; intro a ha
              refine stepo ha 50 KR ?_; clear ha a; intro a ha
              refine stepo ha 51 KR ?_; clear ha a; intro a ha
              refine stepo ha 52 KR ?_; clear ha a; intro a ha
              refine stepp ha 53 (.bool false) KR KR ?_; clear ha a; intro a ha
              refine stepp ha 54 (.bool false) KR KR ?_; clear ha a; intro a ha
              refine stepo ha 55 KR ?_; clear ha a; intro a ha
              refine stepo ha 56 KR ?_; clear ha a; intro a ha
              refine stepo ha 57 KR ?_; clear ha a; intro a ha
              refine stepo ha 58 KR ?_; clear ha a; intro a ha
              refine stepo ha 59 KR ?_; clear ha a; intro a ha
              refine stepo ha 60 KR ?_; clear ha a; intro a ha
              refine stepo ha 61 KR ?_; clear ha a; intro a ha
              refine stepp ha 62 (.bool false) KR KR ?_; clear ha a; intro a ha
              refine stepp ha 63 (.bool false) KR KR ?_; clear ha a; intro a ha
              refine stepo ha 64 KR ?_; clear ha a; intro a ha
              refine stepo ha 65 KR ?_; clear ha a; intro a ha
              refine stepo ha 66 KR ?_; clear ha a; intro a ha
              refine stepo ha 67 KR ?_; clear ha a; intro a ha
              refine stepo ha 68 KR ?_; clear ha a; intro a ha
              refine stepp ha 69 (.bool false) KR KR ?_; clear ha a; intro a ha
              refine stepp ha 4 (.bool false) KR KR ?_; clear ha a; intro a ha
              refine endl ?_
              refine thenN (hK5952 _ _ ?_); clear hK5952
              refine wp_ret ?_
              obtain rfl := Option.some.inj h
              exact finv ha _ _ rfl (.tmp (v := .bool false) KR .nil) (.bool false) rfl ⟨rfl, HW.pick [] [] (by decide) (by decide) rfl KR⟩
          · skip
            replace h := ite_neg' h hp5961
            replace ha := ha.bool 38 KR (bool_f hp5961)
            refine stepo ha 39 KR ?_; clear ha a; intro a ha
            refine stepo ha 40 KR ?_; clear ha a; intro a ha
            refine stepo ha 41 KR ?_; clear ha a; intro a ha
            refine stepo ha 42 KR ?_; clear ha a; intro a ha
            refine stepo ha 43 KR ?_; clear ha a; intro a ha
            refine stepp ha 44 (.bool false) KR KR ?_; clear ha a; intro a ha
            refine stepp ha 45 (.bool false) KR KR ?_; clear ha a; intro a ha
            refine stepo ha 46 KR ?_; clear ha a; intro a ha
            refine stepo ha 47 KR ?_; clear ha a; intro a ha
            refine stepo ha 48 KR ?_; clear ha a; intro a ha
            refine stepo ha 49 KR ?_; clear ha a; intro a ha
            refine stepo ha 50 KR ?_; clear ha a; intro a ha
            refine stepo ha 51 KR ?_; clear ha a; intro a ha
            refine stepo ha 52 KR ?_; clear ha a; intro a ha
            refine stepp ha 53 (.bool false) KR KR ?_; clear ha a; intro a ha
            refine stepp ha 54 (.bool false) KR KR ?_; clear ha a; intro a ha
            refine stepo ha 55 KR ?_; clear ha a; intro a ha
            refine stepo ha 56 KR ?_; clear ha a; intro a ha
            refine stepo ha 57 KR ?_; clear ha a; intro a ha
            refine stepo ha 58 KR ?_; clear ha a; intro a ha
            refine stepo ha 59 KR ?_; clear ha a; intro a ha
            refine stepo ha 60 KR ?_; clear ha a; intro a ha
            refine stepo ha 61 KR ?_; clear ha a; intro a ha
            refine stepp ha 62 (.bool false) KR KR ?_; clear ha a; intro a ha
            refine stepp ha 63 (.bool false) KR KR ?_; clear ha a; intro a ha
            refine stepo ha 64 KR ?_; clear ha a; intro a ha
            refine stepo ha 65 KR ?_; clear ha a; intro a ha
            refine stepo ha 66 KR ?_; clear ha a; intro a ha
            refine stepo ha 67 KR ?_; clear ha a; intro a ha
            refine stepo ha 68 KR ?_; clear ha a; intro a ha
            refine stepp ha 69 (.bool false) KR KR ?_; clear ha a; intro a ha
            refine stepp ha 4 (.bool false) KR KR ?_; clear ha a; intro a ha
            refine endl ?_
            refine thenN (hK5952 _ _ ?_); clear hK5952
            refine wp_ret ?_
            obtain rfl := Option.some.inj h
            exact finv ha _ _ rfl (.tmp (v := .bool false) KR .nil) (.bool false) rfl ⟨rfl, HW.pick [] [] (by decide) (by decide) rfl KR⟩
        · skip
          replace h := ite_neg' h hp5956
          replace ha := ha.bool 31 KR (ieq_f hp5956)
          refine stepo ha 32 KR ?_; clear ha a; intro a ha
          refine stepo ha 33 KR ?_; clear ha a; intro a ha
          refine stepo ha 34 KR ?_; clear ha a; intro a ha
          refine stepo ha 35 KR ?_; clear ha a; intro a ha
          refine stepo ha 36 KR ?_; clear ha a; intro a ha
          refine stepp ha 37 (.bool false) KR KR ?_; clear ha a; intro a ha
          refine stepp ha 38 (.bool false) KR KR ?_; clear ha a; intro a ha
          refine stepo ha 39 KR ?_; clear ha a; intro a ha
          refine stepo ha 40 KR ?_; clear ha a; intro a ha
          refine stepo ha 41 KR ?_; clear ha a; intro a ha
          refine stepo ha 42 KR ?_; clear ha a; intro a ha
          refine stepo ha 43 KR ?_; clear ha a; intro a ha
          refine stepp ha 44 (.bool false) KR KR ?_; clear ha a; intro a ha
          refine stepp ha 45 (.bool false) KR KR ?_; clear ha a; intro a ha
          refine stepo ha 46 KR ?_; clear ha a; intro a ha
          refine stepo ha 47 KR ?_; clear ha a; intro a ha
          refine stepo ha 48 KR ?_; clear ha a; intro a ha
          refine stepo ha 49 KR ?_; clear ha a; intro a ha
          refine stepo ha 50 KR ?_; clear ha a; intro a ha
          refine stepo ha 51 KR ?_; clear ha a; intro a ha
          refine stepo ha 52 KR ?_; clear ha a; intro a ha
          refine stepp ha 53 (.bool false) KR KR ?_; clear ha a; intro a ha
          refine stepp ha 54 (.bool false) KR KR ?_; clear ha a; intro a ha
          refine stepo ha 55 KR ?_; clear ha a; intro a ha
          refine stepo ha 56 KR ?_; clear ha a; intro a ha
          refine stepo ha 57 KR ?_; clear ha a; intro a ha
          refine stepo ha 58 KR ?_; clear ha a; intro a ha
          refine stepo ha 59 KR ?_; clear ha a; intro a ha
          refine stepo ha 60 KR ?_; clear ha a; intro a ha
          refine stepo ha 61 KR ?_; clear ha a; intro a ha
          refine stepp ha 62 (.bool false) KR KR ?_; clear ha a; intro a ha
          refine stepp ha 63 (.bool false) KR KR ?_; clear ha a; intro a ha
          refine stepo ha 64 KR ?_; clear ha a; intro a ha
          refine stepo ha 65 KR ?_; clear ha a; intro a ha
          refine stepo ha 66 KR ?_; clear ha a; intro a ha
          refine stepo ha 67 KR ?_; clear ha a; intro a ha
          refine stepo ha 68 KR ?_; clear ha a; intro a ha
          refine stepp ha 69 (.bool false) KR KR ?_; clear ha a; intro a ha
          refine stepp ha 4 (.bool false) KR KR ?_; clear ha a; intro a ha
          refine endl ?_
          refine thenN (hK5952 _ _ ?_); clear hK5952
          refine wp_ret ?_
          obtain rfl := Option.some.inj h
          exact finv ha _ _ rfl (.tmp (v := .bool false) KR .nil) (.bool false) rfl ⟨rfl, HW.pick [] [] (by decide) (by decide) rfl KR⟩
      · skip
        replace h := ite_neg' h hp5955
        replace ha := ha.bool 24 KR (ieq_f hp5955)
        refine stepo ha 25 KR ?_; clear ha a; intro a ha
        refine stepo ha 26 KR ?_; clear ha a; intro a ha
        refine stepo ha 27 KR ?_; clear ha a; intro a ha
        refine stepo ha 28 KR ?_; clear ha a; intro a ha
        refine stepo ha 29 KR ?_; clear ha a; intro a ha
        refine stepp ha 30 (.bool false) KR KR ?_; clear ha a; intro a ha
        refine stepp ha 31 (.bool false) KR KR ?_; clear ha a; intro a ha
        refine stepo ha 32 KR ?_; clear ha a; intro a ha
        refine stepo ha 33 KR ?_; clear ha a; intro a ha
        refine stepo ha 34 KR ?_; clear ha a; intro a ha
        refine stepo ha 35 KR ?_; clear ha a; intro a ha
        refine stepo ha 36 KR ?_; clear ha a; intro a ha
        refine stepp ha 37 (.bool false) KR KR ?_; clear ha a; intro a ha
        refine stepp ha 38 (.bool false) KR KR ?_; clear ha a; intro a ha
        refine stepo ha 39 KR ?_; clear ha a; intro a ha
        refine stepo ha 40 KR ?_; clear ha a; intro a ha
        refine stepo ha 41 KR ?_; clear ha a; intro a ha
        refine stepo ha 42 KR ?_; clear ha a; intro a ha
        refine stepo ha 43 KR ?_; clear ha a; intro a ha
        refine stepp ha 44 (.bool false) KR KR ?_; clear ha a; intro a ha
        refine stepp ha 45 (.bool false) KR KR ?_; clear ha a; intro a ha
        refine stepo ha 46 KR ?_; clear ha a; intro a ha
        refine stepo ha 47 KR ?_; clear ha a; intro a ha
        refine stepo ha 48 KR ?_; clear ha a; intro a ha
        refine stepo ha 49 KR ?_; clear ha a; intro a ha
        refine stepo ha 50 KR ?_; clear ha a; intro a ha
        refine stepo ha 51 KR ?_; clear ha a; intro a ha
        refine stepo ha 52 KR ?_; clear ha a; intro a ha
        refine stepp ha 53 (.bool false) KR KR ?_; clear ha a; intro a ha
        refine stepp ha 54 (.bool false) KR KR ?_; clear ha a; intro a ha
        refine stepo ha 55 KR ?_; clear ha a; intro a ha
        refine stepo ha 56 KR ?_; clear ha a; intro a ha
        refine stepo ha 57 KR ?_; clear ha a; intro a ha
        refine stepo ha 58 KR ?_; clear ha a; intro a ha
        refine stepo ha 59 KR ?_; clear ha a; intro a ha
        refine stepo ha 60 KR ?_; clear ha a; intro a ha
        refine stepo ha 61 KR ?_; clear ha a; intro a ha
        refine stepp ha 62 (.bool false) KR KR ?_; clear ha a; intro a ha
        refine stepp ha 63 (.bool false) KR KR ?_; clear ha a; intro a ha
        refine stepo ha 64 KR ?_; clear ha a; intro a ha
        refine stepo ha 65 KR ?_; clear ha a; intro a ha
        refine stepo ha 66 KR ?_; clear ha a; intro a ha
        refine stepo ha 67 KR ?_; clear ha a; intro a ha
        refine stepo ha 68 KR ?_; clear ha a; intro a ha
        refine stepp ha 69 (.bool false) KR KR ?_; clear ha a; intro a ha
        refine stepp ha 4 (.bool false) KR KR ?_; clear ha a; intro a ha
        refine endl ?_
        refine thenN (hK5952 _ _ ?_); clear hK5952
        refine wp_ret ?_
        obtain rfl := Option.some.inj h
        exact finv ha _ _ rfl (.tmp (v := .bool false) KR .nil) (.bool false) rfl ⟨rfl, HW.pick [] [] (by decide) (by decide) rfl KR⟩
    · skip
      replace h := ite_neg' h hp5954
      replace ha := ha.bool 17 KR (str_eq_f hp5954)
      refine stepo ha 18 KR ?_; clear ha a; intro a ha
      refine stepo ha 19 KR ?_; clear ha a; intro a ha
      refine stepo ha 20 KR ?_; clear ha a; intro a ha
      refine stepo ha 21 KR ?_; clear ha a; intro a ha
      refine stepo ha 22 KR ?_; clear ha a; intro a ha
      refine stepp ha 23 (.bool false) KR KR ?_; clear ha a; intro a ha
      refine stepp ha 24 (.bool false) KR KR ?_; clear ha a; intro a ha
      refine stepo ha 25 KR ?_; clear ha a; intro a ha
      refine stepo ha 26 KR ?_; clear ha a; intro a ha
      refine stepo ha 27 KR ?_; clear ha a; intro a ha
      refine stepo ha 28 KR ?_; clear ha a; intro a ha
      refine stepo ha 29 KR ?_; clear ha a; intro a ha
      refine stepp ha 30 (.bool false) KR KR ?_; clear ha a; intro a ha
      refine stepp ha 31 (.bool false) KR KR ?_; clear ha a; intro a ha
      refine stepo ha 32 KR ?_; clear ha a; intro a ha
      refine stepo ha 33 KR ?_; clear ha a; intro a ha
      refine stepo ha 34 KR ?_; clear ha a; intro a ha
      refine stepo ha 35 KR ?_; clear ha a; intro a ha
      refine stepo ha 36 KR ?_; clear ha a; intro a ha
      refine stepp ha 37 (.bool false) KR KR ?_; clear ha a; intro a ha
      refine stepp ha 38 (.bool false) KR KR ?_; clear ha a; intro a ha
      refine stepo ha 39 KR ?_; clear ha a; intro a ha
      refine stepo ha 40 KR ?_; clear ha a; intro a ha
      refine stepo ha 41 KR ?_; clear ha a; intro a ha
      refine stepo ha 42 KR ?_; clear ha a; intro a ha
      refine stepo ha 43 KR ?_; clear ha a; intro a ha
      refine stepp ha 44 (.bool false) KR KR ?_; clear ha a; intro a ha
      refine stepp ha 45 (.bool false) KR KR ?_; clear ha a; intro a ha
      refine stepo ha 46 KR ?_; clear ha a; intro a ha
      refine stepo ha 47 KR ?_; clear ha a; intro a ha
      refine stepo ha 48 KR ?_; clear ha a; intro a ha
      refine stepo ha 49 KR ?_; clear ha a; intro a ha
      refine stepo ha 50 KR ?_; clear ha a; intro a ha
      refine stepo ha 51 KR ?_; clear ha a; intro a ha
      refine stepo ha 52 KR ?_; clear ha a; intro a ha
      refine stepp ha 53 (.bool false) KR KR ?_; clear ha a; intro a ha
      refine stepp ha 54 (.bool false) KR KR ?_; clear ha a; intro a ha
      refine stepo ha 55 KR ?_; clear ha a; intro a ha
      refine stepo ha 56 KR ?_; clear ha a; intro a ha
      refine stepo ha 57 KR ?_; clear ha a; intro a ha
      refine stepo ha 58 KR ?_; clear ha a; intro a ha
      refine stepo ha 59 KR ?_; clear ha a; intro a ha
      refine stepo ha 60 KR ?_; clear ha a; intro a ha
      refine stepo ha 61 KR ?_; clear ha a; intro a ha
      refine stepp ha 62 (.bool false) KR KR ?_; clear ha a; intro a ha
      refine stepp ha 63 (.bool false) KR KR ?_; clear ha a; intro a ha
      refine stepo ha 64 KR ?_; clear ha a; intro a ha
      refine stepo ha 65 KR ?_; clear ha a; intro a ha
      refine stepo ha 66 KR ?_; clear ha a; intro a ha
      refine stepo ha 67 KR ?_; clear ha a; intro a ha
      refine stepo ha 68 KR ?_; clear ha a; intro a ha
      refine stepp ha 69 (.bool false) KR KR ?_; clear ha a; intro a ha
      refine stepp ha 4 (.bool false) KR KR ?_; clear ha a; intro a ha
      refine endl ?_
      refine thenN (hK5952 _ _ ?_); clear hK5952
      refine wp_ret ?_
      obtain rfl := Option.some.inj h
      exact finv ha _ _ rfl (.tmp (v := .bool false) KR .nil) (.bool false) rfl ⟨rfl, HW.pick [] [] (by decide) (by decide) rfl KR⟩
  · skip
    replace h := ite_neg' h hp5953
    replace ha := ha.bool 10 KR (ieq_f hp5953)
    refine stepo ha 11 KR ?_; clear ha a; intro a ha
    refine stepo ha 12 KR ?_; clear ha a; intro a ha
    refine stepo ha 13 KR ?_; clear ha a; intro a ha
    refine stepo ha 14 KR ?_; clear ha a; intro a ha
    refine stepo ha 15 KR ?_; clear ha a; intro a ha
    refine stepp ha 16 (.bool false) KR KR ?_; clear ha a; intro a ha
    refine stepp ha 17 (.bool false) KR KR ?_; clear ha a; intro a ha
    refine stepo ha 18 KR ?_; clear ha a; intro a ha
    refine stepo ha 19 KR ?_; clear ha a; intro a ha
    refine stepo ha 20 KR ?_; clear ha a; intro a ha
    refine stepo ha 21 KR ?_; clear ha a; intro a ha
    refine stepo ha 22 KR ?_; clear ha a; intro a ha
    refine stepp ha 23 (.bool false) KR KR ?_; clear ha a; intro a ha
    refine stepp ha 24 (.bool false) KR KR ?_; clear ha a; intro a ha
    refine stepo ha 25 KR ?_; clear ha a; intro a ha
    refine stepo ha 26 KR ?_; clear ha a; intro a ha
    refine stepo ha 27 KR ?_; clear ha a; intro a ha
    refine stepo ha 28 KR ?_; clear ha a; intro a ha
    refine stepo ha 29 KR ?_; clear ha a; intro a ha
    refine stepp ha 30 (.bool false) KR KR ?_; clear ha a; intro a ha
    refine stepp ha 31 (.bool false) KR KR ?_; clear ha a; intro a ha
    refine stepo ha 32 KR ?_; clear ha a; intro a ha
    refine stepo ha 33 KR ?_; clear ha a; intro a ha
    refine stepo ha 34 KR ?_; clear ha a; intro a ha
    refine stepo ha 35 KR ?_; clear ha a; intro a ha
    refine stepo ha 36 KR ?_; clear ha a; intro a ha
    refine stepp ha 37 (.bool false) KR KR ?_; clear ha a; intro a ha
    refine stepp ha 38 (.bool false) KR KR ?_; clear ha a; intro a ha
    refine stepo ha 39 KR ?_; clear ha a; intro a ha
    refine stepo ha 40 KR ?_; clear ha a; intro a ha
    refine stepo ha 41 KR ?_; clear ha a; intro a ha
    refine stepo ha 42 KR ?_; clear ha a; intro a ha
    refine stepo ha 43 KR ?_; clear ha a; intro a ha
    refine stepp ha 44 (.bool false) KR KR ?_; clear ha a; intro a ha
    refine stepp ha 45 (.bool false) KR KR ?_; clear ha a; intro a ha
    refine stepo ha 46 KR ?_; clear ha a; intro a ha
    refine stepo ha 47 KR ?_; clear ha a; intro a ha
    refine stepo ha 48 KR ?_; clear ha a; intro a ha
    refine stepo ha 49 KR ?_; clear ha a; intro a ha
    refine stepo ha 50 KR ?_; clear ha a; intro a ha
    refine stepo ha 51 KR ?_; clear ha a; intro a ha
    refine stepo ha 52 KR ?_; clear ha a; intro a ha
    refine stepp ha 53 (.bool false) KR KR ?_; clear ha a; intro a ha
    refine stepp ha 54 (.bool false) KR KR ?_; clear ha a; intro a ha
    refine stepo ha 55 KR ?_; clear ha a; intro a ha
    refine stepo ha 56 KR ?_; clear ha a; intro a ha
    refine stepo ha 57 KR ?_; clear ha a; intro a ha
    refine stepo ha 58 KR ?_; clear ha a; intro a ha
    refine stepo ha 59 KR ?_; clear ha a; intro a ha
    refine stepo ha 60 KR ?_; clear ha a; intro a ha
    refine stepo ha 61 KR ?_; clear ha a; intro a ha
    refine stepp ha 62 (.bool false) KR KR ?_; clear ha a; intro a ha
    refine stepp ha 63 (.bool false) KR KR ?_; clear ha a; intro a ha
    refine stepo ha 64 KR ?_; clear ha a; intro a ha
    refine stepo ha 65 KR ?_; clear ha a; intro a ha
    refine stepo ha 66 KR ?_; clear ha a; intro a ha
    refine stepo ha 67 KR ?_; clear ha a; intro a ha
    refine stepo ha 68 KR ?_; clear ha a; intro a ha
    refine stepp ha 69 (.bool false) KR KR ?_; clear ha a; intro a ha
    refine stepp ha 4 (.bool false) KR KR ?_; clear ha a; intro a ha
    refine endl ?_
    refine thenN (hK5952 _ _ ?_); clear hK5952
    refine wp_ret ?_
    obtain rfl := Option.some.inj h
    exact finv ha _ _ rfl (.tmp (v := .bool false) KR .nil) (.bool false) rfl ⟨rfl, HW.pick [] [] (by decide) (by decide) rfl KR⟩
/-! ### headgate/headgateref14.known: function 84 -/
def headgateref14_known.f (a0 : Int) : Option Bool :=
  if a0 ≥ 1 then (some (decide (a0 ≤ 15))) else (some false)
set_option maxRecDepth 100000 in
set_option maxHeartbeats 4000000 in
theorem headgateref14_known.calls (a0 : Int)  (r : Bool) (w : World)  (h : headgateref14_known.f a0 = some r) :
    Calls Tryz.prog 84 #[.int .i64 a0] w (fun e W' => e = .returned (.bool r) ∧ Wd w W' [] [] ) := by
  refine sxstart (n := 9) (l := [(0, .int .i64 a0)]) Tryz.func84 rfl rfl (Nat.le_of_ble_eq_true KR) (subsA_cons rfl (subsA_nil _)) ?_
  intro a ha
  have HW := Wd.refl w
  unfold headgateref14_known.f at h
  refine wp_seq_k (fun K5965 hK5966 => ?_)
  refine wp_region_lit ?_
  refine stepp ha 2 (.bool false) KR KR ?_; clear ha a; intro a ha
  refine endl ?_
  refine thenN (hK5966 _ _ ?_); clear hK5966
  refine wp_seq_k (fun K5967 hK5968 => ?_)
  refine wp_region_lit ?_
  refine stepp ha 3 (.int .i64 a0) KR KR ?_; clear ha a; intro a ha
  refine stepp ha 4 (.bool (decide (a0 ≥ 1))) KR KR ?_; clear ha a; intro a ha
  refine stepp ha 5 (.bool (decide (a0 ≥ 1))) KR KR ?_; clear ha a; intro a ha
  by_cases hp5969 : a0 ≥ 1
  · skip
    replace h := ite_pos' h hp5969
    replace ha := ha.bool 5 KR (decide_eq_true hp5969)
    refine stepp ha 6 (.int .i64 a0) KR KR ?_; clear ha a; intro a ha
    refine stepp ha 7 (.bool (decide (a0 ≤ 15))) KR KR ?_; clear ha a; intro a ha
    refine stepp ha 8 (.bool (decide (a0 ≤ 15))) KR KR ?_; clear ha a; intro a ha
    refine stepp ha 2 (.bool (decide (a0 ≤ 15))) KR KR ?_; clear ha a; intro a ha
    refine endl ?_
    refine thenN (hK5968 _ _ ?_); clear hK5968
    refine wp_ret ?_
    obtain rfl := Option.some.inj h
    exact finv ha _ _ rfl (.tmp (v := .bool (decide (a0 ≤ 15))) KR .nil) (.bool (decide (a0 ≤ 15))) rfl ⟨rfl, HW.pick [] [] (by decide) (by decide) rfl KR⟩
  · skip
    replace h := ite_neg' h hp5969
    replace ha := ha.bool 5 KR (decide_eq_false hp5969)
    refine stepo ha 6 KR ?_; clear ha a; intro a ha
    refine stepo ha 7 KR ?_; clear ha a; intro a ha
    refine stepp ha 8 (.bool false) KR KR ?_; clear ha a; intro a ha
    refine stepp ha 2 (.bool false) KR KR ?_; clear ha a; intro a ha
    refine endl ?_
    refine thenN (hK5968 _ _ ?_); clear hK5968
    refine wp_ret ?_
    obtain rfl := Option.some.inj h
    exact finv ha _ _ rfl (.tmp (v := .bool false) KR .nil) (.bool false) rfl ⟨rfl, HW.pick [] [] (by decide) (by decide) rfl KR⟩
/-! ### headgate/headgateref14.code: function 86 -/
def headgateref14_code.f (a0 : Int) : Option T_api_Out :=
  some (⟨a0, (⟨#[]⟩ : ByteArray), 0, 0, ([] : List T_api_Reg), 0, (⟨0, (⟨#[]⟩ : ByteArray)⟩ : T_api_Hold), 0⟩ : T_api_Out)
set_option maxRecDepth 100000 in
set_option maxHeartbeats 4000000 in
theorem headgateref14_code.calls (a0 : Int)  (r : T_api_Out) (w : World)  (h : headgateref14_code.f a0 = some r) :
    Calls Tryz.prog 86 #[.int .i64 a0] w (fun e W' => ∃ A_0 c_0, e = .returned (.agg #[.int .i64 r.f0, .string r.f1, .int .i64 r.f2, .int .i64 r.f3, .slice A_0 r.f4.length c_0, .int .u32 r.f5, .int .i64 r.f6.f0, .string r.f6.f1, .int .i64 r.f7]) ∧ Wd w W' [] [⟨160, 2, .slice A_0 r.f4.length c_0, r.f4.length, encs T_api_Reg.enc r.f4⟩] ) := by
  refine sxstart (n := 5) (l := [(0, .int .i64 a0)]) Tryz.func86 rfl rfl (Nat.le_of_ble_eq_true KR) (subsA_cons rfl (subsA_nil _)) ?_
  intro a ha
  have HW := Wd.refl w
  unfold headgateref14_code.f at h
  refine wp_seq_k (fun K5970 hK5971 => ?_)
  refine wp_region_lit ?_
  refine stepnew ha HW 2 #[.int .i64 0, .string (⟨#[]⟩ : ByteArray), .int .i64 0, .int .i64 0, .slice none 0 0, .int .u32 0, .int .i64 0, .string (⟨#[]⟩ : ByteArray), .int .i64 0] 40 KR KR ?_; clear ha HW a; intro b5972 a W5973 HW ha
  refine endl ?_
  refine thenN (hK5971 _ _ ?_); clear hK5971
  refine wp_seq_k (fun K5974 hK5975 => ?_)
  refine wp_region_lit ?_
  refine stepp ha 3 (.int .i64 a0) KR KR ?_; clear ha a; intro a ha
  refine stepp ha 4 (.agg #[.int .i64 a0, .string (⟨#[]⟩ : ByteArray), .int .i64 0, .int .i64 0, .slice none 0 0, .int .u32 0, .int .i64 0, .string (⟨#[]⟩ : ByteArray), .int .i64 0]) KR KR ?_; clear ha a; intro a ha
  refine stepst ha HW 0 (b := b5972) (C := #[.int .i64 0, .string (⟨#[]⟩ : ByteArray), .int .i64 0, .int .i64 0, .slice none 0 0, .int .u32 0, .int .i64 0, .string (⟨#[]⟩ : ByteArray), .int .i64 0]) (T := 40) KR 40 0 (.tmp 2) (.tmp 4) (.agg #[.int .i64 a0, .string (⟨#[]⟩ : ByteArray), .int .i64 0, .int .i64 0, .slice none 0 0, .int .u32 0, .int .i64 0, .string (⟨#[]⟩ : ByteArray), .int .i64 0]) #[.int .i64 a0, .string (⟨#[]⟩ : ByteArray), .int .i64 0, .int .i64 0, .slice none 0 0, .int .u32 0, .int .i64 0, .string (⟨#[]⟩ : ByteArray), .int .i64 0] rfl KR KR KR KR KR KR KR ?_; clear ha HW a; intro a W5976 HW ha
  refine endl ?_
  refine thenN (hK5975 _ _ ?_); clear hK5975
  refine wp_ret ?_
  obtain rfl := Option.some.inj h
  replace HW := HW.nilo 160 2
  exact finv ha _ _ rfl (.cell (ad := ⟨b5972, 0, none⟩) (v := .agg #[.int .i64 a0, .string (⟨#[]⟩ : ByteArray), .int .i64 0, .int .i64 0, .slice none 0 0, .int .u32 0, .int .i64 0, .string (⟨#[]⟩ : ByteArray), .int .i64 0]) KR (run_loadVar_ca0 (HW.ca (i := 0) (b := b5972) (C := #[.int .i64 a0, .string (⟨#[]⟩ : ByteArray), .int .i64 0, .int .i64 0, .slice none 0 0, .int .u32 0, .int .i64 0, .string (⟨#[]⟩ : ByteArray), .int .i64 0]) (T := 40) (fr := (0, 0)) KR) 40 0 (.agg #[.int .i64 a0, .string (⟨#[]⟩ : ByteArray), .int .i64 0, .int .i64 0, .slice none 0 0, .int .u32 0, .int .i64 0, .string (⟨#[]⟩ : ByteArray), .int .i64 0]) KR) .nil) (.agg #[.int .i64 a0, .string (⟨#[]⟩ : ByteArray), .int .i64 0, .int .i64 0, .slice none 0 0, .int .u32 0, .int .i64 0, .string (⟨#[]⟩ : ByteArray), .int .i64 0]) rfl ⟨none, 0, rfl, HW.pick [] [0] (by decide) (by decide) rfl KR⟩
/-! ### headgate/headgateref11.Key: function 211 -/
def headgateref11_Key.b0 (K : Nat) (a0 : T_api_Table) (a1 : ByteArray) (again6027 : Int → Option Int) (x6028 : Int) : Option Int :=
  if x6028 < (a0.f0.length : Int) then (asrt (0 ≤ x6028) (if ((rdL T_api_Reg.z a0.f0 x6028).f0) = a1 then (some ((rdL T_api_Reg.z a0.f0 x6028).f1)) else (again6027 (IntKind.wrap .i64 (x6028 + 1))))) else (some 0)
def headgateref11_Key.l0 (K : Nat) (a0 : T_api_Table) (a1 : ByteArray) : Nat → Int → Option Int
  | 0, _ => none
  | k_ + 1, x6028 => headgateref11_Key.b0 K a0 a1 (headgateref11_Key.l0 K a0 a1 k_) x6028
def headgateref11_Key.f (K : Nat) (a0 : T_api_Table) (a1 : ByteArray) : Option Int :=
  headgateref11_Key.l0 K a0 a1 K 0
set_option maxRecDepth 100000 in
set_option maxHeartbeats 4000000 in
theorem headgateref11_Key.calls (K : Nat) (a0 : T_api_Table) (a1 : ByteArray) (A0_0 : Option Addr) (c0_0 : Nat) (r : Int) (w : World) (hr0_0 : Rd 2 w (.slice A0_0 a0.f0.length c0_0) a0.f0.length (encs T_api_Reg.enc a0.f0)) (h : headgateref11_Key.f K a0 a1 = some r) :
    Calls Tryz.prog 211 #[.agg #[.slice A0_0 a0.f0.length c0_0, .int .i64 a0.f1.f0, .string a0.f1.f1, .int .u32 a0.f2, .bool a0.f3], .string a1] w (fun e W' => e = .returned (.int .u64 r) ∧ Wd w W' [] [] ) := by
  refine sxstart (n := 27) (l := [(0, .agg #[.slice A0_0 a0.f0.length c0_0, .int .i64 a0.f1.f0, .string a0.f1.f1, .int .u32 a0.f2, .bool a0.f3]), (1, .string a1)]) Tryz.func211 rfl rfl (Nat.le_of_ble_eq_true KR) (subsA_cons rfl (subsA_cons rfl (subsA_nil _))) ?_
  intro a ha
  have HW := Wd.refl w
  unfold headgateref11_Key.f at h
  refine wp_seq_k (fun K5978 hK5979 => ?_)
  refine wp_region_lit ?_
  refine stepnew ha HW 2 #[.slice A0_0 a0.f0.length c0_0, .int .i64 a0.f1.f0, .string a0.f1.f1, .int .u32 a0.f2, .bool a0.f3] 63 KR KR ?_; clear ha HW a; intro b5980 a W5981 HW ha
  refine stepp ha 4 (.int .u64 0) KR KR ?_; clear ha a; intro a ha
  refine endl ?_
  refine thenN (hK5979 _ _ ?_); clear hK5979
  refine wp_seq_k (fun K5982 hK5983 => ?_)
  refine wp_seq_k (fun K5984 hK5985 => ?_)
  refine wp_region_lit ?_
  refine stepp ha 5 (.int .i64 0) KR KR ?_; clear ha a; intro a ha
  refine endl ?_
  refine thenN (hK5985 _ _ ?_); clear hK5985
  refine wp_block ?_
  refine loopk (fun k => fun a W6029 => ∃ (x6028 : Int), headgateref11_Key.l0 K a0 a1 k x6028 = some r ∧ Has 27 [(1, .string a1), (2, .pointer (some ⟨b5980, 0, none⟩)), (5, .int .i64 x6028)] a ∧ Wd w W6029 [(b5980, .cells #[.slice A0_0 a0.f0.length c0_0, .int .i64 a0.f1.f0, .string a0.f1.f1, .int .u32 a0.f2, .bool a0.f3] 63 (0, 0))] []) K ?_ ?_
  · skip
    exact ⟨0, h, ha.sub (subs_cons KR (subs_cons KR (subs_cons KR (subs_nil _)))), HW.pick [0] [] (by decide) (by decide) KR KR⟩
  · skip
    intro k a W6029 hI
    obtain ⟨x6028, h, ha, HW⟩ := hI
    cases k with
    | zero => exact (none_some (show none = some r from h)).elim
    | succ k6030 =>
      replace h : headgateref11_Key.b0 K a0 a1 (headgateref11_Key.l0 K a0 a1 k6030) x6028 = some r := h
      obtain ⟨again6027, hag6031⟩ : ∃ g_, g_ = headgateref11_Key.l0 K a0 a1 k6030 := ⟨_, rfl⟩
      rw [← hag6031] at h
      unfold headgateref11_Key.b0 at h
      refine wp_seq_k (fun K6032 hK6033 => ?_)
      refine wp_seq_k (fun K6034 hK6035 => ?_)
      refine wp_region_lit ?_
      refine stepp ha 6 (.int .i64 x6028) KR KR ?_; clear ha a; intro a ha
      refine stepp ha 7 (.pointer (some ⟨b5980, 0, none⟩)) KR KR ?_; clear ha a; intro a ha
      refine stepl ha 8 (HW.ca (i := 0) (b := b5980) (C := #[.slice A0_0 a0.f0.length c0_0, .int .i64 a0.f1.f0, .string a0.f1.f1, .int .u32 a0.f2, .bool a0.f3]) (T := 63) (fr := (0, 0)) KR) 35 0 (.tmp 7) (.slice A0_0 a0.f0.length c0_0) rfl KR KR KR ?_; clear ha a; intro a ha
      refine stepp ha 9 (.int .i64 (a0.f0.length : Int)) KR KR ?_; clear ha a; intro a ha
      refine stepp ha 10 (.bool (decide (x6028 < (a0.f0.length : Int)))) KR KR ?_; clear ha a; intro a ha
      refine endl ?_
      refine thenN (hK6035 _ _ ?_); clear hK6035
      by_cases hp6036 : x6028 < (a0.f0.length : Int)
      · skip
        replace h := ite_pos' h hp6036
        refine condT ha KR KR (t := decide (x6028 < (a0.f0.length : Int))) (decide_eq_true hp6036) ?_
        refine wp_skip ?_
        refine thenN (hK6033 _ _ ?_); clear hK6033
        refine wp_seq_k (fun K6037 hK6038 => ?_)
        refine wp_block ?_
        refine wp_seq_k (fun K6039 hK6040 => ?_)
        refine wp_region_lit ?_
        refine stepp ha 13 (.pointer (some ⟨b5980, 0, none⟩)) KR KR ?_; clear ha a; intro a ha
        refine stepl ha 14 (HW.ca (i := 0) (b := b5980) (C := #[.slice A0_0 a0.f0.length c0_0, .int .i64 a0.f1.f0, .string a0.f1.f1, .int .u32 a0.f2, .bool a0.f3]) (T := 63) (fr := (0, 0)) KR) 35 0 (.tmp 13) (.slice A0_0 a0.f0.length c0_0) rfl KR KR KR ?_; clear ha a; intro a ha
        refine stepp ha 15 (.int .i64 x6028) KR KR ?_; clear ha a; intro a ha
        obtain ⟨hA6041, h_⟩ := asrt_some h; clear h; have h := h_; clear h_
        refine stepie T_api_Reg.enc T_api_Reg.z ha 16 (fun _ => rfl) (v := .slice A0_0 a0.f0.length c0_0) (xs := a0.f0) ((HW.rd0 hr0_0)) 35 160 (.tmp 14) (.tmp 15) .i64 x6028 rfl KR KR KR KR hA6041 (show (x6028 : Int) < ((a0.f0).length : Int) from hp6036) KR ?_; clear ha a; intro b6042 off6043 a hC6044 ha
        refine stepp ha 17 (.pointer (some ⟨b6042, off6043, none⟩)) KR KR ?_; clear ha a; intro a ha
        refine stepl ha 18 hC6044 9 0 (.tmp 17) (.string ((rdL T_api_Reg.z a0.f0 x6028).f0)) rfl KR KR KR ?_; clear ha a; intro a ha
        refine stepp ha 19 (.string a1) KR KR ?_; clear ha a; intro a ha
        refine stepp ha 20 (.bool (((rdL T_api_Reg.z a0.f0 x6028).f0).toList == a1.toList)) KR KR ?_; clear ha a; intro a ha
        refine endl ?_
        refine thenN (hK6040 _ _ ?_); clear hK6040
        by_cases hp6045 : ((rdL T_api_Reg.z a0.f0 x6028).f0) = a1
        · skip
          replace h := ite_pos' h hp6045
          refine condT ha KR KR (t := (((rdL T_api_Reg.z a0.f0 x6028).f0).toList == a1.toList)) (str_eq_t hp6045) ?_
          refine wp_seq_k (fun K6046 hK6047 => ?_)
          refine wp_region_lit ?_
          refine stepp ha 21 (.pointer (some ⟨b5980, 0, none⟩)) KR KR ?_; clear ha a; intro a ha
          refine stepl ha 22 (HW.ca (i := 0) (b := b5980) (C := #[.slice A0_0 a0.f0.length c0_0, .int .i64 a0.f1.f0, .string a0.f1.f1, .int .u32 a0.f2, .bool a0.f3]) (T := 63) (fr := (0, 0)) KR) 35 0 (.tmp 21) (.slice A0_0 a0.f0.length c0_0) rfl KR KR KR ?_; clear ha a; intro a ha
          refine stepp ha 23 (.int .i64 x6028) KR KR ?_; clear ha a; intro a ha
          refine stepie T_api_Reg.enc T_api_Reg.z ha 24 (fun _ => rfl) (v := .slice A0_0 a0.f0.length c0_0) (xs := a0.f0) ((HW.rd0 hr0_0)) 35 160 (.tmp 22) (.tmp 23) .i64 x6028 rfl KR KR KR KR hA6041 (show (x6028 : Int) < ((a0.f0).length : Int) from hp6036) KR ?_; clear ha a; intro b6048 off6049 a hC6050 ha
          refine stepp ha 25 (.pointer (some ⟨b6048, off6049 + 1, none⟩)) KR KR ?_; clear ha a; intro a ha
          refine stepl ha 26 hC6050 31 1 (.tmp 25) (.int .u64 ((rdL T_api_Reg.z a0.f0 x6028).f1)) rfl KR KR KR ?_; clear ha a; intro a ha
          refine stepp ha 4 (.int .u64 ((rdL T_api_Reg.z a0.f0 x6028).f1)) KR KR ?_; clear ha a; intro a ha
          refine endl ?_
          refine thenN (hK6047 _ _ ?_); clear hK6047
          refine wp_ret ?_
          refine blkR ?_
          refine thenR ?_
          refine thenR ?_
          refine blkR ?_
          refine thenR ?_
          obtain rfl := Option.some.inj h
          exact finv ha _ _ rfl (.tmp (v := .int .u64 ((rdL T_api_Reg.z a0.f0 x6028).f1)) KR .nil) (.int .u64 ((rdL T_api_Reg.z a0.f0 x6028).f1)) rfl ⟨rfl, HW.pick [] [] (by decide) (by decide) rfl KR⟩
        · skip
          replace h := ite_neg' h hp6045
          refine condF ha KR KR (t := (((rdL T_api_Reg.z a0.f0 x6028).f0).toList == a1.toList)) (str_eq_f hp6045) ?_
          refine wp_skip ?_
          refine blkN ?_
          refine thenN (hK6038 _ _ ?_); clear hK6038
          refine wp_region_lit ?_
          refine stepp ha 11 (.int .i64 x6028) KR KR ?_; clear ha a; intro a ha
          refine stepp ha 12 (.int .i64 (IntKind.wrap .i64 (x6028 + 1))) KR KR ?_; clear ha a; intro a ha
          refine stepp ha 5 (.int .i64 (IntKind.wrap .i64 (x6028 + 1))) KR KR ?_; clear ha a; intro a ha
          refine endl ?_
          exact thenN ⟨k6030, Nat.lt_succ_self k6030, IntKind.wrap .i64 (x6028 + 1), (by rw [← hag6031]; exact h), ha.sub (subs_cons KR (subs_cons KR (subs_cons KR (subs_nil _)))), HW.pick [0] [] (by decide) (by decide) KR KR⟩
      · skip
        replace h := ite_neg' h hp6036
        refine condF ha KR KR (t := decide (x6028 < (a0.f0.length : Int))) (decide_eq_false hp6036) ?_
        refine wp_exit ?_
        refine thenE ?_
        refine thenE ?_
        refine inBlk ?_
        refine thenN (hK5983 _ _ ?_); clear hK5983
        refine wp_seq_k (fun K6051 hK6052 => ?_)
        refine wp_region_lit ?_
        refine stepp ha 4 (.int .u64 0) KR KR ?_; clear ha a; intro a ha
        refine endl ?_
        refine thenN (hK6052 _ _ ?_); clear hK6052
        refine wp_ret ?_
        obtain rfl := Option.some.inj h
        exact finv ha _ _ rfl (.tmp (v := .int .u64 0) KR .nil) (.int .u64 0) rfl ⟨rfl, HW.pick [] [] (by decide) (by decide) rfl KR⟩
end Go.Proofs.YteahodjiihjmnaaGreatDoor.F
