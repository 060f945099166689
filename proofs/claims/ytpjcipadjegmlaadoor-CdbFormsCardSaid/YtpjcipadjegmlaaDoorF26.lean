/- headgate/headgateref15.Number, headgate/headgateref01.Set, headgate/headgateref01.Put, headgate/headgateref01.PutBig, headgate/headgateref15.put: plain functions, and that the calls come to what they say. No condition. -/
import Derived.Test.YtpjcipadjegmlaaDoorFT
import Derived.Test.YtpjcipadjegmlaaDoorF21
namespace Go.Proofs.YtpjcipadjegmlaaDoor.F
open Go Go.RowKit Go.Proofs.YtpjcipadjegmlaaDoor.X
set_option linter.unusedVariables false
set_option linter.unusedSimpArgs false
/-! ### headgate/headgateref15.Number: function 26 -/
def headgateref15_Number.b0 (K : Nat) (a0 : Int) (again2631 : Int → Option Int) (x2632 : Int) : Option Int :=
  if x2632 ≤ 8 then (if a0 = 0 then (again2631 (IntKind.wrap .i64 (x2632 + 1))) else ((headgateref15_Type.f x2632).bind fun t2646 => (if t2646 = a0 then (some x2632) else (again2631 (IntKind.wrap .i64 (x2632 + 1)))))) else (some 0)
def headgateref15_Number.l0 (K : Nat) (a0 : Int) : Nat → Int → Option Int
  | 0, _ => none
  | k_ + 1, x2632 => headgateref15_Number.b0 K a0 (headgateref15_Number.l0 K a0 k_) x2632
def headgateref15_Number.f (K : Nat) (a0 : Int) : Option Int :=
  headgateref15_Number.l0 K a0 K 1
set_option maxRecDepth 100000 in
set_option maxHeartbeats 4000000 in
theorem headgateref15_Number.calls (K : Nat) (a0 : Int)  (r : Int) (w : World)  (h : headgateref15_Number.f K a0 = some r) :
    Calls Tryd.prog 26 #[.int .i64 a0] w (fun e W' => e = .returned (.int .i64 r) ∧ Wd w W' [] [] ) := by
  refine sxstart (n := 17) (l := [(0, .int .i64 a0)]) Tryd.func26 rfl rfl (Nat.le_of_ble_eq_true KR) (subsA_cons rfl (subsA_nil _)) ?_
  intro a ha
  have HW := Wd.refl w
  unfold headgateref15_Number.f at h
  refine wp_seq_k (fun K2589 hK2590 => ?_)
  refine wp_region_lit ?_
  refine stepp ha 2 (.int .i64 0) KR KR ?_; clear ha a; intro a ha
  refine endl ?_
  refine thenN (hK2590 _ _ ?_); clear hK2590
  refine wp_seq_k (fun K2591 hK2592 => ?_)
  refine wp_seq_k (fun K2593 hK2594 => ?_)
  refine wp_region_lit ?_
  refine stepp ha 3 (.int .i64 1) KR KR ?_; clear ha a; intro a ha
  refine endl ?_
  refine thenN (hK2594 _ _ ?_); clear hK2594
  refine wp_block ?_
  refine loopk (fun k => fun a W2633 => ∃ (x2632 : Int), headgateref15_Number.l0 K a0 k x2632 = some r ∧ Has 17 [(0, .int .i64 a0), (3, .int .i64 x2632)] a ∧ Wd w W2633 [] []) K ?_ ?_
  · skip
    exact ⟨1, h, ha.sub (subs_cons KR (subs_cons KR (subs_nil _))), HW.pick [] [] (by decide) (by decide) KR KR⟩
  · skip
    intro k a W2633 hI
    obtain ⟨x2632, h, ha, HW⟩ := hI
    cases k with
    | zero => exact (none_some (show none = some r from h)).elim
    | succ k2634 =>
      replace h : headgateref15_Number.b0 K a0 (headgateref15_Number.l0 K a0 k2634) x2632 = some r := h
      obtain ⟨again2631, hag2635⟩ : ∃ g_, g_ = headgateref15_Number.l0 K a0 k2634 := ⟨_, rfl⟩
      rw [← hag2635] at h
      unfold headgateref15_Number.b0 at h
      refine wp_seq_k (fun K2636 hK2637 => ?_)
      refine wp_seq_k (fun K2638 hK2639 => ?_)
      refine wp_region_lit ?_
      refine stepp ha 4 (.int .i64 x2632) KR KR ?_; clear ha a; intro a ha
      refine stepp ha 5 (.bool (decide (x2632 ≤ 8))) KR KR ?_; clear ha a; intro a ha
      refine endl ?_
      refine thenN (hK2639 _ _ ?_); clear hK2639
      by_cases hp2640 : x2632 ≤ 8
      · skip
        replace h := ite_pos' h hp2640
        refine condT ha KR KR (t := decide (x2632 ≤ 8)) (decide_eq_true hp2640) ?_
        refine wp_skip ?_
        refine thenN (hK2637 _ _ ?_); clear hK2637
        refine wp_seq_k (fun K2641 hK2642 => ?_)
        refine wp_block ?_
        refine wp_seq_k (fun K2643 hK2644 => ?_)
        refine wp_region_lit ?_
        refine stepp ha 8 (.int .i64 a0) KR KR ?_; clear ha a; intro a ha
        refine stepp ha 9 (.bool (a0 != 0)) KR KR ?_; clear ha a; intro a ha
        refine stepp ha 10 (.bool (a0 != 0)) KR KR ?_; clear ha a; intro a ha
        by_cases hp2645 : a0 = 0
        · skip
          replace h := ite_pos' h hp2645
          replace ha := ha.bool 10 KR (ineq_f hp2645)
          refine stepo ha 11 KR ?_; clear ha a; intro a ha
          refine stepo ha 12 KR ?_; clear ha a; intro a ha
          refine stepo ha 13 KR ?_; clear ha a; intro a ha
          refine stepo ha 14 KR ?_; clear ha a; intro a ha
          refine stepp ha 15 (.bool false) KR KR ?_; clear ha a; intro a ha
          refine endl ?_
          refine thenN (hK2644 _ _ ?_); clear hK2644
          refine condF ha KR KR (t := false) (rfl) ?_
          refine wp_skip ?_
          refine blkN ?_
          refine thenN (hK2642 _ _ ?_); clear hK2642
          refine wp_region_lit ?_
          refine stepp ha 6 (.int .i64 x2632) KR KR ?_; clear ha a; intro a ha
          refine stepp ha 7 (.int .i64 (IntKind.wrap .i64 (x2632 + 1))) KR KR ?_; clear ha a; intro a ha
          refine stepp ha 3 (.int .i64 (IntKind.wrap .i64 (x2632 + 1))) KR KR ?_; clear ha a; intro a ha
          refine endl ?_
          exact thenN ⟨k2634, Nat.lt_succ_self k2634, IntKind.wrap .i64 (x2632 + 1), (by rw [← hag2635]; exact h), ha.sub (subs_cons KR (subs_cons KR (subs_nil _))), HW.pick [] [] (by decide) (by decide) KR KR⟩
        · skip
          replace h := ite_neg' h hp2645
          replace ha := ha.bool 10 KR (ineq_t hp2645)
          refine stepp ha 11 (.int .i64 x2632) KR KR ?_; clear ha a; intro a ha
          obtain ⟨t2646, ht2647, h_⟩ := bind_some' h; clear h; have h := h_; clear h_
          refine stepc ha 12 KR KR (headgateref15_Type.calls x2632 t2646 _ ht2647) ?_; clear ha a; rintro e W2648 ⟨rfl, HX2649⟩
          refine ⟨_, rfl, ?_⟩; intro a ha; replace HW := HW.callw HX2649; clear HX2649
          refine stepp ha 13 (.int .i64 a0) KR KR ?_; clear ha a; intro a ha
          refine stepp ha 14 (.bool (t2646 == a0)) KR KR ?_; clear ha a; intro a ha
          refine stepp ha 15 (.bool (t2646 == a0)) KR KR ?_; clear ha a; intro a ha
          refine endl ?_
          refine thenN (hK2644 _ _ ?_); clear hK2644
          by_cases hp2650 : t2646 = a0
          · skip
            replace h := ite_pos' h hp2650
            refine condT ha KR KR (t := (t2646 == a0)) (ieq_t hp2650) ?_
            refine wp_seq_k (fun K2651 hK2652 => ?_)
            refine wp_region_lit ?_
            refine stepp ha 16 (.int .i64 x2632) KR KR ?_; clear ha a; intro a ha
            refine stepp ha 2 (.int .i64 x2632) KR KR ?_; clear ha a; intro a ha
            refine endl ?_
            refine thenN (hK2652 _ _ ?_); clear hK2652
            refine wp_ret ?_
            refine blkR ?_
            refine thenR ?_
            refine thenR ?_
            refine blkR ?_
            refine thenR ?_
            obtain rfl := Option.some.inj h
            exact finv ha _ _ rfl (.tmp (v := .int .i64 x2632) KR .nil) (.int .i64 x2632) rfl ⟨rfl, HW.pick [] [] (by decide) (by decide) rfl KR⟩
          · skip
            replace h := ite_neg' h hp2650
            refine condF ha KR KR (t := (t2646 == a0)) (ieq_f hp2650) ?_
            refine wp_skip ?_
            refine blkN ?_
            refine thenN (hK2642 _ _ ?_); clear hK2642
            refine wp_region_lit ?_
            refine stepp ha 6 (.int .i64 x2632) KR KR ?_; clear ha a; intro a ha
            refine stepp ha 7 (.int .i64 (IntKind.wrap .i64 (x2632 + 1))) KR KR ?_; clear ha a; intro a ha
            refine stepp ha 3 (.int .i64 (IntKind.wrap .i64 (x2632 + 1))) KR KR ?_; clear ha a; intro a ha
            refine endl ?_
            exact thenN ⟨k2634, Nat.lt_succ_self k2634, IntKind.wrap .i64 (x2632 + 1), (by rw [← hag2635]; exact h), ha.sub (subs_cons KR (subs_cons KR (subs_nil _))), HW.pick [] [] (by decide) (by decide) KR KR⟩
      · skip
        replace h := ite_neg' h hp2640
        refine condF ha KR KR (t := decide (x2632 ≤ 8)) (decide_eq_false hp2640) ?_
        refine wp_exit ?_
        refine thenE ?_
        refine thenE ?_
        refine inBlk ?_
        refine thenN (hK2592 _ _ ?_); clear hK2592
        refine wp_seq_k (fun K2653 hK2654 => ?_)
        refine wp_region_lit ?_
        refine stepp ha 2 (.int .i64 0) KR KR ?_; clear ha a; intro a ha
        refine endl ?_
        refine thenN (hK2654 _ _ ?_); clear hK2654
        refine wp_ret ?_
        obtain rfl := Option.some.inj h
        exact finv ha _ _ rfl (.tmp (v := .int .i64 0) KR .nil) (.int .i64 0) rfl ⟨rfl, HW.pick [] [] (by decide) (by decide) rfl KR⟩
/-! ### headgate/headgateref01.Set: function 50 -/
def headgateref01_Set.f (a0 : ByteArray) (a1 : Int) (a2 : ByteArray) : Option (ByteArray × Bool) :=
  (headgateref01_there.f a0 a1 (a2.size : Int)).bind fun t2661 => (if t2661 = true then (asrt (0 ≤ a1) (asrt (a1 ≤ (a0.size : Int)) (asrt ((a0.extract 0 (a1 : Int).toNat).size + a2.size ≤ 9223372036854775807) (asrt (0 ≤ (IntKind.wrap .i64 (a1 + (a2.size : Int)))) (asrt ((IntKind.wrap .i64 (a1 + (a2.size : Int))) ≤ (a0.size : Int)) (asrt (((a0.extract 0 (a1 : Int).toNat) ++ a2).size + (a0.extract (IntKind.wrap .i64 (a1 + (a2.size : Int)) : Int).toNat (a0).size).size ≤ 9223372036854775807) (some (((a0.extract 0 (a1 : Int).toNat) ++ a2) ++ (a0.extract (IntKind.wrap .i64 (a1 + (a2.size : Int)) : Int).toNat (a0).size), true)))))))) else (some ((⟨#[]⟩ : ByteArray), false)))
set_option maxRecDepth 100000 in
set_option maxHeartbeats 4000000 in
theorem headgateref01_Set.calls (a0 : ByteArray) (a1 : Int) (a2 : ByteArray)  (r : ByteArray × Bool) (w : World)  (h : headgateref01_Set.f a0 a1 a2 = some r) :
    Calls Tryd.prog 50 #[.string a0, .int .i64 a1, .string a2] w (fun e W' => e = .returned (.tuple #[.string r.1, .bool r.2]) ∧ Wd w W' [] [] ) := by
  refine sxstart (n := 26) (l := [(0, .string a0), (1, .int .i64 a1), (2, .string a2)]) Tryd.func50 rfl rfl (Nat.le_of_ble_eq_true KR) (subsA_cons rfl (subsA_cons rfl (subsA_cons rfl (subsA_nil _)))) ?_
  intro a ha
  have HW := Wd.refl w
  unfold headgateref01_Set.f at h
  refine wp_seq_k (fun K2655 hK2656 => ?_)
  refine wp_region_lit ?_
  refine stepp ha 6 (.string (⟨#[]⟩ : ByteArray)) KR KR ?_; clear ha a; intro a ha
  refine stepp ha 7 (.bool false) KR KR ?_; clear ha a; intro a ha
  refine endl ?_
  refine thenN (hK2656 _ _ ?_); clear hK2656
  refine wp_seq_k (fun K2657 hK2658 => ?_)
  refine wp_seq_k (fun K2659 hK2660 => ?_)
  refine wp_region_lit ?_
  refine stepp ha 8 (.string a0) KR KR ?_; clear ha a; intro a ha
  refine stepp ha 9 (.int .i64 a1) KR KR ?_; clear ha a; intro a ha
  refine stepp ha 10 (.string a2) KR KR ?_; clear ha a; intro a ha
  refine stepp ha 11 (.int .i64 (a2.size : Int)) KR KR ?_; clear ha a; intro a ha
  obtain ⟨t2661, ht2662, h_⟩ := bind_some' h; clear h; have h := h_; clear h_
  refine stepc ha 12 KR KR (headgateref01_there.calls a0 a1 (a2.size : Int) t2661 _ ht2662) ?_; clear ha a; rintro e W2663 ⟨rfl, HX2664⟩
  refine ⟨_, rfl, ?_⟩; intro a ha; replace HW := HW.callw HX2664; clear HX2664
  refine stepp ha 13 (.bool (!t2661)) KR KR ?_; clear ha a; intro a ha
  refine endl ?_
  refine thenN (hK2660 _ _ ?_); clear hK2660
  by_cases hp2665 : t2661 = true
  · skip
    replace h := ite_pos' h hp2665
    refine condF ha KR KR (t := (!t2661)) (not_f (hp2665)) ?_
    refine wp_skip ?_
    refine thenN (hK2658 _ _ ?_); clear hK2658
    refine wp_seq_k (fun K2668 hK2669 => ?_)
    obtain ⟨hA2670, h_⟩ := asrt_some h; clear h; have h := h_; clear h_
    obtain ⟨hA2671, h_⟩ := asrt_some h; clear h; have h := h_; clear h_
    obtain ⟨hA2672, h_⟩ := asrt_some h; clear h; have h := h_; clear h_
    obtain ⟨hA2673, h_⟩ := asrt_some h; clear h; have h := h_; clear h_
    obtain ⟨hA2674, h_⟩ := asrt_some h; clear h; have h := h_; clear h_
    obtain ⟨hA2675, h_⟩ := asrt_some h; clear h; have h := h_; clear h_
    refine regionG 12 KR KR ha HW [.fix (.string a0), .fix (.int .i64 a1), .fix (.string (a0.extract 0 (a1 : Int).toNat)), .fix (.string a2), .fix (.string ((a0.extract 0 (a1 : Int).toNat) ++ a2)), .fix (.string a0), .fix (.int .i64 a1), .fix (.string a2), .fix (.int .i64 (a2.size : Int)), .fix (.int .i64 (IntKind.wrap .i64 (a1 + (a2.size : Int)))), .fix (.string (a0.extract (IntKind.wrap .i64 (a1 + (a2.size : Int)) : Int).toNat (a0).size)), .fix (.string (((a0.extract 0 (a1 : Int).toNat) ++ a2) ++ (a0.extract (IntKind.wrap .i64 (a1 + (a2.size : Int)) : Int).toNat (a0).size)))] ?_ ?_
    · skip
      refine ⟨?_, ?_, ?_, ?_, ?_, ?_, ?_, ?_, ?_, ?_, ?_, ?_, trivial⟩
      · skip
        intro a wr hn hd HW hs; have ha := hasNil hn hd
        have ha := ha.add (seeE hs 0 (.string a0) KR KR)
        refine yStep ha 14 KR ?_; intro l_ ha HK
        refine stepp ha 14 (.string a0) KR KR ?_; intro ax hax; exact HK _ _ _ hax rfl (Below.refl _ _)
      · skip
        intro a wr hn hd HW hs; have ha := hasNil hn hd
        have ha := ha.add (seeE hs 1 (.int .i64 a1) KR KR)
        refine yStep ha 15 KR ?_; intro l_ ha HK
        refine stepp ha 15 (.int .i64 a1) KR KR ?_; intro ax hax; exact HK _ _ _ hax rfl (Below.refl _ _)
      · skip
        intro a wr hn hd HW hs; have ha := hasNil hn hd
        have ha := ha.add (seeF hs 14 0 (.string a0) KR KR)
        have ha := ha.add (seeF hs 15 1 (.int .i64 a1) KR KR)
        refine yStep ha 16 KR ?_; intro l_ ha HK
        refine stepssh ha 16 9 (.tmp 14) (.tmp 15) a0 .i64 a1 rfl KR KR KR hA2670 (show (a1 : Int) ≤ ((a0).size : Int) from hA2671) KR ?_; intro ax hax; exact HK _ _ _ hax rfl (Below.refl _ _)
      · skip
        intro a wr hn hd HW hs; have ha := hasNil hn hd
        have ha := ha.add (seeE hs 2 (.string a2) KR KR)
        refine yStep ha 17 KR ?_; intro l_ ha HK
        refine stepp ha 17 (.string a2) KR KR ?_; intro ax hax; exact HK _ _ _ hax rfl (Below.refl _ _)
      · skip
        intro a wr hn hd HW hs; have ha := hasNil hn hd
        have ha := ha.add (seeF hs 16 2 (.string (a0.extract 0 (a1 : Int).toNat)) KR KR)
        have ha := ha.add (seeF hs 17 3 (.string a2) KR KR)
        refine yStep ha 18 KR ?_; intro l_ ha HK
        refine stepsa ha 18 9 9 (.tmp 16) (.tmp 17) (a0.extract 0 (a1 : Int).toNat) a2 rfl KR KR (show (a0.extract 0 (a1 : Int).toNat).size + (a2).size ≤ 9223372036854775807 from hA2672) KR ?_; intro ax hax; exact HK _ _ _ hax rfl (Below.refl _ _)
      · skip
        intro a wr hn hd HW hs; have ha := hasNil hn hd
        have ha := ha.add (seeE hs 0 (.string a0) KR KR)
        refine yStep ha 19 KR ?_; intro l_ ha HK
        refine stepp ha 19 (.string a0) KR KR ?_; intro ax hax; exact HK _ _ _ hax rfl (Below.refl _ _)
      · skip
        intro a wr hn hd HW hs; have ha := hasNil hn hd
        have ha := ha.add (seeE hs 1 (.int .i64 a1) KR KR)
        refine yStep ha 20 KR ?_; intro l_ ha HK
        refine stepp ha 20 (.int .i64 a1) KR KR ?_; intro ax hax; exact HK _ _ _ hax rfl (Below.refl _ _)
      · skip
        intro a wr hn hd HW hs; have ha := hasNil hn hd
        have ha := ha.add (seeE hs 2 (.string a2) KR KR)
        refine yStep ha 21 KR ?_; intro l_ ha HK
        refine stepp ha 21 (.string a2) KR KR ?_; intro ax hax; exact HK _ _ _ hax rfl (Below.refl _ _)
      · skip
        intro a wr hn hd HW hs; have ha := hasNil hn hd
        have ha := ha.add (seeF hs 21 7 (.string a2) KR KR)
        refine yStep ha 22 KR ?_; intro l_ ha HK
        refine stepp ha 22 (.int .i64 (a2.size : Int)) KR KR ?_; intro ax hax; exact HK _ _ _ hax rfl (Below.refl _ _)
      · skip
        intro a wr hn hd HW hs; have ha := hasNil hn hd
        have ha := ha.add (seeF hs 20 6 (.int .i64 a1) KR KR)
        have ha := ha.add (seeF hs 22 8 (.int .i64 (a2.size : Int)) KR KR)
        refine yStep ha 23 KR ?_; intro l_ ha HK
        refine stepp ha 23 (.int .i64 (IntKind.wrap .i64 (a1 + (a2.size : Int)))) KR KR ?_; intro ax hax; exact HK _ _ _ hax rfl (Below.refl _ _)
      · skip
        intro a wr hn hd HW hs; have ha := hasNil hn hd
        have ha := ha.add (seeF hs 19 5 (.string a0) KR KR)
        have ha := ha.add (seeF hs 23 9 (.int .i64 (IntKind.wrap .i64 (a1 + (a2.size : Int)))) KR KR)
        refine yStep ha 24 KR ?_; intro l_ ha HK
        refine stepssl ha 24 9 (.tmp 19) (.tmp 23) a0 .i64 (IntKind.wrap .i64 (a1 + (a2.size : Int))) rfl KR KR KR hA2673 (show (IntKind.wrap .i64 (a1 + (a2.size : Int)) : Int) ≤ ((a0).size : Int) from hA2674) KR ?_; intro ax hax; exact HK _ _ _ hax rfl (Below.refl _ _)
      · skip
        intro a wr hn hd HW hs; have ha := hasNil hn hd
        have ha := ha.add (seeF hs 18 4 (.string ((a0.extract 0 (a1 : Int).toNat) ++ a2)) KR KR)
        have ha := ha.add (seeF hs 24 10 (.string (a0.extract (IntKind.wrap .i64 (a1 + (a2.size : Int)) : Int).toNat (a0).size)) KR KR)
        refine yStep ha 25 KR ?_; intro l_ ha HK
        refine stepsa ha 25 9 9 (.tmp 18) (.tmp 24) ((a0.extract 0 (a1 : Int).toNat) ++ a2) (a0.extract (IntKind.wrap .i64 (a1 + (a2.size : Int)) : Int).toNat (a0).size) rfl KR KR (show ((a0.extract 0 (a1 : Int).toNat) ++ a2).size + (a0.extract (IntKind.wrap .i64 (a1 + (a2.size : Int)) : Int).toNat (a0).size).size ≤ 9223372036854775807 from hA2675) KR ?_; intro ax hax; exact HK _ _ _ hax rfl (Below.refl _ _)
    · skip
      intro a W2676 ha HW he hf
      replace ha := ha.add (gotF (m := 12) (j := 11) (d := 25) (v := .string (((a0.extract 0 (a1 : Int).toNat) ++ a2) ++ (a0.extract (IntKind.wrap .i64 (a1 + (a2.size : Int)) : Int).toNat (a0).size))) hf KR KR KR)
      clear he hf
      refine stepp ha 6 (.string (((a0.extract 0 (a1 : Int).toNat) ++ a2) ++ (a0.extract (IntKind.wrap .i64 (a1 + (a2.size : Int)) : Int).toNat (a0).size))) KR KR ?_; clear ha a; intro a ha
      refine stepp ha 7 (.bool true) KR KR ?_; clear ha a; intro a ha
      refine endl ?_
      refine thenN (hK2669 _ _ ?_); clear hK2669
      refine wp_ret ?_
      obtain rfl := Option.some.inj h
      exact finv ha _ _ rfl (.tmp (v := .string (((a0.extract 0 (a1 : Int).toNat) ++ a2) ++ (a0.extract (IntKind.wrap .i64 (a1 + (a2.size : Int)) : Int).toNat (a0).size))) KR (.tmp (v := .bool true) KR .nil)) (.tuple #[.string (((a0.extract 0 (a1 : Int).toNat) ++ a2) ++ (a0.extract (IntKind.wrap .i64 (a1 + (a2.size : Int)) : Int).toNat (a0).size)), .bool true]) rfl ⟨rfl, HW.pick [] [] (by decide) (by decide) rfl KR⟩
  · skip
    replace h := ite_neg' h hp2665
    refine condT ha KR KR (t := (!t2661)) (not_t (bool_f hp2665)) ?_
    refine wp_seq_k (fun K2666 hK2667 => ?_)
    refine wp_region_lit ?_
    refine stepp ha 6 (.string (⟨#[]⟩ : ByteArray)) KR KR ?_; clear ha a; intro a ha
    refine stepp ha 7 (.bool false) KR KR ?_; clear ha a; intro a ha
    refine endl ?_
    refine thenN (hK2667 _ _ ?_); clear hK2667
    refine wp_ret ?_
    refine thenR ?_
    obtain rfl := Option.some.inj h
    exact finv ha _ _ rfl (.tmp (v := .string (⟨#[]⟩ : ByteArray)) KR (.tmp (v := .bool false) KR .nil)) (.tuple #[.string (⟨#[]⟩ : ByteArray), .bool false]) rfl ⟨rfl, HW.pick [] [] (by decide) (by decide) rfl KR⟩
/-! ### headgate/headgateref01.Put: function 46 -/
def headgateref01_Put.f (a0 : ByteArray) (a1 : Int) (a2 : ByteArray) : Option ByteArray :=
  (headgateref01_Set.f a0 a1 a2).bind fun t2681 => (some t2681.1)
set_option maxRecDepth 100000 in
set_option maxHeartbeats 4000000 in
theorem headgateref01_Put.calls (a0 : ByteArray) (a1 : Int) (a2 : ByteArray)  (r : ByteArray) (w : World)  (h : headgateref01_Put.f a0 a1 a2 = some r) :
    Calls Tryd.prog 46 #[.string a0, .int .i64 a1, .string a2] w (fun e W' => e = .returned (.string r) ∧ Wd w W' [] [] ) := by
  refine sxstart (n := 17) (l := [(0, .string a0), (1, .int .i64 a1), (2, .string a2)]) Tryd.func46 rfl rfl (Nat.le_of_ble_eq_true KR) (subsA_cons rfl (subsA_cons rfl (subsA_cons rfl (subsA_nil _)))) ?_
  intro a ha
  have HW := Wd.refl w
  unfold headgateref01_Put.f at h
  refine wp_seq_k (fun K2677 hK2678 => ?_)
  refine wp_region_lit ?_
  refine stepp ha 6 (.string (⟨#[]⟩ : ByteArray)) KR KR ?_; clear ha a; intro a ha
  refine endl ?_
  refine thenN (hK2678 _ _ ?_); clear hK2678
  refine wp_seq_k (fun K2679 hK2680 => ?_)
  refine wp_region_lit ?_
  refine stepp ha 10 (.string a0) KR KR ?_; clear ha a; intro a ha
  refine stepp ha 11 (.int .i64 a1) KR KR ?_; clear ha a; intro a ha
  refine stepp ha 12 (.string a2) KR KR ?_; clear ha a; intro a ha
  obtain ⟨t2681, ht2682, h_⟩ := bind_some' h; clear h; have h := h_; clear h_
  refine stepc ha 13 KR KR (headgateref01_Set.calls a0 a1 a2 t2681 _ ht2682) ?_; clear ha a; rintro e W2683 ⟨rfl, HX2684⟩
  refine ⟨_, rfl, ?_⟩; intro a ha; replace HW := HW.callw HX2684; clear HX2684
  refine stepp ha 9 (.tuple #[.string t2681.1, .bool t2681.2]) KR KR ?_; clear ha a; intro a ha
  refine stepp ha 14 (.string t2681.1) KR KR ?_; clear ha a; intro a ha
  refine stepp ha 15 (.bool t2681.2) KR KR ?_; clear ha a; intro a ha
  refine stepp ha 7 (.string t2681.1) KR KR ?_; clear ha a; intro a ha
  refine stepp ha 8 (.bool t2681.2) KR KR ?_; clear ha a; intro a ha
  refine endl ?_
  refine thenN (hK2680 _ _ ?_); clear hK2680
  refine wp_seq_k (fun K2685 hK2686 => ?_)
  refine wp_region_lit ?_
  refine stepp ha 16 (.string t2681.1) KR KR ?_; clear ha a; intro a ha
  refine stepp ha 6 (.string t2681.1) KR KR ?_; clear ha a; intro a ha
  refine endl ?_
  refine thenN (hK2686 _ _ ?_); clear hK2686
  refine wp_ret ?_
  obtain rfl := Option.some.inj h
  exact finv ha _ _ rfl (.tmp (v := .string t2681.1) KR .nil) (.string t2681.1) rfl ⟨rfl, HW.pick [] [] (by decide) (by decide) rfl KR⟩
/-! ### headgate/headgateref01.PutBig: function 47 -/
def headgateref01_PutBig.b0 (K : Nat) (again2746 : Int → (List Int) → Int → Option ByteArray) (x2747 : Int) (x2748 : List Int) (x2752 : Int) : Option ByteArray :=
  if x2752 ≥ 0 then (asrt (0 ≤ x2752) (asrt (x2752 < (x2748.length : Int)) (again2746 (IntKind.wrap .u64 (Int.tdiv x2747 256)) (x2748.set (x2752 : Int).toNat (IntKind.wrap .u8 (Int.tmod x2747 256))) (IntKind.wrap .i64 (x2752 - 1))))) else (some (strOfNums x2748))
def headgateref01_PutBig.l0 (K : Nat)  : Nat → Int → (List Int) → Int → Option ByteArray
  | 0, _, _, _ => none
  | k_ + 1, x2747, x2748, x2752 => headgateref01_PutBig.b0 K  (headgateref01_PutBig.l0 K  k_) x2747 x2748 x2752
def headgateref01_PutBig.f (K : Nat) (a0 : Int) (a1 : Int) : Option ByteArray :=
  if a1 < 1 then (some (⟨#[]⟩ : ByteArray)) else (if a1 > 8 then (some (⟨#[]⟩ : ByteArray)) else (asrt (0 ≤ a1) (asrt (a1 ≤ 281474976710656) (headgateref01_PutBig.l0 K  K a0 (List.replicate (a1 : Int).toNat (0 : Int)) (IntKind.wrap .i64 (a1 - 1))))))
set_option maxRecDepth 100000 in
set_option maxHeartbeats 4000000 in
theorem headgateref01_PutBig.calls (K : Nat) (a0 : Int) (a1 : Int)  (r : ByteArray) (w : World)  (h : headgateref01_PutBig.f K a0 a1 = some r) :
    Calls Tryd.prog 47 #[.int .u64 a0, .int .i64 a1] w (fun e W' => e = .returned (.string r) ∧ Wd w W' [] [] ) := by
  refine sxstart (n := 31) (l := [(0, .int .u64 a0), (1, .int .i64 a1)]) Tryd.func47 rfl rfl (Nat.le_of_ble_eq_true KR) (subsA_cons rfl (subsA_cons rfl (subsA_nil _))) ?_
  intro a ha
  have HW := Wd.refl w
  unfold headgateref01_PutBig.f at h
  refine wp_seq_k (fun K2687 hK2688 => ?_)
  refine wp_region_lit ?_
  refine stepp ha 4 (.string (⟨#[]⟩ : ByteArray)) KR KR ?_; clear ha a; intro a ha
  refine endl ?_
  refine thenN (hK2688 _ _ ?_); clear hK2688
  refine wp_seq_k (fun K2689 hK2690 => ?_)
  refine wp_seq_k (fun K2691 hK2692 => ?_)
  refine wp_region_lit ?_
  refine stepp ha 7 (.int .i64 a1) KR KR ?_; clear ha a; intro a ha
  refine stepp ha 8 (.bool (decide (a1 < 1))) KR KR ?_; clear ha a; intro a ha
  refine stepp ha 9 (.bool (decide (a1 < 1))) KR KR ?_; clear ha a; intro a ha
  by_cases hp2693 : a1 < 1
  · skip
    replace h := ite_pos' h hp2693
    replace ha := ha.bool 9 KR (decide_eq_true hp2693)
    refine stepo ha 10 KR ?_; clear ha a; intro a ha
    refine stepo ha 11 KR ?_; clear ha a; intro a ha
    refine stepp ha 12 (.bool true) KR KR ?_; clear ha a; intro a ha
    refine endl ?_
    refine thenN (hK2692 _ _ ?_); clear hK2692
    refine condT ha KR KR (t := true) (rfl) ?_
    refine wp_seq_k (fun K2694 hK2695 => ?_)
    refine wp_region_lit ?_
    refine stepp ha 4 (.string (⟨#[]⟩ : ByteArray)) KR KR ?_; clear ha a; intro a ha
    refine endl ?_
    refine thenN (hK2695 _ _ ?_); clear hK2695
    refine wp_ret ?_
    refine thenR ?_
    obtain rfl := Option.some.inj h
    exact finv ha _ _ rfl (.tmp (v := .string (⟨#[]⟩ : ByteArray)) KR .nil) (.string (⟨#[]⟩ : ByteArray)) rfl ⟨rfl, HW.pick [] [] (by decide) (by decide) rfl KR⟩
  · skip
    replace h := ite_neg' h hp2693
    replace ha := ha.bool 9 KR (decide_eq_false hp2693)
    refine stepp ha 10 (.int .i64 a1) KR KR ?_; clear ha a; intro a ha
    refine stepp ha 11 (.bool (decide (a1 > 8))) KR KR ?_; clear ha a; intro a ha
    refine stepp ha 12 (.bool (decide (a1 > 8))) KR KR ?_; clear ha a; intro a ha
    refine endl ?_
    refine thenN (hK2692 _ _ ?_); clear hK2692
    by_cases hp2696 : a1 > 8
    · skip
      replace h := ite_pos' h hp2696
      refine condT ha KR KR (t := decide (a1 > 8)) (decide_eq_true hp2696) ?_
      refine wp_seq_k (fun K2697 hK2698 => ?_)
      refine wp_region_lit ?_
      refine stepp ha 4 (.string (⟨#[]⟩ : ByteArray)) KR KR ?_; clear ha a; intro a ha
      refine endl ?_
      refine thenN (hK2698 _ _ ?_); clear hK2698
      refine wp_ret ?_
      refine thenR ?_
      obtain rfl := Option.some.inj h
      exact finv ha _ _ rfl (.tmp (v := .string (⟨#[]⟩ : ByteArray)) KR .nil) (.string (⟨#[]⟩ : ByteArray)) rfl ⟨rfl, HW.pick [] [] (by decide) (by decide) rfl KR⟩
    · skip
      replace h := ite_neg' h hp2696
      refine condF ha KR KR (t := decide (a1 > 8)) (decide_eq_false hp2696) ?_
      refine wp_skip ?_
      refine thenN (hK2690 _ _ ?_); clear hK2690
      refine wp_seq_k (fun K2699 hK2700 => ?_)
      refine wp_region_lit ?_
      refine stepp ha 13 (.int .i64 a1) KR KR ?_; clear ha a; intro a ha
      obtain ⟨hA2701, h_⟩ := asrt_some h; clear h; have h := h_; clear h_
      obtain ⟨hA2702, h_⟩ := asrt_some h; clear h; have h := h_; clear h_
      refine stepmk (encI .u8) (0 : Int) ha HW 14 56 5 (.tmp 13) (.tmp 13) .i64 .i64 a1 (.int .u8 0) 1 rfl KR KR KR KR rfl rfl hA2701 (by have := hA2702; omega) (by have := hA2702; omega) KR ?_; clear ha HW a; intro b2703 a W2704 HW ha
      refine stepp ha 5 (.slice (some ⟨b2703, 0, none⟩) (List.replicate (a1 : Int).toNat (0 : Int)).length ((a1 : Int).toNat)) KR KR ?_; clear ha a; intro a ha
      refine endl ?_
      refine thenN (hK2700 _ _ ?_); clear hK2700
      refine wp_seq_k (fun K2706 hK2707 => ?_)
      refine wp_seq_k (fun K2708 hK2709 => ?_)
      refine wp_region_lit ?_
      refine stepp ha 15 (.int .i64 a1) KR KR ?_; clear ha a; intro a ha
      refine stepp ha 16 (.int .i64 (IntKind.wrap .i64 (a1 - 1))) KR KR ?_; clear ha a; intro a ha
      refine stepp ha 6 (.int .i64 (IntKind.wrap .i64 (a1 - 1))) KR KR ?_; clear ha a; intro a ha
      refine endl ?_
      refine thenN (hK2709 _ _ ?_); clear hK2709
      refine wp_block ?_
      refine loopk (fun k => fun a W2753 => ∃ (x2747 : Int), ∃ (x2748 : List Int), ∃ A2749, ∃ c2750, ∃ (x2752 : Int), headgateref01_PutBig.l0 K  k x2747 x2748 x2752 = some r ∧ Has 31 [(0, .int .u64 x2747), (5, .slice A2749 x2748.length c2750), (6, .int .i64 x2752)] a ∧ Wd w W2753 [] [⟨5, 1, .slice A2749 x2748.length c2750, x2748.length, encs (encI .u8) x2748⟩]) K ?_ ?_
      · skip
        exact ⟨a0, List.replicate (a1 : Int).toNat (0 : Int), some ⟨b2703, 0, none⟩, (a1 : Int).toNat, IntKind.wrap .i64 (a1 - 1), h, ha.sub (subs_cons KR (subs_cons KR (subs_cons KR (subs_nil _)))), HW.pick [] [0] (by decide) (by decide) KR KR⟩
      · skip
        intro k a W2753 hI
        obtain ⟨x2747, x2748, A2749, c2750, x2752, h, ha, HW⟩ := hI
        cases k with
        | zero => exact (none_some (show none = some r from h)).elim
        | succ k2754 =>
          replace h : headgateref01_PutBig.b0 K  (headgateref01_PutBig.l0 K  k2754) x2747 x2748 x2752 = some r := h
          obtain ⟨again2746, hag2755⟩ : ∃ g_, g_ = headgateref01_PutBig.l0 K  k2754 := ⟨_, rfl⟩
          rw [← hag2755] at h
          unfold headgateref01_PutBig.b0 at h
          refine wp_seq_k (fun K2756 hK2757 => ?_)
          refine wp_seq_k (fun K2758 hK2759 => ?_)
          refine wp_region_lit ?_
          refine stepp ha 17 (.int .i64 x2752) KR KR ?_; clear ha a; intro a ha
          refine stepp ha 18 (.bool (decide (x2752 ≥ 0))) KR KR ?_; clear ha a; intro a ha
          refine endl ?_
          refine thenN (hK2759 _ _ ?_); clear hK2759
          by_cases hp2760 : x2752 ≥ 0
          · skip
            replace h := ite_pos' h hp2760
            refine condT ha KR KR (t := decide (x2752 ≥ 0)) (decide_eq_true hp2760) ?_
            refine wp_skip ?_
            refine thenN (hK2757 _ _ ?_); clear hK2757
            refine wp_seq_k (fun K2761 hK2762 => ?_)
            refine wp_block ?_
            refine wp_seq_k (fun K2763 hK2764 => ?_)
            refine wp_region_lit ?_
            refine stepp ha 21 (.slice A2749 x2748.length c2750) KR KR ?_; clear ha a; intro a ha
            refine stepp ha 22 (.int .i64 x2752) KR KR ?_; clear ha a; intro a ha
            refine stepp ha 23 (.int .u64 x2747) KR KR ?_; clear ha a; intro a ha
            refine stepp ha 24 (.int .u64 (Int.tmod x2747 256)) KR KR ?_; clear ha a; intro a ha
            refine stepp ha 25 (.int .u8 (IntKind.wrap .u8 (Int.tmod x2747 256))) KR KR ?_; clear ha a; intro a ha
            obtain ⟨hA2765, h_⟩ := asrt_some h; clear h; have h := h_; clear h_
            obtain ⟨hA2766, h_⟩ := asrt_some h; clear h; have h := h_; clear h_
            refine stepio (encI .u8) ha HW 26 0 (sz := 1) (e := 5) (v := .slice A2749 x2748.length c2750) (xs := x2748) KR 56 (.tmp 21) (.tmp 22) .i64 x2752 rfl KR KR KR KR hA2765 (show (x2752 : Int) < ((x2748).length : Int) from hA2766) KR ?_; clear ha a; intro b2767 a hb2768 ha
            refine stepos (encI .u8) (0 : Int) ha HW 0 (sz := 1) (e := 5) (fun _ => rfl) (v := .slice A2749 x2748.length c2750) (xs := x2748) KR hb2768 x2752 hA2765 (show (x2752 : Int) < ((x2748).length : Int) from hA2766) 5 0 (.tmp 26) (.tmp 25) (.int .u8 (IntKind.wrap .u8 (Int.tmod x2747 256))) (IntKind.wrap .u8 (Int.tmod x2747 256)) rfl KR KR KR KR KR KR KR (.slice A2749 (x2748.set (x2752 : Int).toNat (IntKind.wrap .u8 (Int.tmod x2747 256))).length c2750) (by rw [List.length_set]) ?_; clear ha HW a; intro a W2769 HW ha
            replace ha := ha.turn 5 (v := .slice A2749 (x2748.set (x2752 : Int).toNat (IntKind.wrap .u8 (Int.tmod x2747 256))).length c2750) KR (by rw [List.length_set])
            replace ha := ha.turn 21 (v := .slice A2749 (x2748.set (x2752 : Int).toNat (IntKind.wrap .u8 (Int.tmod x2747 256))).length c2750) KR (by rw [List.length_set])
            replace HW : Wd w W2769 [] [⟨5, 1, .slice A2749 (x2748.set (x2752 : Int).toNat (IntKind.wrap .u8 (Int.tmod x2747 256))).length c2750, (x2748.set (x2752 : Int).toNat (IntKind.wrap .u8 (Int.tmod x2747 256))).length, encs (encI .u8) (x2748.set (x2752 : Int).toNat (IntKind.wrap .u8 (Int.tmod x2747 256)))⟩] := HW
            refine endl ?_
            refine thenN (hK2764 _ _ ?_); clear hK2764
            refine wp_region_lit ?_
            refine stepp ha 27 (.int .u64 x2747) KR KR ?_; clear ha a; intro a ha
            refine stepp ha 28 (.int .u64 (IntKind.wrap .u64 (Int.tdiv x2747 256))) KR KR ?_; clear ha a; intro a ha
            refine stepp ha 0 (.int .u64 (IntKind.wrap .u64 (Int.tdiv x2747 256))) KR KR ?_; clear ha a; intro a ha
            refine endl ?_
            refine blkN ?_
            refine thenN (hK2762 _ _ ?_); clear hK2762
            refine wp_region_lit ?_
            refine stepp ha 19 (.int .i64 x2752) KR KR ?_; clear ha a; intro a ha
            refine stepp ha 20 (.int .i64 (IntKind.wrap .i64 (x2752 - 1))) KR KR ?_; clear ha a; intro a ha
            refine stepp ha 6 (.int .i64 (IntKind.wrap .i64 (x2752 - 1))) KR KR ?_; clear ha a; intro a ha
            refine endl ?_
            exact thenN ⟨k2754, Nat.lt_succ_self k2754, IntKind.wrap .u64 (Int.tdiv x2747 256), x2748.set (x2752 : Int).toNat (IntKind.wrap .u8 (Int.tmod x2747 256)), A2749, c2750, IntKind.wrap .i64 (x2752 - 1), (by rw [← hag2755]; exact h), ha.sub (subs_cons KR (subs_cons KR (subs_cons KR (subs_nil _)))), HW.pick [] [0] (by decide) (by decide) KR KR⟩
          · skip
            replace h := ite_neg' h hp2760
            refine condF ha KR KR (t := decide (x2752 ≥ 0)) (decide_eq_false hp2760) ?_
            refine wp_exit ?_
            refine thenE ?_
            refine thenE ?_
            refine inBlk ?_
            refine thenN (hK2707 _ _ ?_); clear hK2707
            refine wp_seq_k (fun K2770 hK2771 => ?_)
            refine wp_region_lit ?_
            refine stepp ha 29 (.slice A2749 x2748.length c2750) KR KR ?_; clear ha a; intro a ha
            refine stepbt ha 30 56 9 5 (.tmp 29) (v := .slice A2749 x2748.length c2750) (xs := x2748) (HW.rdo (i := 0) (q := ⟨5, 1, .slice A2749 x2748.length c2750, x2748.length, encs (encI .u8) x2748⟩) KR) rfl KR KR KR KR KR ?_; clear ha a; intro a ha
            refine stepp ha 4 (.string (strOfNums x2748)) KR KR ?_; clear ha a; intro a ha
            refine endl ?_
            refine thenN (hK2771 _ _ ?_); clear hK2771
            refine wp_ret ?_
            obtain rfl := Option.some.inj h
            exact finv ha _ _ rfl (.tmp (v := .string (strOfNums x2748)) KR .nil) (.string (strOfNums x2748)) rfl ⟨rfl, HW.pick [] [] (by decide) (by decide) rfl KR⟩
/-! ### headgate/headgateref15.put: function 40 -/
def headgateref15_put.f (K : Nat) (a0 : ByteArray) (a1 : Int) (a2 : Int) (a3 : Int) : Option ByteArray :=
  (headgateref01_PutBig.f K (IntKind.wrap .u64 a2) a3).bind fun t2776 => ((headgateref01_Put.f a0 a1 t2776).bind fun t2780 => (some t2780))
set_option maxRecDepth 100000 in
set_option maxHeartbeats 4000000 in
theorem headgateref15_put.calls (K : Nat) (a0 : ByteArray) (a1 : Int) (a2 : Int) (a3 : Int)  (r : ByteArray) (w : World)  (h : headgateref15_put.f K a0 a1 a2 a3 = some r) :
    Calls Tryd.prog 40 #[.string a0, .int .i64 a1, .int .i64 a2, .int .i64 a3] w (fun e W' => e = .returned (.string r) ∧ Wd w W' [] [] ) := by
  refine sxstart (n := 16) (l := [(0, .string a0), (1, .int .i64 a1), (2, .int .i64 a2), (3, .int .i64 a3)]) Tryd.func40 rfl rfl (Nat.le_of_ble_eq_true KR) (subsA_cons rfl (subsA_cons rfl (subsA_cons rfl (subsA_cons rfl (subsA_nil _))))) ?_
  intro a ha
  have HW := Wd.refl w
  unfold headgateref15_put.f at h
  refine wp_seq_k (fun K2772 hK2773 => ?_)
  refine wp_region_lit ?_
  refine stepp ha 8 (.string (⟨#[]⟩ : ByteArray)) KR KR ?_; clear ha a; intro a ha
  refine endl ?_
  refine thenN (hK2773 _ _ ?_); clear hK2773
  refine wp_seq_k (fun K2774 hK2775 => ?_)
  refine wp_region_lit ?_
  refine stepp ha 9 (.string a0) KR KR ?_; clear ha a; intro a ha
  refine stepp ha 10 (.int .i64 a1) KR KR ?_; clear ha a; intro a ha
  refine stepp ha 11 (.int .i64 a2) KR KR ?_; clear ha a; intro a ha
  refine stepp ha 12 (.int .u64 (IntKind.wrap .u64 a2)) KR KR ?_; clear ha a; intro a ha
  refine stepp ha 13 (.int .i64 a3) KR KR ?_; clear ha a; intro a ha
  obtain ⟨t2776, ht2777, h_⟩ := bind_some' h; clear h; have h := h_; clear h_
  refine stepc ha 14 KR KR (headgateref01_PutBig.calls K (IntKind.wrap .u64 a2) a3 t2776 _ ht2777) ?_; clear ha a; rintro e W2778 ⟨rfl, HX2779⟩
  refine ⟨_, rfl, ?_⟩; intro a ha; replace HW := HW.callw HX2779; clear HX2779
  obtain ⟨t2780, ht2781, h_⟩ := bind_some' h; clear h; have h := h_; clear h_
  refine stepc ha 15 KR KR (headgateref01_Put.calls a0 a1 t2776 t2780 _ ht2781) ?_; clear ha a; rintro e W2782 ⟨rfl, HX2783⟩
  refine ⟨_, rfl, ?_⟩; intro a ha; replace HW := HW.callw HX2783; clear HX2783
  refine stepp ha 8 (.string t2780) KR KR ?_; clear ha a; intro a ha
  refine endl ?_
  refine thenN (hK2775 _ _ ?_); clear hK2775
  refine wp_ret ?_
  obtain rfl := Option.some.inj h
  exact finv ha _ _ rfl (.tmp (v := .string t2780) KR .nil) (.string t2780) rfl ⟨rfl, HW.pick [] [] (by decide) (by decide) rfl KR⟩
end Go.Proofs.YtpjcipadjegmlaaDoor.F
