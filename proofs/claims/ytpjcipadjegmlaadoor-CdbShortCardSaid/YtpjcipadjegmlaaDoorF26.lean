/- headgate/headgateref15.Number, headgate/headgateref01.Set, headgate/headgateref01.Put, headgate/headgateref01.PutBig, headgate/headgateref15.put: plain functions, and that the calls come to what they say. No condition. -/
import Derived.Test.YtpjcipadjegmlaaDoorFT
import Derived.Test.YtpjcipadjegmlaaDoorF21
namespace Go.Proofs.YtpjcipadjegmlaaDoor.F
open Go Go.RowKit Go.Proofs.YtpjcipadjegmlaaDoor.X
set_option linter.unusedVariables false
set_option linter.unusedSimpArgs false
/-! ### headgate/headgateref15.Number: function 26 -/
def headgateref15_Number.b0 (K : Nat) (a0 : Int) (again2812 : Int → Option Int) (x2813 : Int) : Option Int :=
  if x2813 ≤ 8 then (if a0 = 0 then (again2812 (IntKind.wrap .i64 (x2813 + 1))) else ((headgateref15_Type.f x2813).bind fun t2827 => (if t2827 = a0 then (some x2813) else (again2812 (IntKind.wrap .i64 (x2813 + 1)))))) else (some 0)
def headgateref15_Number.l0 (K : Nat) (a0 : Int) : Nat → Int → Option Int
  | 0, _ => none
  | k_ + 1, x2813 => headgateref15_Number.b0 K a0 (headgateref15_Number.l0 K a0 k_) x2813
def headgateref15_Number.f (K : Nat) (a0 : Int) : Option Int :=
  headgateref15_Number.l0 K a0 K 1
set_option maxRecDepth 100000 in
set_option maxHeartbeats 4000000 in
theorem headgateref15_Number.calls (K : Nat) (a0 : Int)  (r : Int) (w : World)  (h : headgateref15_Number.f K a0 = some r) :
    Calls Tryd.prog 26 #[.int .i64 a0] w (fun e W' => e = .returned (.int .i64 r) ∧ Wd w W' [] [] ) := by
  refine sxstart (n := 17) (l := [(0, .int .i64 a0)]) Tryd.func26 rfl rfl (Nat.le_of_ble_eq_true KR) (subsA_cons rfl (subsA_nil _)) ?_
  intro a ha
  have HW := Wd.refl w
  unfold headgateref15_Number.f at h
  refine wp_seq_k (fun K2770 hK2771 => ?_)
  refine wp_region_lit ?_
  refine stepp ha 2 (.int .i64 0) KR KR ?_; clear ha a; intro a ha
  refine endl ?_
  refine thenN (hK2771 _ _ ?_); clear hK2771
  refine wp_seq_k (fun K2772 hK2773 => ?_)
  refine wp_seq_k (fun K2774 hK2775 => ?_)
  refine wp_region_lit ?_
  refine stepp ha 3 (.int .i64 1) KR KR ?_; clear ha a; intro a ha
  refine endl ?_
  refine thenN (hK2775 _ _ ?_); clear hK2775
  refine wp_block ?_
  refine loopk (fun k => fun a W2814 => ∃ (x2813 : Int), headgateref15_Number.l0 K a0 k x2813 = some r ∧ Has 17 [(0, .int .i64 a0), (3, .int .i64 x2813)] a ∧ Wd w W2814 [] []) K ?_ ?_
  · skip
    exact ⟨1, h, ha.sub (subs_cons KR (subs_cons KR (subs_nil _))), HW.pick [] [] (by decide) (by decide) KR KR⟩
  · skip
    intro k a W2814 hI
    obtain ⟨x2813, h, ha, HW⟩ := hI
    cases k with
    | zero => exact (none_some (show none = some r from h)).elim
    | succ k2815 =>
      replace h : headgateref15_Number.b0 K a0 (headgateref15_Number.l0 K a0 k2815) x2813 = some r := h
      obtain ⟨again2812, hag2816⟩ : ∃ g_, g_ = headgateref15_Number.l0 K a0 k2815 := ⟨_, rfl⟩
      rw [← hag2816] at h
      unfold headgateref15_Number.b0 at h
      refine wp_seq_k (fun K2817 hK2818 => ?_)
      refine wp_seq_k (fun K2819 hK2820 => ?_)
      refine wp_region_lit ?_
      refine stepp ha 4 (.int .i64 x2813) KR KR ?_; clear ha a; intro a ha
      refine stepp ha 5 (.bool (decide (x2813 ≤ 8))) KR KR ?_; clear ha a; intro a ha
      refine endl ?_
      refine thenN (hK2820 _ _ ?_); clear hK2820
      by_cases hp2821 : x2813 ≤ 8
      · skip
        replace h := ite_pos' h hp2821
        refine condT ha KR KR (t := decide (x2813 ≤ 8)) (decide_eq_true hp2821) ?_
        refine wp_skip ?_
        refine thenN (hK2818 _ _ ?_); clear hK2818
        refine wp_seq_k (fun K2822 hK2823 => ?_)
        refine wp_block ?_
        refine wp_seq_k (fun K2824 hK2825 => ?_)
        refine wp_region_lit ?_
        refine stepp ha 8 (.int .i64 a0) KR KR ?_; clear ha a; intro a ha
        refine stepp ha 9 (.bool (a0 != 0)) KR KR ?_; clear ha a; intro a ha
        refine stepp ha 10 (.bool (a0 != 0)) KR KR ?_; clear ha a; intro a ha
        by_cases hp2826 : a0 = 0
        · skip
          replace h := ite_pos' h hp2826
          replace ha := ha.bool 10 KR (ineq_f hp2826)
          refine stepo ha 11 KR ?_; clear ha a; intro a ha
          refine stepo ha 12 KR ?_; clear ha a; intro a ha
          refine stepo ha 13 KR ?_; clear ha a; intro a ha
          refine stepo ha 14 KR ?_; clear ha a; intro a ha
          refine stepp ha 15 (.bool false) KR KR ?_; clear ha a; intro a ha
          refine endl ?_
          refine thenN (hK2825 _ _ ?_); clear hK2825
          refine condF ha KR KR (t := false) (rfl) ?_
          refine wp_skip ?_
          refine blkN ?_
          refine thenN (hK2823 _ _ ?_); clear hK2823
          refine wp_region_lit ?_
          refine stepp ha 6 (.int .i64 x2813) KR KR ?_; clear ha a; intro a ha
          refine stepp ha 7 (.int .i64 (IntKind.wrap .i64 (x2813 + 1))) KR KR ?_; clear ha a; intro a ha
          refine stepp ha 3 (.int .i64 (IntKind.wrap .i64 (x2813 + 1))) KR KR ?_; clear ha a; intro a ha
          refine endl ?_
          exact thenN ⟨k2815, Nat.lt_succ_self k2815, IntKind.wrap .i64 (x2813 + 1), (by rw [← hag2816]; exact h), ha.sub (subs_cons KR (subs_cons KR (subs_nil _))), HW.pick [] [] (by decide) (by decide) KR KR⟩
        · skip
          replace h := ite_neg' h hp2826
          replace ha := ha.bool 10 KR (ineq_t hp2826)
          refine stepp ha 11 (.int .i64 x2813) KR KR ?_; clear ha a; intro a ha
          obtain ⟨t2827, ht2828, h_⟩ := bind_some' h; clear h; have h := h_; clear h_
          refine stepc ha 12 KR KR (headgateref15_Type.calls x2813 t2827 _ ht2828) ?_; clear ha a; rintro e W2829 ⟨rfl, HX2830⟩
          refine ⟨_, rfl, ?_⟩; intro a ha; replace HW := HW.callw HX2830; clear HX2830
          refine stepp ha 13 (.int .i64 a0) KR KR ?_; clear ha a; intro a ha
          refine stepp ha 14 (.bool (t2827 == a0)) KR KR ?_; clear ha a; intro a ha
          refine stepp ha 15 (.bool (t2827 == a0)) KR KR ?_; clear ha a; intro a ha
          refine endl ?_
          refine thenN (hK2825 _ _ ?_); clear hK2825
          by_cases hp2831 : t2827 = a0
          · skip
            replace h := ite_pos' h hp2831
            refine condT ha KR KR (t := (t2827 == a0)) (ieq_t hp2831) ?_
            refine wp_seq_k (fun K2832 hK2833 => ?_)
            refine wp_region_lit ?_
            refine stepp ha 16 (.int .i64 x2813) KR KR ?_; clear ha a; intro a ha
            refine stepp ha 2 (.int .i64 x2813) KR KR ?_; clear ha a; intro a ha
            refine endl ?_
            refine thenN (hK2833 _ _ ?_); clear hK2833
            refine wp_ret ?_
            refine blkR ?_
            refine thenR ?_
            refine thenR ?_
            refine blkR ?_
            refine thenR ?_
            obtain rfl := Option.some.inj h
            exact finv ha _ _ rfl (.tmp (v := .int .i64 x2813) KR .nil) (.int .i64 x2813) rfl ⟨rfl, HW.pick [] [] (by decide) (by decide) rfl KR⟩
          · skip
            replace h := ite_neg' h hp2831
            refine condF ha KR KR (t := (t2827 == a0)) (ieq_f hp2831) ?_
            refine wp_skip ?_
            refine blkN ?_
            refine thenN (hK2823 _ _ ?_); clear hK2823
            refine wp_region_lit ?_
            refine stepp ha 6 (.int .i64 x2813) KR KR ?_; clear ha a; intro a ha
            refine stepp ha 7 (.int .i64 (IntKind.wrap .i64 (x2813 + 1))) KR KR ?_; clear ha a; intro a ha
            refine stepp ha 3 (.int .i64 (IntKind.wrap .i64 (x2813 + 1))) KR KR ?_; clear ha a; intro a ha
            refine endl ?_
            exact thenN ⟨k2815, Nat.lt_succ_self k2815, IntKind.wrap .i64 (x2813 + 1), (by rw [← hag2816]; exact h), ha.sub (subs_cons KR (subs_cons KR (subs_nil _))), HW.pick [] [] (by decide) (by decide) KR KR⟩
      · skip
        replace h := ite_neg' h hp2821
        refine condF ha KR KR (t := decide (x2813 ≤ 8)) (decide_eq_false hp2821) ?_
        refine wp_exit ?_
        refine thenE ?_
        refine thenE ?_
        refine inBlk ?_
        refine thenN (hK2773 _ _ ?_); clear hK2773
        refine wp_seq_k (fun K2834 hK2835 => ?_)
        refine wp_region_lit ?_
        refine stepp ha 2 (.int .i64 0) KR KR ?_; clear ha a; intro a ha
        refine endl ?_
        refine thenN (hK2835 _ _ ?_); clear hK2835
        refine wp_ret ?_
        obtain rfl := Option.some.inj h
        exact finv ha _ _ rfl (.tmp (v := .int .i64 0) KR .nil) (.int .i64 0) rfl ⟨rfl, HW.pick [] [] (by decide) (by decide) rfl KR⟩
/-! ### headgate/headgateref01.Set: function 50 -/
def headgateref01_Set.f (a0 : ByteArray) (a1 : Int) (a2 : ByteArray) : Option (ByteArray × Bool) :=
  (headgateref01_there.f a0 a1 (a2.size : Int)).bind fun t2842 => (if t2842 = true then (asrt (0 ≤ a1) (asrt (a1 ≤ (a0.size : Int)) (asrt ((a0.extract 0 (a1 : Int).toNat).size + a2.size ≤ 9223372036854775807) (asrt (0 ≤ (IntKind.wrap .i64 (a1 + (a2.size : Int)))) (asrt ((IntKind.wrap .i64 (a1 + (a2.size : Int))) ≤ (a0.size : Int)) (asrt (((a0.extract 0 (a1 : Int).toNat) ++ a2).size + (a0.extract (IntKind.wrap .i64 (a1 + (a2.size : Int)) : Int).toNat (a0).size).size ≤ 9223372036854775807) (some (((a0.extract 0 (a1 : Int).toNat) ++ a2) ++ (a0.extract (IntKind.wrap .i64 (a1 + (a2.size : Int)) : Int).toNat (a0).size), true)))))))) else (some ((⟨#[]⟩ : ByteArray), false)))
set_option maxRecDepth 100000 in
set_option maxHeartbeats 4000000 in
theorem headgateref01_Set.calls (a0 : ByteArray) (a1 : Int) (a2 : ByteArray)  (r : ByteArray × Bool) (w : World)  (h : headgateref01_Set.f a0 a1 a2 = some r) :
    Calls Tryd.prog 50 #[.string a0, .int .i64 a1, .string a2] w (fun e W' => e = .returned (.tuple #[.string r.1, .bool r.2]) ∧ Wd w W' [] [] ) := by
  refine sxstart (n := 26) (l := [(0, .string a0), (1, .int .i64 a1), (2, .string a2)]) Tryd.func50 rfl rfl (Nat.le_of_ble_eq_true KR) (subsA_cons rfl (subsA_cons rfl (subsA_cons rfl (subsA_nil _)))) ?_
  intro a ha
  have HW := Wd.refl w
  unfold headgateref01_Set.f at h
  refine wp_seq_k (fun K2836 hK2837 => ?_)
  refine wp_region_lit ?_
  refine stepp ha 6 (.string (⟨#[]⟩ : ByteArray)) KR KR ?_; clear ha a; intro a ha
  refine stepp ha 7 (.bool false) KR KR ?_; clear ha a; intro a ha
  refine endl ?_
  refine thenN (hK2837 _ _ ?_); clear hK2837
  refine wp_seq_k (fun K2838 hK2839 => ?_)
  refine wp_seq_k (fun K2840 hK2841 => ?_)
  refine wp_region_lit ?_
  refine stepp ha 8 (.string a0) KR KR ?_; clear ha a; intro a ha
  refine stepp ha 9 (.int .i64 a1) KR KR ?_; clear ha a; intro a ha
  refine stepp ha 10 (.string a2) KR KR ?_; clear ha a; intro a ha
  refine stepp ha 11 (.int .i64 (a2.size : Int)) KR KR ?_; clear ha a; intro a ha
  obtain ⟨t2842, ht2843, h_⟩ := bind_some' h; clear h; have h := h_; clear h_
  refine stepc ha 12 KR KR (headgateref01_there.calls a0 a1 (a2.size : Int) t2842 _ ht2843) ?_; clear ha a; rintro e W2844 ⟨rfl, HX2845⟩
  refine ⟨_, rfl, ?_⟩; intro a ha; replace HW := HW.callw HX2845; clear HX2845
  refine stepp ha 13 (.bool (!t2842)) KR KR ?_; clear ha a; intro a ha
  refine endl ?_
  refine thenN (hK2841 _ _ ?_); clear hK2841
  by_cases hp2846 : t2842 = true
  · skip
    replace h := ite_pos' h hp2846
    refine condF ha KR KR (t := (!t2842)) (not_f (hp2846)) ?_
    refine wp_skip ?_
    refine thenN (hK2839 _ _ ?_); clear hK2839
    refine wp_seq_k (fun K2849 hK2850 => ?_)
    obtain ⟨hA2851, h_⟩ := asrt_some h; clear h; have h := h_; clear h_
    obtain ⟨hA2852, h_⟩ := asrt_some h; clear h; have h := h_; clear h_
    obtain ⟨hA2853, h_⟩ := asrt_some h; clear h; have h := h_; clear h_
    obtain ⟨hA2854, h_⟩ := asrt_some h; clear h; have h := h_; clear h_
    obtain ⟨hA2855, h_⟩ := asrt_some h; clear h; have h := h_; clear h_
    obtain ⟨hA2856, h_⟩ := asrt_some h; clear h; have h := h_; clear h_
    refine regionG 12 KR KR ha HW [.fix (.string a0), .fix (.int .i64 a1), .fix (.string (a0.extract 0 (a1 : Int).toNat)), .fix (.string a2), .fix (.string ((a0.extract 0 (a1 : Int).toNat) ++ a2)), .fix (.string a0), .fix (.int .i64 a1), .fix (.string a2), .fix (.int .i64 (a2.size : Int)), .fix (.int .i64 (IntKind.wrap .i64 (a1 + (a2.size : Int)))), .fix (.string (a0.extract (IntKind.wrap .i64 (a1 + (a2.size : Int)) : Int).toNat (a0).size)), .fix (.string (((a0.extract 0 (a1 : Int).toNat) ++ a2) ++ (a0.extract (IntKind.wrap .i64 (a1 + (a2.size : Int)) : Int).toNat (a0).size)))] ?_ ?_
    · skip
      refine ⟨?_, ?_, ?_, ?_, ?_, ?_, ?_, ?_, ?_, ?_, ?_, ?_, trivial⟩
      · skip
        intro a wr hn hd HW hs; have ha := hasNil hn hd
        have ha := ha.add (seeE hs 0 (.string a0) KR KR)
        refine yStep ha 14 KR ?_; intro l_ ha HK
        refine stepp ha 14 (.string a0) KR KR ?_; intro ax hax; exact HK _ _ _ hax rfl (Below.refl _ _)
      · skip
        intro a wr hn hd HW hs; have ha := hasNil hn hd
        have ha := ha.add (seeE hs 1 (.int .i64 a1) KR KR)
        refine yStep ha 15 KR ?_; intro l_ ha HK
        refine stepp ha 15 (.int .i64 a1) KR KR ?_; intro ax hax; exact HK _ _ _ hax rfl (Below.refl _ _)
      · skip
        intro a wr hn hd HW hs; have ha := hasNil hn hd
        have ha := ha.add (seeF hs 14 0 (.string a0) KR KR)
        have ha := ha.add (seeF hs 15 1 (.int .i64 a1) KR KR)
        refine yStep ha 16 KR ?_; intro l_ ha HK
        refine stepssh ha 16 9 (.tmp 14) (.tmp 15) a0 .i64 a1 rfl KR KR KR hA2851 (show (a1 : Int) ≤ ((a0).size : Int) from hA2852) KR ?_; intro ax hax; exact HK _ _ _ hax rfl (Below.refl _ _)
      · skip
        intro a wr hn hd HW hs; have ha := hasNil hn hd
        have ha := ha.add (seeE hs 2 (.string a2) KR KR)
        refine yStep ha 17 KR ?_; intro l_ ha HK
        refine stepp ha 17 (.string a2) KR KR ?_; intro ax hax; exact HK _ _ _ hax rfl (Below.refl _ _)
      · skip
        intro a wr hn hd HW hs; have ha := hasNil hn hd
        have ha := ha.add (seeF hs 16 2 (.string (a0.extract 0 (a1 : Int).toNat)) KR KR)
        have ha := ha.add (seeF hs 17 3 (.string a2) KR KR)
        refine yStep ha 18 KR ?_; intro l_ ha HK
        refine stepsa ha 18 9 9 (.tmp 16) (.tmp 17) (a0.extract 0 (a1 : Int).toNat) a2 rfl KR KR (show (a0.extract 0 (a1 : Int).toNat).size + (a2).size ≤ 9223372036854775807 from hA2853) KR ?_; intro ax hax; exact HK _ _ _ hax rfl (Below.refl _ _)
      · skip
        intro a wr hn hd HW hs; have ha := hasNil hn hd
        have ha := ha.add (seeE hs 0 (.string a0) KR KR)
        refine yStep ha 19 KR ?_; intro l_ ha HK
        refine stepp ha 19 (.string a0) KR KR ?_; intro ax hax; exact HK _ _ _ hax rfl (Below.refl _ _)
      · skip
        intro a wr hn hd HW hs; have ha := hasNil hn hd
        have ha := ha.add (seeE hs 1 (.int .i64 a1) KR KR)
        refine yStep ha 20 KR ?_; intro l_ ha HK
        refine stepp ha 20 (.int .i64 a1) KR KR ?_; intro ax hax; exact HK _ _ _ hax rfl (Below.refl _ _)
      · skip
        intro a wr hn hd HW hs; have ha := hasNil hn hd
        have ha := ha.add (seeE hs 2 (.string a2) KR KR)
        refine yStep ha 21 KR ?_; intro l_ ha HK
        refine stepp ha 21 (.string a2) KR KR ?_; intro ax hax; exact HK _ _ _ hax rfl (Below.refl _ _)
      · skip
        intro a wr hn hd HW hs; have ha := hasNil hn hd
        have ha := ha.add (seeF hs 21 7 (.string a2) KR KR)
        refine yStep ha 22 KR ?_; intro l_ ha HK
        refine stepp ha 22 (.int .i64 (a2.size : Int)) KR KR ?_; intro ax hax; exact HK _ _ _ hax rfl (Below.refl _ _)
      · skip
        intro a wr hn hd HW hs; have ha := hasNil hn hd
        have ha := ha.add (seeF hs 20 6 (.int .i64 a1) KR KR)
        have ha := ha.add (seeF hs 22 8 (.int .i64 (a2.size : Int)) KR KR)
        refine yStep ha 23 KR ?_; intro l_ ha HK
        refine stepp ha 23 (.int .i64 (IntKind.wrap .i64 (a1 + (a2.size : Int)))) KR KR ?_; intro ax hax; exact HK _ _ _ hax rfl (Below.refl _ _)
      · skip
        intro a wr hn hd HW hs; have ha := hasNil hn hd
        have ha := ha.add (seeF hs 19 5 (.string a0) KR KR)
        have ha := ha.add (seeF hs 23 9 (.int .i64 (IntKind.wrap .i64 (a1 + (a2.size : Int)))) KR KR)
        refine yStep ha 24 KR ?_; intro l_ ha HK
        refine stepssl ha 24 9 (.tmp 19) (.tmp 23) a0 .i64 (IntKind.wrap .i64 (a1 + (a2.size : Int))) rfl KR KR KR hA2854 (show (IntKind.wrap .i64 (a1 + (a2.size : Int)) : Int) ≤ ((a0).size : Int) from hA2855) KR ?_; intro ax hax; exact HK _ _ _ hax rfl (Below.refl _ _)
      · skip
        intro a wr hn hd HW hs; have ha := hasNil hn hd
        have ha := ha.add (seeF hs 18 4 (.string ((a0.extract 0 (a1 : Int).toNat) ++ a2)) KR KR)
        have ha := ha.add (seeF hs 24 10 (.string (a0.extract (IntKind.wrap .i64 (a1 + (a2.size : Int)) : Int).toNat (a0).size)) KR KR)
        refine yStep ha 25 KR ?_; intro l_ ha HK
        refine stepsa ha 25 9 9 (.tmp 18) (.tmp 24) ((a0.extract 0 (a1 : Int).toNat) ++ a2) (a0.extract (IntKind.wrap .i64 (a1 + (a2.size : Int)) : Int).toNat (a0).size) rfl KR KR (show ((a0.extract 0 (a1 : Int).toNat) ++ a2).size + (a0.extract (IntKind.wrap .i64 (a1 + (a2.size : Int)) : Int).toNat (a0).size).size ≤ 9223372036854775807 from hA2856) KR ?_; intro ax hax; exact HK _ _ _ hax rfl (Below.refl _ _)
    · skip
      intro a W2857 ha HW he hf
      replace ha := ha.add (gotF (m := 12) (j := 11) (d := 25) (v := .string (((a0.extract 0 (a1 : Int).toNat) ++ a2) ++ (a0.extract (IntKind.wrap .i64 (a1 + (a2.size : Int)) : Int).toNat (a0).size))) hf KR KR KR)
      clear he hf
      refine stepp ha 6 (.string (((a0.extract 0 (a1 : Int).toNat) ++ a2) ++ (a0.extract (IntKind.wrap .i64 (a1 + (a2.size : Int)) : Int).toNat (a0).size))) KR KR ?_; clear ha a; intro a ha
      refine stepp ha 7 (.bool true) KR KR ?_; clear ha a; intro a ha
      refine endl ?_
      refine thenN (hK2850 _ _ ?_); clear hK2850
      refine wp_ret ?_
      obtain rfl := Option.some.inj h
      exact finv ha _ _ rfl (.tmp (v := .string (((a0.extract 0 (a1 : Int).toNat) ++ a2) ++ (a0.extract (IntKind.wrap .i64 (a1 + (a2.size : Int)) : Int).toNat (a0).size))) KR (.tmp (v := .bool true) KR .nil)) (.tuple #[.string (((a0.extract 0 (a1 : Int).toNat) ++ a2) ++ (a0.extract (IntKind.wrap .i64 (a1 + (a2.size : Int)) : Int).toNat (a0).size)), .bool true]) rfl ⟨rfl, HW.pick [] [] (by decide) (by decide) rfl KR⟩
  · skip
    replace h := ite_neg' h hp2846
    refine condT ha KR KR (t := (!t2842)) (not_t (bool_f hp2846)) ?_
    refine wp_seq_k (fun K2847 hK2848 => ?_)
    refine wp_region_lit ?_
    refine stepp ha 6 (.string (⟨#[]⟩ : ByteArray)) KR KR ?_; clear ha a; intro a ha
    refine stepp ha 7 (.bool false) KR KR ?_; clear ha a; intro a ha
    refine endl ?_
    refine thenN (hK2848 _ _ ?_); clear hK2848
    refine wp_ret ?_
    refine thenR ?_
    obtain rfl := Option.some.inj h
    exact finv ha _ _ rfl (.tmp (v := .string (⟨#[]⟩ : ByteArray)) KR (.tmp (v := .bool false) KR .nil)) (.tuple #[.string (⟨#[]⟩ : ByteArray), .bool false]) rfl ⟨rfl, HW.pick [] [] (by decide) (by decide) rfl KR⟩
/-! ### headgate/headgateref01.Put: function 46 -/
def headgateref01_Put.f (a0 : ByteArray) (a1 : Int) (a2 : ByteArray) : Option ByteArray :=
  (headgateref01_Set.f a0 a1 a2).bind fun t2862 => (some t2862.1)
set_option maxRecDepth 100000 in
set_option maxHeartbeats 4000000 in
theorem headgateref01_Put.calls (a0 : ByteArray) (a1 : Int) (a2 : ByteArray)  (r : ByteArray) (w : World)  (h : headgateref01_Put.f a0 a1 a2 = some r) :
    Calls Tryd.prog 46 #[.string a0, .int .i64 a1, .string a2] w (fun e W' => e = .returned (.string r) ∧ Wd w W' [] [] ) := by
  refine sxstart (n := 17) (l := [(0, .string a0), (1, .int .i64 a1), (2, .string a2)]) Tryd.func46 rfl rfl (Nat.le_of_ble_eq_true KR) (subsA_cons rfl (subsA_cons rfl (subsA_cons rfl (subsA_nil _)))) ?_
  intro a ha
  have HW := Wd.refl w
  unfold headgateref01_Put.f at h
  refine wp_seq_k (fun K2858 hK2859 => ?_)
  refine wp_region_lit ?_
  refine stepp ha 6 (.string (⟨#[]⟩ : ByteArray)) KR KR ?_; clear ha a; intro a ha
  refine endl ?_
  refine thenN (hK2859 _ _ ?_); clear hK2859
  refine wp_seq_k (fun K2860 hK2861 => ?_)
  refine wp_region_lit ?_
  refine stepp ha 10 (.string a0) KR KR ?_; clear ha a; intro a ha
  refine stepp ha 11 (.int .i64 a1) KR KR ?_; clear ha a; intro a ha
  refine stepp ha 12 (.string a2) KR KR ?_; clear ha a; intro a ha
  obtain ⟨t2862, ht2863, h_⟩ := bind_some' h; clear h; have h := h_; clear h_
  refine stepc ha 13 KR KR (headgateref01_Set.calls a0 a1 a2 t2862 _ ht2863) ?_; clear ha a; rintro e W2864 ⟨rfl, HX2865⟩
  refine ⟨_, rfl, ?_⟩; intro a ha; replace HW := HW.callw HX2865; clear HX2865
  refine stepp ha 9 (.tuple #[.string t2862.1, .bool t2862.2]) KR KR ?_; clear ha a; intro a ha
  refine stepp ha 14 (.string t2862.1) KR KR ?_; clear ha a; intro a ha
  refine stepp ha 15 (.bool t2862.2) KR KR ?_; clear ha a; intro a ha
  refine stepp ha 7 (.string t2862.1) KR KR ?_; clear ha a; intro a ha
  refine stepp ha 8 (.bool t2862.2) KR KR ?_; clear ha a; intro a ha
  refine endl ?_
  refine thenN (hK2861 _ _ ?_); clear hK2861
  refine wp_seq_k (fun K2866 hK2867 => ?_)
  refine wp_region_lit ?_
  refine stepp ha 16 (.string t2862.1) KR KR ?_; clear ha a; intro a ha
  refine stepp ha 6 (.string t2862.1) KR KR ?_; clear ha a; intro a ha
  refine endl ?_
  refine thenN (hK2867 _ _ ?_); clear hK2867
  refine wp_ret ?_
  obtain rfl := Option.some.inj h
  exact finv ha _ _ rfl (.tmp (v := .string t2862.1) KR .nil) (.string t2862.1) rfl ⟨rfl, HW.pick [] [] (by decide) (by decide) rfl KR⟩
/-! ### headgate/headgateref01.PutBig: function 47 -/
def headgateref01_PutBig.b0 (K : Nat) (again2927 : Int → (List Int) → Int → Option ByteArray) (x2928 : Int) (x2929 : List Int) (x2933 : Int) : Option ByteArray :=
  if x2933 ≥ 0 then (asrt (0 ≤ x2933) (asrt (x2933 < (x2929.length : Int)) (again2927 (IntKind.wrap .u64 (Int.tdiv x2928 256)) (x2929.set (x2933 : Int).toNat (IntKind.wrap .u8 (Int.tmod x2928 256))) (IntKind.wrap .i64 (x2933 - 1))))) else (some (strOfNums x2929))
def headgateref01_PutBig.l0 (K : Nat)  : Nat → Int → (List Int) → Int → Option ByteArray
  | 0, _, _, _ => none
  | k_ + 1, x2928, x2929, x2933 => headgateref01_PutBig.b0 K  (headgateref01_PutBig.l0 K  k_) x2928 x2929 x2933
def headgateref01_PutBig.f (K : Nat) (a0 : Int) (a1 : Int) : Option ByteArray :=
  if a1 < 1 then (some (⟨#[]⟩ : ByteArray)) else (if a1 > 8 then (some (⟨#[]⟩ : ByteArray)) else (asrt (0 ≤ a1) (asrt (a1 ≤ 281474976710656) (headgateref01_PutBig.l0 K  K a0 (List.replicate (a1 : Int).toNat (0 : Int)) (IntKind.wrap .i64 (a1 - 1))))))
set_option maxRecDepth 100000 in
set_option maxHeartbeats 4000000 in
theorem headgateref01_PutBig.calls (K : Nat) (a0 : Int) (a1 : Int)  (r : ByteArray) (w : World)  (h : headgateref01_PutBig.f K a0 a1 = some r) :
    Calls Tryd.prog 47 #[.int .u64 a0, .int .i64 a1] w (fun e W' => e = .returned (.string r) ∧ Wd w W' [] [] ) := by
  refine sxstart (n := 31) (l := [(0, .int .u64 a0), (1, .int .i64 a1)]) Tryd.func47 rfl rfl (Nat.le_of_ble_eq_true KR) (subsA_cons rfl (subsA_cons rfl (subsA_nil _))) ?_
  intro a ha
  have HW := Wd.refl w
  unfold headgateref01_PutBig.f at h
  refine wp_seq_k (fun K2868 hK2869 => ?_)
  refine wp_region_lit ?_
  refine stepp ha 4 (.string (⟨#[]⟩ : ByteArray)) KR KR ?_; clear ha a; intro a ha
  refine endl ?_
  refine thenN (hK2869 _ _ ?_); clear hK2869
  refine wp_seq_k (fun K2870 hK2871 => ?_)
  refine wp_seq_k (fun K2872 hK2873 => ?_)
  refine wp_region_lit ?_
  refine stepp ha 7 (.int .i64 a1) KR KR ?_; clear ha a; intro a ha
  refine stepp ha 8 (.bool (decide (a1 < 1))) KR KR ?_; clear ha a; intro a ha
  refine stepp ha 9 (.bool (decide (a1 < 1))) KR KR ?_; clear ha a; intro a ha
  by_cases hp2874 : a1 < 1
  · skip
    replace h := ite_pos' h hp2874
    replace ha := ha.bool 9 KR (decide_eq_true hp2874)
    refine stepo ha 10 KR ?_; clear ha a; intro a ha
    refine stepo ha 11 KR ?_; clear ha a; intro a ha
    refine stepp ha 12 (.bool true) KR KR ?_; clear ha a; intro a ha
    refine endl ?_
    refine thenN (hK2873 _ _ ?_); clear hK2873
    refine condT ha KR KR (t := true) (rfl) ?_
    refine wp_seq_k (fun K2875 hK2876 => ?_)
    refine wp_region_lit ?_
    refine stepp ha 4 (.string (⟨#[]⟩ : ByteArray)) KR KR ?_; clear ha a; intro a ha
    refine endl ?_
    refine thenN (hK2876 _ _ ?_); clear hK2876
    refine wp_ret ?_
    refine thenR ?_
    obtain rfl := Option.some.inj h
    exact finv ha _ _ rfl (.tmp (v := .string (⟨#[]⟩ : ByteArray)) KR .nil) (.string (⟨#[]⟩ : ByteArray)) rfl ⟨rfl, HW.pick [] [] (by decide) (by decide) rfl KR⟩
  · skip
    replace h := ite_neg' h hp2874
    replace ha := ha.bool 9 KR (decide_eq_false hp2874)
    refine stepp ha 10 (.int .i64 a1) KR KR ?_; clear ha a; intro a ha
    refine stepp ha 11 (.bool (decide (a1 > 8))) KR KR ?_; clear ha a; intro a ha
    refine stepp ha 12 (.bool (decide (a1 > 8))) KR KR ?_; clear ha a; intro a ha
    refine endl ?_
    refine thenN (hK2873 _ _ ?_); clear hK2873
    by_cases hp2877 : a1 > 8
    · skip
      replace h := ite_pos' h hp2877
      refine condT ha KR KR (t := decide (a1 > 8)) (decide_eq_true hp2877) ?_
      refine wp_seq_k (fun K2878 hK2879 => ?_)
      refine wp_region_lit ?_
      refine stepp ha 4 (.string (⟨#[]⟩ : ByteArray)) KR KR ?_; clear ha a; intro a ha
      refine endl ?_
      refine thenN (hK2879 _ _ ?_); clear hK2879
      refine wp_ret ?_
      refine thenR ?_
      obtain rfl := Option.some.inj h
      exact finv ha _ _ rfl (.tmp (v := .string (⟨#[]⟩ : ByteArray)) KR .nil) (.string (⟨#[]⟩ : ByteArray)) rfl ⟨rfl, HW.pick [] [] (by decide) (by decide) rfl KR⟩
    · skip
      replace h := ite_neg' h hp2877
      refine condF ha KR KR (t := decide (a1 > 8)) (decide_eq_false hp2877) ?_
      refine wp_skip ?_
      refine thenN (hK2871 _ _ ?_); clear hK2871
      refine wp_seq_k (fun K2880 hK2881 => ?_)
      refine wp_region_lit ?_
      refine stepp ha 13 (.int .i64 a1) KR KR ?_; clear ha a; intro a ha
      obtain ⟨hA2882, h_⟩ := asrt_some h; clear h; have h := h_; clear h_
      obtain ⟨hA2883, h_⟩ := asrt_some h; clear h; have h := h_; clear h_
      refine stepmk (encI .u8) (0 : Int) ha HW 14 56 5 (.tmp 13) (.tmp 13) .i64 .i64 a1 (.int .u8 0) 1 rfl KR KR KR KR rfl rfl hA2882 (by have := hA2883; omega) (by have := hA2883; omega) KR ?_; clear ha HW a; intro b2884 a W2885 HW ha
      refine stepp ha 5 (.slice (some ⟨b2884, 0, none⟩) (List.replicate (a1 : Int).toNat (0 : Int)).length ((a1 : Int).toNat)) KR KR ?_; clear ha a; intro a ha
      refine endl ?_
      refine thenN (hK2881 _ _ ?_); clear hK2881
      refine wp_seq_k (fun K2887 hK2888 => ?_)
      refine wp_seq_k (fun K2889 hK2890 => ?_)
      refine wp_region_lit ?_
      refine stepp ha 15 (.int .i64 a1) KR KR ?_; clear ha a; intro a ha
      refine stepp ha 16 (.int .i64 (IntKind.wrap .i64 (a1 - 1))) KR KR ?_; clear ha a; intro a ha
      refine stepp ha 6 (.int .i64 (IntKind.wrap .i64 (a1 - 1))) KR KR ?_; clear ha a; intro a ha
      refine endl ?_
      refine thenN (hK2890 _ _ ?_); clear hK2890
      refine wp_block ?_
      refine loopk (fun k => fun a W2934 => ∃ (x2928 : Int), ∃ (x2929 : List Int), ∃ A2930, ∃ c2931, ∃ (x2933 : Int), headgateref01_PutBig.l0 K  k x2928 x2929 x2933 = some r ∧ Has 31 [(0, .int .u64 x2928), (5, .slice A2930 x2929.length c2931), (6, .int .i64 x2933)] a ∧ Wd w W2934 [] [⟨5, 1, .slice A2930 x2929.length c2931, x2929.length, encs (encI .u8) x2929⟩]) K ?_ ?_
      · skip
        exact ⟨a0, List.replicate (a1 : Int).toNat (0 : Int), some ⟨b2884, 0, none⟩, (a1 : Int).toNat, IntKind.wrap .i64 (a1 - 1), h, ha.sub (subs_cons KR (subs_cons KR (subs_cons KR (subs_nil _)))), HW.pick [] [0] (by decide) (by decide) KR KR⟩
      · skip
        intro k a W2934 hI
        obtain ⟨x2928, x2929, A2930, c2931, x2933, h, ha, HW⟩ := hI
        cases k with
        | zero => exact (none_some (show none = some r from h)).elim
        | succ k2935 =>
          replace h : headgateref01_PutBig.b0 K  (headgateref01_PutBig.l0 K  k2935) x2928 x2929 x2933 = some r := h
          obtain ⟨again2927, hag2936⟩ : ∃ g_, g_ = headgateref01_PutBig.l0 K  k2935 := ⟨_, rfl⟩
          rw [← hag2936] at h
          unfold headgateref01_PutBig.b0 at h
          refine wp_seq_k (fun K2937 hK2938 => ?_)
          refine wp_seq_k (fun K2939 hK2940 => ?_)
          refine wp_region_lit ?_
          refine stepp ha 17 (.int .i64 x2933) KR KR ?_; clear ha a; intro a ha
          refine stepp ha 18 (.bool (decide (x2933 ≥ 0))) KR KR ?_; clear ha a; intro a ha
          refine endl ?_
          refine thenN (hK2940 _ _ ?_); clear hK2940
          by_cases hp2941 : x2933 ≥ 0
          · skip
            replace h := ite_pos' h hp2941
            refine condT ha KR KR (t := decide (x2933 ≥ 0)) (decide_eq_true hp2941) ?_
            refine wp_skip ?_
            refine thenN (hK2938 _ _ ?_); clear hK2938
            refine wp_seq_k (fun K2942 hK2943 => ?_)
            refine wp_block ?_
            refine wp_seq_k (fun K2944 hK2945 => ?_)
            refine wp_region_lit ?_
            refine stepp ha 21 (.slice A2930 x2929.length c2931) KR KR ?_; clear ha a; intro a ha
            refine stepp ha 22 (.int .i64 x2933) KR KR ?_; clear ha a; intro a ha
            refine stepp ha 23 (.int .u64 x2928) KR KR ?_; clear ha a; intro a ha
            refine stepp ha 24 (.int .u64 (Int.tmod x2928 256)) KR KR ?_; clear ha a; intro a ha
            refine stepp ha 25 (.int .u8 (IntKind.wrap .u8 (Int.tmod x2928 256))) KR KR ?_; clear ha a; intro a ha
            obtain ⟨hA2946, h_⟩ := asrt_some h; clear h; have h := h_; clear h_
            obtain ⟨hA2947, h_⟩ := asrt_some h; clear h; have h := h_; clear h_
            refine stepio (encI .u8) ha HW 26 0 (sz := 1) (e := 5) (v := .slice A2930 x2929.length c2931) (xs := x2929) KR 56 (.tmp 21) (.tmp 22) .i64 x2933 rfl KR KR KR KR hA2946 (show (x2933 : Int) < ((x2929).length : Int) from hA2947) KR ?_; clear ha a; intro b2948 a hb2949 ha
            refine stepos (encI .u8) (0 : Int) ha HW 0 (sz := 1) (e := 5) (fun _ => rfl) (v := .slice A2930 x2929.length c2931) (xs := x2929) KR hb2949 x2933 hA2946 (show (x2933 : Int) < ((x2929).length : Int) from hA2947) 5 0 (.tmp 26) (.tmp 25) (.int .u8 (IntKind.wrap .u8 (Int.tmod x2928 256))) (IntKind.wrap .u8 (Int.tmod x2928 256)) rfl KR KR KR KR KR KR KR (.slice A2930 (x2929.set (x2933 : Int).toNat (IntKind.wrap .u8 (Int.tmod x2928 256))).length c2931) (by rw [List.length_set]) ?_; clear ha HW a; intro a W2950 HW ha
            replace ha := ha.turn 5 (v := .slice A2930 (x2929.set (x2933 : Int).toNat (IntKind.wrap .u8 (Int.tmod x2928 256))).length c2931) KR (by rw [List.length_set])
            replace ha := ha.turn 21 (v := .slice A2930 (x2929.set (x2933 : Int).toNat (IntKind.wrap .u8 (Int.tmod x2928 256))).length c2931) KR (by rw [List.length_set])
            replace HW : Wd w W2950 [] [⟨5, 1, .slice A2930 (x2929.set (x2933 : Int).toNat (IntKind.wrap .u8 (Int.tmod x2928 256))).length c2931, (x2929.set (x2933 : Int).toNat (IntKind.wrap .u8 (Int.tmod x2928 256))).length, encs (encI .u8) (x2929.set (x2933 : Int).toNat (IntKind.wrap .u8 (Int.tmod x2928 256)))⟩] := HW
            refine endl ?_
            refine thenN (hK2945 _ _ ?_); clear hK2945
            refine wp_region_lit ?_
            refine stepp ha 27 (.int .u64 x2928) KR KR ?_; clear ha a; intro a ha
            refine stepp ha 28 (.int .u64 (IntKind.wrap .u64 (Int.tdiv x2928 256))) KR KR ?_; clear ha a; intro a ha
            refine stepp ha 0 (.int .u64 (IntKind.wrap .u64 (Int.tdiv x2928 256))) KR KR ?_; clear ha a; intro a ha
            refine endl ?_
            refine blkN ?_
            refine thenN (hK2943 _ _ ?_); clear hK2943
            refine wp_region_lit ?_
            refine stepp ha 19 (.int .i64 x2933) KR KR ?_; clear ha a; intro a ha
            refine stepp ha 20 (.int .i64 (IntKind.wrap .i64 (x2933 - 1))) KR KR ?_; clear ha a; intro a ha
            refine stepp ha 6 (.int .i64 (IntKind.wrap .i64 (x2933 - 1))) KR KR ?_; clear ha a; intro a ha
            refine endl ?_
            exact thenN ⟨k2935, Nat.lt_succ_self k2935, IntKind.wrap .u64 (Int.tdiv x2928 256), x2929.set (x2933 : Int).toNat (IntKind.wrap .u8 (Int.tmod x2928 256)), A2930, c2931, IntKind.wrap .i64 (x2933 - 1), (by rw [← hag2936]; exact h), ha.sub (subs_cons KR (subs_cons KR (subs_cons KR (subs_nil _)))), HW.pick [] [0] (by decide) (by decide) KR KR⟩
          · skip
            replace h := ite_neg' h hp2941
            refine condF ha KR KR (t := decide (x2933 ≥ 0)) (decide_eq_false hp2941) ?_
            refine wp_exit ?_
            refine thenE ?_
            refine thenE ?_
            refine inBlk ?_
            refine thenN (hK2888 _ _ ?_); clear hK2888
            refine wp_seq_k (fun K2951 hK2952 => ?_)
            refine wp_region_lit ?_
            refine stepp ha 29 (.slice A2930 x2929.length c2931) KR KR ?_; clear ha a; intro a ha
            refine stepbt ha 30 56 9 5 (.tmp 29) (v := .slice A2930 x2929.length c2931) (xs := x2929) (HW.rdo (i := 0) (q := ⟨5, 1, .slice A2930 x2929.length c2931, x2929.length, encs (encI .u8) x2929⟩) KR) rfl KR KR KR KR KR ?_; clear ha a; intro a ha
            refine stepp ha 4 (.string (strOfNums x2929)) KR KR ?_; clear ha a; intro a ha
            refine endl ?_
            refine thenN (hK2952 _ _ ?_); clear hK2952
            refine wp_ret ?_
            obtain rfl := Option.some.inj h
            exact finv ha _ _ rfl (.tmp (v := .string (strOfNums x2929)) KR .nil) (.string (strOfNums x2929)) rfl ⟨rfl, HW.pick [] [] (by decide) (by decide) rfl KR⟩
/-! ### headgate/headgateref15.put: function 40 -/
def headgateref15_put.f (K : Nat) (a0 : ByteArray) (a1 : Int) (a2 : Int) (a3 : Int) : Option ByteArray :=
  (headgateref01_PutBig.f K (IntKind.wrap .u64 a2) a3).bind fun t2957 => ((headgateref01_Put.f a0 a1 t2957).bind fun t2961 => (some t2961))
set_option maxRecDepth 100000 in
set_option maxHeartbeats 4000000 in
theorem headgateref15_put.calls (K : Nat) (a0 : ByteArray) (a1 : Int) (a2 : Int) (a3 : Int)  (r : ByteArray) (w : World)  (h : headgateref15_put.f K a0 a1 a2 a3 = some r) :
    Calls Tryd.prog 40 #[.string a0, .int .i64 a1, .int .i64 a2, .int .i64 a3] w (fun e W' => e = .returned (.string r) ∧ Wd w W' [] [] ) := by
  refine sxstart (n := 16) (l := [(0, .string a0), (1, .int .i64 a1), (2, .int .i64 a2), (3, .int .i64 a3)]) Tryd.func40 rfl rfl (Nat.le_of_ble_eq_true KR) (subsA_cons rfl (subsA_cons rfl (subsA_cons rfl (subsA_cons rfl (subsA_nil _))))) ?_
  intro a ha
  have HW := Wd.refl w
  unfold headgateref15_put.f at h
  refine wp_seq_k (fun K2953 hK2954 => ?_)
  refine wp_region_lit ?_
  refine stepp ha 8 (.string (⟨#[]⟩ : ByteArray)) KR KR ?_; clear ha a; intro a ha
  refine endl ?_
  refine thenN (hK2954 _ _ ?_); clear hK2954
  refine wp_seq_k (fun K2955 hK2956 => ?_)
  refine wp_region_lit ?_
  refine stepp ha 9 (.string a0) KR KR ?_; clear ha a; intro a ha
  refine stepp ha 10 (.int .i64 a1) KR KR ?_; clear ha a; intro a ha
  refine stepp ha 11 (.int .i64 a2) KR KR ?_; clear ha a; intro a ha
  refine stepp ha 12 (.int .u64 (IntKind.wrap .u64 a2)) KR KR ?_; clear ha a; intro a ha
  refine stepp ha 13 (.int .i64 a3) KR KR ?_; clear ha a; intro a ha
  obtain ⟨t2957, ht2958, h_⟩ := bind_some' h; clear h; have h := h_; clear h_
  refine stepc ha 14 KR KR (headgateref01_PutBig.calls K (IntKind.wrap .u64 a2) a3 t2957 _ ht2958) ?_; clear ha a; rintro e W2959 ⟨rfl, HX2960⟩
  refine ⟨_, rfl, ?_⟩; intro a ha; replace HW := HW.callw HX2960; clear HX2960
  obtain ⟨t2961, ht2962, h_⟩ := bind_some' h; clear h; have h := h_; clear h_
  refine stepc ha 15 KR KR (headgateref01_Put.calls a0 a1 t2957 t2961 _ ht2962) ?_; clear ha a; rintro e W2963 ⟨rfl, HX2964⟩
  refine ⟨_, rfl, ?_⟩; intro a ha; replace HW := HW.callw HX2964; clear HX2964
  refine stepp ha 8 (.string t2961) KR KR ?_; clear ha a; intro a ha
  refine endl ?_
  refine thenN (hK2956 _ _ ?_); clear hK2956
  refine wp_ret ?_
  obtain rfl := Option.some.inj h
  exact finv ha _ _ rfl (.tmp (v := .string t2961) KR .nil) (.string t2961) rfl ⟨rfl, HW.pick [] [] (by decide) (by decide) rfl KR⟩
end Go.Proofs.YtpjcipadjegmlaaDoor.F
