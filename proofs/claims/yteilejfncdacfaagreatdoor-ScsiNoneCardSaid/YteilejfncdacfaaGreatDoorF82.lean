/- headgate/headgateref15.Length, headgate/headgateref15.num, headgate/headgateref15.reservation: plain functions, and that the calls come to what they say. No condition. -/
import Derived.Test.YteilejfncdacfaaGreatDoorFT
import Derived.Test.YteilejfncdacfaaGreatDoorF263
namespace Go.Proofs.YteilejfncdacfaaGreatDoor.F
open Go Go.RowKit Go.Proofs.YteilejfncdacfaaGreatDoor.X
set_option linter.unusedVariables false
set_option linter.unusedSimpArgs false
/-! ### headgate/headgateref15.Length: function 82 -/
def headgateref15_Length.j1 (K : Nat) (a0 : ByteArray) (x6707 : Bool) : Option Int :=
  if x6707 = true then (some 10) else (if (bt a0 0) = 160 then (some 12) else (if (bt a0 0) = 136 then (some 16) else (if (bt a0 0) = 137 then (some 16) else (if (bt a0 0) = 138 then (some 16) else (if (bt a0 0) = 147 then (some 16) else (some 0))))))
def headgateref15_Length.j0 (K : Nat) (a0 : ByteArray) (x6682 : Bool) : Option Int :=
  if x6682 = true then (some 6) else (if (bt a0 0) = 37 then (headgateref15_Length.j1 K a0 ((bt a0 0) == 37)) else (if (bt a0 0) = 40 then (headgateref15_Length.j1 K a0 ((bt a0 0) == 40)) else (if (bt a0 0) = 42 then (headgateref15_Length.j1 K a0 ((bt a0 0) == 42)) else (if (bt a0 0) = 53 then (headgateref15_Length.j1 K a0 ((bt a0 0) == 53)) else (if (bt a0 0) = 66 then (headgateref15_Length.j1 K a0 ((bt a0 0) == 66)) else (if (bt a0 0) = 94 then (headgateref15_Length.j1 K a0 ((bt a0 0) == 94)) else (headgateref15_Length.j1 K a0 ((bt a0 0) == 95))))))))
def headgateref15_Length.f (K : Nat) (a0 : ByteArray) : Option Int :=
  if a0 = (⟨#[]⟩ : ByteArray) then (some 0) else (asrt (0 < (a0.size : Int)) (if (bt a0 0) = 0 then (headgateref15_Length.j0 K a0 ((bt a0 0) == 0)) else (headgateref15_Length.j0 K a0 ((bt a0 0) == 18))))
set_option maxRecDepth 100000 in
set_option maxHeartbeats 4000000 in
theorem headgateref15_Length.calls (K : Nat) (a0 : ByteArray)  (r : Int) (w : World)  (h : headgateref15_Length.f K a0 = some r) :
    Calls Tryz.prog 82 #[.string a0] w (fun e W' => e = .returned (.int .i64 r) ∧ Wd w W' [] [] ) := by
  refine sxstart (n := 25) (l := [(0, .string a0)]) Tryz.func82 rfl rfl (Nat.le_of_ble_eq_true KR) (subsA_cons rfl (subsA_nil _)) ?_
  intro a ha
  have HW := Wd.refl w
  unfold headgateref15_Length.f at h
  refine wp_seq_k (fun K6663 hK6664 => ?_)
  refine wp_region_lit ?_
  refine stepp ha 2 (.int .i64 0) KR KR ?_; clear ha a; intro a ha
  refine endl ?_
  refine thenN (hK6664 _ _ ?_); clear hK6664
  refine wp_seq_k (fun K6665 hK6666 => ?_)
  refine wp_seq_k (fun K6667 hK6668 => ?_)
  refine wp_region_lit ?_
  refine stepp ha 3 (.string a0) KR KR ?_; clear ha a; intro a ha
  refine stepp ha 4 (.bool (a0.toList == (⟨#[]⟩ : ByteArray).toList)) KR KR ?_; clear ha a; intro a ha
  refine endl ?_
  refine thenN (hK6668 _ _ ?_); clear hK6668
  by_cases hp6669 : a0 = (⟨#[]⟩ : ByteArray)
  · skip
    replace h := ite_pos' h hp6669
    refine condT ha KR KR (t := (a0.toList == (⟨#[]⟩ : ByteArray).toList)) (str_eq_t hp6669) ?_
    refine wp_seq_k (fun K6670 hK6671 => ?_)
    refine wp_region_lit ?_
    refine stepp ha 2 (.int .i64 0) KR KR ?_; clear ha a; intro a ha
    refine endl ?_
    refine thenN (hK6671 _ _ ?_); clear hK6671
    refine wp_ret ?_
    refine thenR ?_
    obtain rfl := Option.some.inj h
    exact finv ha _ _ rfl (.tmp (v := .int .i64 0) KR .nil) (.int .i64 0) rfl ⟨rfl, HW.pick [] [] (by decide) (by decide) rfl KR⟩
  · skip
    replace h := ite_neg' h hp6669
    refine condF ha KR KR (t := (a0.toList == (⟨#[]⟩ : ByteArray).toList)) (str_eq_f hp6669) ?_
    refine wp_skip ?_
    refine thenN (hK6666 _ _ ?_); clear hK6666
    refine wp_seq_k (fun K6672 hK6673 => ?_)
    refine wp_seq_k (fun K6674 hK6675 => ?_)
    refine wp_region_lit ?_
    refine stepp ha 5 (.string a0) KR KR ?_; clear ha a; intro a ha
    obtain ⟨hA6676, h_⟩ := asrt_some h; clear h; have h := h_; clear h_
    refine stepsi ha 6 9 (.tmp 5) (.const (.int .i64 0)) a0 .i64 0 rfl KR KR KR (by decide) (show (0 : Int) < ((a0).size : Int) from hA6676) KR ?_; clear ha a; intro a ha
    refine endl ?_
    refine thenN (hK6675 _ _ ?_); clear hK6675
    refine wp_block ?_
    refine wp_seq_k (fun K6677 hK6678 => ?_)
    refine cutn (fun a W6683 => ∃ (x6682 : Bool), headgateref15_Length.j0 K a0 x6682 = some r ∧ Has 25 [(6, .int .u8 (bt a0 0)), (7, .bool x6682)] a ∧ Wd w W6683 [] []) ?_ ?_
    · skip
      refine wp_seq_k (fun K6679 hK6680 => ?_)
      refine wp_region_lit ?_
      refine stepp ha 8 (.bool ((bt a0 0) == 0)) KR KR ?_; clear ha a; intro a ha
      refine stepp ha 7 (.bool ((bt a0 0) == 0)) KR KR ?_; clear ha a; intro a ha
      refine endl ?_
      refine thenN (hK6680 _ _ ?_); clear hK6680
      by_cases hp6681 : (bt a0 0) = 0
      · skip
        replace h := ite_pos' h hp6681
        refine condT ha KR KR (t := ((bt a0 0) == 0)) (ieq_t hp6681) ?_
        refine wp_skip ?_
        exact thenN ⟨((bt a0 0) == 0), h, ha.sub (subs_cons KR (subs_cons KR (subs_nil _))), HW.pick [] [] (by decide) (by decide) KR KR⟩
      · skip
        replace h := ite_neg' h hp6681
        refine condF ha KR KR (t := ((bt a0 0) == 0)) (ieq_f hp6681) ?_
        refine wp_region_lit ?_
        refine stepp ha 9 (.bool ((bt a0 0) == 18)) KR KR ?_; clear ha a; intro a ha
        refine stepp ha 7 (.bool ((bt a0 0) == 18)) KR KR ?_; clear ha a; intro a ha
        refine endl ?_
        exact thenN ⟨((bt a0 0) == 18), h, ha.sub (subs_cons KR (subs_cons KR (subs_nil _))), HW.pick [] [] (by decide) (by decide) KR KR⟩
    · skip
      intro a W6683 hJ
      obtain ⟨x6682, h, ha, HW⟩ := hJ
      replace h : headgateref15_Length.j0 K a0 x6682 = some r := h
      unfold headgateref15_Length.j0 at h
      refine hK6678 _ _ ?_; clear hK6678
      by_cases hp6684 : x6682 = true
      · skip
        replace h := ite_pos' h hp6684
        refine condT ha KR KR (t := x6682) (hp6684) ?_
        refine wp_seq_k (fun K6685 hK6686 => ?_)
        refine wp_region_lit ?_
        refine stepp ha 2 (.int .i64 6) KR KR ?_; clear ha a; intro a ha
        refine endl ?_
        refine thenN (hK6686 _ _ ?_); clear hK6686
        refine wp_ret ?_
        refine blkR ?_
        refine thenR ?_
        obtain rfl := Option.some.inj h
        exact finv ha _ _ rfl (.tmp (v := .int .i64 6) KR .nil) (.int .i64 6) rfl ⟨rfl, HW.pick [] [] (by decide) (by decide) rfl KR⟩
      · skip
        replace h := ite_neg' h hp6684
        refine condF ha KR KR (t := x6682) (bool_f hp6684) ?_
        refine wp_seq_k (fun K6687 hK6688 => ?_)
        refine cutn (fun a W6708 => ∃ (x6707 : Bool), headgateref15_Length.j1 K a0 x6707 = some r ∧ Has 25 [(6, .int .u8 (bt a0 0)), (10, .bool x6707)] a ∧ Wd w W6708 [] []) ?_ ?_
        · skip
          refine wp_seq_k (fun K6689 hK6690 => ?_)
          refine wp_region_lit ?_
          refine stepp ha 11 (.bool ((bt a0 0) == 37)) KR KR ?_; clear ha a; intro a ha
          refine stepp ha 10 (.bool ((bt a0 0) == 37)) KR KR ?_; clear ha a; intro a ha
          refine endl ?_
          refine thenN (hK6690 _ _ ?_); clear hK6690
          by_cases hp6691 : (bt a0 0) = 37
          · skip
            replace h := ite_pos' h hp6691
            refine condT ha KR KR (t := ((bt a0 0) == 37)) (ieq_t hp6691) ?_
            refine wp_skip ?_
            exact thenN ⟨((bt a0 0) == 37), h, ha.sub (subs_cons KR (subs_cons KR (subs_nil _))), HW.pick [] [] (by decide) (by decide) KR KR⟩
          · skip
            replace h := ite_neg' h hp6691
            refine condF ha KR KR (t := ((bt a0 0) == 37)) (ieq_f hp6691) ?_
            refine wp_seq_k (fun K6692 hK6693 => ?_)
            refine wp_region_lit ?_
            refine stepp ha 12 (.bool ((bt a0 0) == 40)) KR KR ?_; clear ha a; intro a ha
            refine stepp ha 10 (.bool ((bt a0 0) == 40)) KR KR ?_; clear ha a; intro a ha
            refine endl ?_
            refine thenN (hK6693 _ _ ?_); clear hK6693
            by_cases hp6694 : (bt a0 0) = 40
            · skip
              replace h := ite_pos' h hp6694
              refine condT ha KR KR (t := ((bt a0 0) == 40)) (ieq_t hp6694) ?_
              refine wp_skip ?_
              exact thenN ⟨((bt a0 0) == 40), h, ha.sub (subs_cons KR (subs_cons KR (subs_nil _))), HW.pick [] [] (by decide) (by decide) KR KR⟩
            · skip
              replace h := ite_neg' h hp6694
              refine condF ha KR KR (t := ((bt a0 0) == 40)) (ieq_f hp6694) ?_
              refine wp_seq_k (fun K6695 hK6696 => ?_)
              refine wp_region_lit ?_
              refine stepp ha 13 (.bool ((bt a0 0) == 42)) KR KR ?_; clear ha a; intro a ha
              refine stepp ha 10 (.bool ((bt a0 0) == 42)) KR KR ?_; clear ha a; intro a ha
              refine endl ?_
              refine thenN (hK6696 _ _ ?_); clear hK6696
              by_cases hp6697 : (bt a0 0) = 42
              · skip
                replace h := ite_pos' h hp6697
                refine condT ha KR KR (t := ((bt a0 0) == 42)) (ieq_t hp6697) ?_
                refine wp_skip ?_
                exact thenN ⟨((bt a0 0) == 42), h, ha.sub (subs_cons KR (subs_cons KR (subs_nil _))), HW.pick [] [] (by decide) (by decide) KR KR⟩
              · skip
                replace h := ite_neg' h hp6697
                refine condF ha KR KR (t := ((bt a0 0) == 42)) (ieq_f hp6697) ?_
                refine wp_seq_k (fun K6698 hK6699 => ?_)
                refine wp_region_lit ?_
                refine stepp ha 14 (.bool ((bt a0 0) == 53)) KR KR ?_; clear ha a; intro a ha
                refine stepp ha 10 (.bool ((bt a0 0) == 53)) KR KR ?_; clear ha a; intro a ha
                refine endl ?_
                refine thenN (hK6699 _ _ ?_); clear hK6699
                by_cases hp6700 : (bt a0 0) = 53
                · skip
                  replace h := ite_pos' h hp6700
                  refine condT ha KR KR (t := ((bt a0 0) == 53)) (ieq_t hp6700) ?_
                  refine wp_skip ?_
                  exact thenN ⟨((bt a0 0) == 53), h, ha.sub (subs_cons KR (subs_cons KR (subs_nil _))), HW.pick [] [] (by decide) (by decide) KR KR⟩
                · skip
                  replace h := ite_neg' h hp6700
                  refine condF ha KR KR (t := ((bt a0 0) == 53)) (ieq_f hp6700) ?_
                  refine wp_seq_k (fun K6701 hK6702 => ?_)
                  refine wp_region_lit ?_
                  refine stepp ha 15 (.bool ((bt a0 0) == 66)) KR KR ?_; clear ha a; intro a ha
                  refine stepp ha 10 (.bool ((bt a0 0) == 66)) KR KR ?_; clear ha a; intro a ha
                  refine endl ?_
                  refine thenN (hK6702 _ _ ?_); clear hK6702
                  by_cases hp6703 : (bt a0 0) = 66
                  · skip
                    replace h := ite_pos' h hp6703
                    refine condT ha KR KR (t := ((bt a0 0) == 66)) (ieq_t hp6703) ?_
                    refine wp_skip ?_
                    exact thenN ⟨((bt a0 0) == 66), h, ha.sub (subs_cons KR (subs_cons KR (subs_nil _))), HW.pick [] [] (by decide) (by decide) KR KR⟩
                  · skip
                    replace h := ite_neg' h hp6703
                    refine condF ha KR KR (t := ((bt a0 0) == 66)) (ieq_f hp6703) ?_
                    refine wp_seq_k (fun K6704 hK6705 => ?_)
                    refine wp_region_lit ?_
                    refine stepp ha 16 (.bool ((bt a0 0) == 94)) KR KR ?_; clear ha a; intro a ha
                    refine stepp ha 10 (.bool ((bt a0 0) == 94)) KR KR ?_; clear ha a; intro a ha
                    refine endl ?_
                    refine thenN (hK6705 _ _ ?_); clear hK6705
                    by_cases hp6706 : (bt a0 0) = 94
                    · skip
                      replace h := ite_pos' h hp6706
                      refine condT ha KR KR (t := ((bt a0 0) == 94)) (ieq_t hp6706) ?_
                      refine wp_skip ?_
                      exact thenN ⟨((bt a0 0) == 94), h, ha.sub (subs_cons KR (subs_cons KR (subs_nil _))), HW.pick [] [] (by decide) (by decide) KR KR⟩
                    · skip
                      replace h := ite_neg' h hp6706
                      refine condF ha KR KR (t := ((bt a0 0) == 94)) (ieq_f hp6706) ?_
                      refine wp_region_lit ?_
                      refine stepp ha 17 (.bool ((bt a0 0) == 95)) KR KR ?_; clear ha a; intro a ha
                      refine stepp ha 10 (.bool ((bt a0 0) == 95)) KR KR ?_; clear ha a; intro a ha
                      refine endl ?_
                      exact thenN ⟨((bt a0 0) == 95), h, ha.sub (subs_cons KR (subs_cons KR (subs_nil _))), HW.pick [] [] (by decide) (by decide) KR KR⟩
        · skip
          intro a W6708 hJ
          obtain ⟨x6707, h, ha, HW⟩ := hJ
          replace h : headgateref15_Length.j1 K a0 x6707 = some r := h
          unfold headgateref15_Length.j1 at h
          refine hK6688 _ _ ?_; clear hK6688
          by_cases hp6709 : x6707 = true
          · skip
            replace h := ite_pos' h hp6709
            refine condT ha KR KR (t := x6707) (hp6709) ?_
            refine wp_seq_k (fun K6710 hK6711 => ?_)
            refine wp_region_lit ?_
            refine stepp ha 2 (.int .i64 10) KR KR ?_; clear ha a; intro a ha
            refine endl ?_
            refine thenN (hK6711 _ _ ?_); clear hK6711
            refine wp_ret ?_
            refine blkR ?_
            refine thenR ?_
            obtain rfl := Option.some.inj h
            exact finv ha _ _ rfl (.tmp (v := .int .i64 10) KR .nil) (.int .i64 10) rfl ⟨rfl, HW.pick [] [] (by decide) (by decide) rfl KR⟩
          · skip
            replace h := ite_neg' h hp6709
            refine condF ha KR KR (t := x6707) (bool_f hp6709) ?_
            refine wp_seq_k (fun K6712 hK6713 => ?_)
            refine wp_region_lit ?_
            refine stepp ha 19 (.bool ((bt a0 0) == 160)) KR KR ?_; clear ha a; intro a ha
            refine stepp ha 18 (.bool ((bt a0 0) == 160)) KR KR ?_; clear ha a; intro a ha
            refine endl ?_
            refine thenN (hK6713 _ _ ?_); clear hK6713
            by_cases hp6714 : (bt a0 0) = 160
            · skip
              replace h := ite_pos' h hp6714
              refine condT ha KR KR (t := ((bt a0 0) == 160)) (ieq_t hp6714) ?_
              refine wp_seq_k (fun K6715 hK6716 => ?_)
              refine wp_region_lit ?_
              refine stepp ha 2 (.int .i64 12) KR KR ?_; clear ha a; intro a ha
              refine endl ?_
              refine thenN (hK6716 _ _ ?_); clear hK6716
              refine wp_ret ?_
              refine blkR ?_
              refine thenR ?_
              obtain rfl := Option.some.inj h
              exact finv ha _ _ rfl (.tmp (v := .int .i64 12) KR .nil) (.int .i64 12) rfl ⟨rfl, HW.pick [] [] (by decide) (by decide) rfl KR⟩
            · skip
              replace h := ite_neg' h hp6714
              refine condF ha KR KR (t := ((bt a0 0) == 160)) (ieq_f hp6714) ?_
              refine wp_seq_k (fun K6717 hK6718 => ?_)
              refine wp_seq_k (fun K6719 hK6720 => ?_)
              refine wp_region_lit ?_
              refine stepp ha 21 (.bool ((bt a0 0) == 136)) KR KR ?_; clear ha a; intro a ha
              refine stepp ha 20 (.bool ((bt a0 0) == 136)) KR KR ?_; clear ha a; intro a ha
              refine endl ?_
              refine thenN (hK6720 _ _ ?_); clear hK6720
              by_cases hp6721 : (bt a0 0) = 136
              · skip
                replace h := ite_pos' h hp6721
                refine condT ha KR KR (t := ((bt a0 0) == 136)) (ieq_t hp6721) ?_
                refine wp_skip ?_
                refine thenN (hK6718 _ _ ?_); clear hK6718
                refine condT ha KR KR (t := ((bt a0 0) == 136)) (ieq_t hp6721) ?_
                refine wp_seq_k (fun K6728 hK6729 => ?_)
                refine wp_region_lit ?_
                refine stepp ha 2 (.int .i64 16) KR KR ?_; clear ha a; intro a ha
                refine endl ?_
                refine thenN (hK6729 _ _ ?_); clear hK6729
                refine wp_ret ?_
                refine blkR ?_
                refine thenR ?_
                obtain rfl := Option.some.inj h
                exact finv ha _ _ rfl (.tmp (v := .int .i64 16) KR .nil) (.int .i64 16) rfl ⟨rfl, HW.pick [] [] (by decide) (by decide) rfl KR⟩
              · skip
                replace h := ite_neg' h hp6721
                refine condF ha KR KR (t := ((bt a0 0) == 136)) (ieq_f hp6721) ?_
                refine wp_seq_k (fun K6722 hK6723 => ?_)
                refine wp_region_lit ?_
                refine stepp ha 22 (.bool ((bt a0 0) == 137)) KR KR ?_; clear ha a; intro a ha
                refine stepp ha 20 (.bool ((bt a0 0) == 137)) KR KR ?_; clear ha a; intro a ha
                refine endl ?_
                refine thenN (hK6723 _ _ ?_); clear hK6723
                by_cases hp6724 : (bt a0 0) = 137
                · skip
                  replace h := ite_pos' h hp6724
                  refine condT ha KR KR (t := ((bt a0 0) == 137)) (ieq_t hp6724) ?_
                  refine wp_skip ?_
                  refine thenN (hK6718 _ _ ?_); clear hK6718
                  refine condT ha KR KR (t := ((bt a0 0) == 137)) (ieq_t hp6724) ?_
                  refine wp_seq_k (fun K6730 hK6731 => ?_)
                  refine wp_region_lit ?_
                  refine stepp ha 2 (.int .i64 16) KR KR ?_; clear ha a; intro a ha
                  refine endl ?_
                  refine thenN (hK6731 _ _ ?_); clear hK6731
                  refine wp_ret ?_
                  refine blkR ?_
                  refine thenR ?_
                  obtain rfl := Option.some.inj h
                  exact finv ha _ _ rfl (.tmp (v := .int .i64 16) KR .nil) (.int .i64 16) rfl ⟨rfl, HW.pick [] [] (by decide) (by decide) rfl KR⟩
                · skip
                  replace h := ite_neg' h hp6724
                  refine condF ha KR KR (t := ((bt a0 0) == 137)) (ieq_f hp6724) ?_
                  refine wp_seq_k (fun K6725 hK6726 => ?_)
                  refine wp_region_lit ?_
                  refine stepp ha 23 (.bool ((bt a0 0) == 138)) KR KR ?_; clear ha a; intro a ha
                  refine stepp ha 20 (.bool ((bt a0 0) == 138)) KR KR ?_; clear ha a; intro a ha
                  refine endl ?_
                  refine thenN (hK6726 _ _ ?_); clear hK6726
                  by_cases hp6727 : (bt a0 0) = 138
                  · skip
                    replace h := ite_pos' h hp6727
                    refine condT ha KR KR (t := ((bt a0 0) == 138)) (ieq_t hp6727) ?_
                    refine wp_skip ?_
                    refine thenN (hK6718 _ _ ?_); clear hK6718
                    refine condT ha KR KR (t := ((bt a0 0) == 138)) (ieq_t hp6727) ?_
                    refine wp_seq_k (fun K6732 hK6733 => ?_)
                    refine wp_region_lit ?_
                    refine stepp ha 2 (.int .i64 16) KR KR ?_; clear ha a; intro a ha
                    refine endl ?_
                    refine thenN (hK6733 _ _ ?_); clear hK6733
                    refine wp_ret ?_
                    refine blkR ?_
                    refine thenR ?_
                    obtain rfl := Option.some.inj h
                    exact finv ha _ _ rfl (.tmp (v := .int .i64 16) KR .nil) (.int .i64 16) rfl ⟨rfl, HW.pick [] [] (by decide) (by decide) rfl KR⟩
                  · skip
                    replace h := ite_neg' h hp6727
                    refine condF ha KR KR (t := ((bt a0 0) == 138)) (ieq_f hp6727) ?_
                    refine wp_region_lit ?_
                    refine stepp ha 24 (.bool ((bt a0 0) == 147)) KR KR ?_; clear ha a; intro a ha
                    refine stepp ha 20 (.bool ((bt a0 0) == 147)) KR KR ?_; clear ha a; intro a ha
                    refine endl ?_
                    refine thenN (hK6718 _ _ ?_); clear hK6718
                    by_cases hp6734 : (bt a0 0) = 147
                    · skip
                      replace h := ite_pos' h hp6734
                      refine condT ha KR KR (t := ((bt a0 0) == 147)) (ieq_t hp6734) ?_
                      refine wp_seq_k (fun K6735 hK6736 => ?_)
                      refine wp_region_lit ?_
                      refine stepp ha 2 (.int .i64 16) KR KR ?_; clear ha a; intro a ha
                      refine endl ?_
                      refine thenN (hK6736 _ _ ?_); clear hK6736
                      refine wp_ret ?_
                      refine blkR ?_
                      refine thenR ?_
                      obtain rfl := Option.some.inj h
                      exact finv ha _ _ rfl (.tmp (v := .int .i64 16) KR .nil) (.int .i64 16) rfl ⟨rfl, HW.pick [] [] (by decide) (by decide) rfl KR⟩
                    · skip
                      replace h := ite_neg' h hp6734
                      refine condF ha KR KR (t := ((bt a0 0) == 147)) (ieq_f hp6734) ?_
                      refine wp_skip ?_
                      refine blkN ?_
                      refine thenN (hK6673 _ _ ?_); clear hK6673
                      refine wp_seq_k (fun K6737 hK6738 => ?_)
                      refine wp_region_lit ?_
                      refine stepp ha 2 (.int .i64 0) KR KR ?_; clear ha a; intro a ha
                      refine endl ?_
                      refine thenN (hK6738 _ _ ?_); clear hK6738
                      refine wp_ret ?_
                      obtain rfl := Option.some.inj h
                      exact finv ha _ _ rfl (.tmp (v := .int .i64 0) KR .nil) (.int .i64 0) rfl ⟨rfl, HW.pick [] [] (by decide) (by decide) rfl KR⟩
/-! ### headgate/headgateref15.num: function 133 -/
def headgateref15_num.f (K : Nat) (a0 : ByteArray) (a1 : Int) (a2 : Int) : Option Int :=
  (headgateref01_Big.f K a0 a1 a2).bind fun t6743 => (if t6743.1 > 1099511627776 then (some 1099511627776) else (some (IntKind.wrap .i64 t6743.1)))
set_option maxRecDepth 100000 in
set_option maxHeartbeats 4000000 in
theorem headgateref15_num.calls (K : Nat) (a0 : ByteArray) (a1 : Int) (a2 : Int)  (r : Int) (w : World)  (h : headgateref15_num.f K a0 a1 a2 = some r) :
    Calls Tryz.prog 133 #[.string a0, .int .i64 a1, .int .i64 a2] w (fun e W' => e = .returned (.int .i64 r) ∧ Wd w W' [] [] ) := by
  refine sxstart (n := 20) (l := [(0, .string a0), (1, .int .i64 a1), (2, .int .i64 a2)]) Tryz.func133 rfl rfl (Nat.le_of_ble_eq_true KR) (subsA_cons rfl (subsA_cons rfl (subsA_cons rfl (subsA_nil _)))) ?_
  intro a ha
  have HW := Wd.refl w
  unfold headgateref15_num.f at h
  refine wp_seq_k (fun K6739 hK6740 => ?_)
  refine wp_region_lit ?_
  refine stepp ha 6 (.int .i64 0) KR KR ?_; clear ha a; intro a ha
  refine endl ?_
  refine thenN (hK6740 _ _ ?_); clear hK6740
  refine wp_seq_k (fun K6741 hK6742 => ?_)
  refine wp_region_lit ?_
  refine stepp ha 10 (.string a0) KR KR ?_; clear ha a; intro a ha
  refine stepp ha 11 (.int .i64 a1) KR KR ?_; clear ha a; intro a ha
  refine stepp ha 12 (.int .i64 a2) KR KR ?_; clear ha a; intro a ha
  obtain ⟨t6743, ht6744, h_⟩ := bind_some' h; clear h; have h := h_; clear h_
  refine stepc ha 13 KR KR (headgateref01_Big.calls K a0 a1 a2 t6743 _ ht6744) ?_; clear ha a; rintro e W6745 ⟨rfl, HX6746⟩
  refine ⟨_, rfl, ?_⟩; intro a ha; replace HW := HW.callw HX6746; clear HX6746
  refine stepp ha 9 (.tuple #[.int .u64 t6743.1, .bool t6743.2]) KR KR ?_; clear ha a; intro a ha
  refine stepp ha 14 (.int .u64 t6743.1) KR KR ?_; clear ha a; intro a ha
  refine stepp ha 15 (.bool t6743.2) KR KR ?_; clear ha a; intro a ha
  refine stepp ha 7 (.int .u64 t6743.1) KR KR ?_; clear ha a; intro a ha
  refine stepp ha 8 (.bool t6743.2) KR KR ?_; clear ha a; intro a ha
  refine endl ?_
  refine thenN (hK6742 _ _ ?_); clear hK6742
  refine wp_seq_k (fun K6747 hK6748 => ?_)
  refine wp_seq_k (fun K6749 hK6750 => ?_)
  refine wp_region_lit ?_
  refine stepp ha 16 (.int .u64 t6743.1) KR KR ?_; clear ha a; intro a ha
  refine stepp ha 17 (.bool (decide (t6743.1 > 1099511627776))) KR KR ?_; clear ha a; intro a ha
  refine endl ?_
  refine thenN (hK6750 _ _ ?_); clear hK6750
  by_cases hp6751 : t6743.1 > 1099511627776
  · skip
    replace h := ite_pos' h hp6751
    refine condT ha KR KR (t := decide (t6743.1 > 1099511627776)) (decide_eq_true hp6751) ?_
    refine wp_seq_k (fun K6752 hK6753 => ?_)
    refine wp_region_lit ?_
    refine stepp ha 6 (.int .i64 1099511627776) KR KR ?_; clear ha a; intro a ha
    refine endl ?_
    refine thenN (hK6753 _ _ ?_); clear hK6753
    refine wp_ret ?_
    refine thenR ?_
    obtain rfl := Option.some.inj h
    exact finv ha _ _ rfl (.tmp (v := .int .i64 1099511627776) KR .nil) (.int .i64 1099511627776) rfl ⟨rfl, HW.pick [] [] (by decide) (by decide) rfl KR⟩
  · skip
    replace h := ite_neg' h hp6751
    refine condF ha KR KR (t := decide (t6743.1 > 1099511627776)) (decide_eq_false hp6751) ?_
    refine wp_skip ?_
    refine thenN (hK6748 _ _ ?_); clear hK6748
    refine wp_seq_k (fun K6754 hK6755 => ?_)
    refine wp_region_lit ?_
    refine stepp ha 18 (.int .u64 t6743.1) KR KR ?_; clear ha a; intro a ha
    refine stepp ha 19 (.int .i64 (IntKind.wrap .i64 t6743.1)) KR KR ?_; clear ha a; intro a ha
    refine stepp ha 6 (.int .i64 (IntKind.wrap .i64 t6743.1)) KR KR ?_; clear ha a; intro a ha
    refine endl ?_
    refine thenN (hK6755 _ _ ?_); clear hK6755
    refine wp_ret ?_
    obtain rfl := Option.some.inj h
    exact finv ha _ _ rfl (.tmp (v := .int .i64 (IntKind.wrap .i64 t6743.1)) KR .nil) (.int .i64 (IntKind.wrap .i64 t6743.1)) rfl ⟨rfl, HW.pick [] [] (by decide) (by decide) rfl KR⟩
/-! ### headgate/headgateref15.reservation: function 134 -/
def headgateref15_reservation.j0 (K : Nat) (a0 : ByteArray) (a1 : T_headgateref15_Ask) (t6832 : Int) (x6864 : Bool) : Option (T_headgateref15_Ask × Int) :=
  if x6864 = true then ((headgateref15_Type.f (IntKind.wrap .i64 (bt a0 2))).bind fun t6869 => (if t6869 = 0 then (some ((⟨0, 0, 0, false, 0, 0, 0⟩ : T_headgateref15_Ask), 150)) else (some ((⟨IntKind.wrap .i64 ((IntKind.wrap .i64 (256 * (IntKind.wrap .i64 (bt a0 0)))) + (IntKind.wrap .i64 (Int.tmod (bt a0 1) 32))), a1.f1, a1.f2, a1.f3, a1.f4, t6832, t6869⟩ : T_headgateref15_Ask), 0)))) else (some ((⟨IntKind.wrap .i64 ((IntKind.wrap .i64 (256 * (IntKind.wrap .i64 (bt a0 0)))) + (IntKind.wrap .i64 (Int.tmod (bt a0 1) 32))), a1.f1, a1.f2, a1.f3, a1.f4, t6832, a1.f6⟩ : T_headgateref15_Ask), 0))
def headgateref15_reservation.f (K : Nat) (a0 : ByteArray) (a1 : T_headgateref15_Ask) : Option (T_headgateref15_Ask × Int) :=
  asrt (1 < (a0.size : Int)) (asrt (0 < (a0.size : Int)) (if (bt a0 0) = 94 then ((headgateref15_num.f K a0 7 2).bind fun t6814 => (if (IntKind.wrap .i64 (Int.tmod (bt a0 1) 32)) > 1 then (some ((⟨0, 0, 0, false, 0, 0, 0⟩ : T_headgateref15_Ask), 150)) else (some ((⟨IntKind.wrap .i64 ((IntKind.wrap .i64 (256 * (IntKind.wrap .i64 (bt a0 0)))) + (IntKind.wrap .i64 (Int.tmod (bt a0 1) 32))), a1.f1, a1.f2, a1.f3, a1.f4, t6814, a1.f6⟩ : T_headgateref15_Ask), 0)))) else ((headgateref15_num.f K a0 5 4).bind fun t6832 => (if t6832 = 24 then (asrt (2 < (a0.size : Int)) (if (bt a0 2) > 15 then (some ((⟨0, 0, 0, false, 0, 0, 0⟩ : T_headgateref15_Ask), 150)) else (if (IntKind.wrap .i64 (Int.tmod (bt a0 1) 32)) > 6 then (some ((⟨0, 0, 0, false, 0, 0, 0⟩ : T_headgateref15_Ask), 150)) else (if (IntKind.wrap .i64 (Int.tmod (bt a0 1) 32)) = 5 then (some ((⟨0, 0, 0, false, 0, 0, 0⟩ : T_headgateref15_Ask), 150)) else (if (IntKind.wrap .i64 (Int.tmod (bt a0 1) 32)) = 1 then (headgateref15_reservation.j0 K a0 a1 t6832 true) else (if (IntKind.wrap .i64 (Int.tmod (bt a0 1) 32)) = 2 then (headgateref15_reservation.j0 K a0 a1 t6832 true) else (headgateref15_reservation.j0 K a0 a1 t6832 ((IntKind.wrap .i64 (Int.tmod (bt a0 1) 32)) == 4)))))))) else (some ((⟨0, 0, 0, false, 0, 0, 0⟩ : T_headgateref15_Ask), 150))))))
set_option maxRecDepth 100000 in
set_option maxHeartbeats 4000000 in
theorem headgateref15_reservation.calls (K : Nat) (a0 : ByteArray) (a1 : T_headgateref15_Ask)  (r : T_headgateref15_Ask × Int) (w : World)  (h : headgateref15_reservation.f K a0 a1 = some r) :
    Calls Tryz.prog 134 #[.string a0, .agg #[.int .i64 a1.f0, .int .i64 a1.f1, .int .i64 a1.f2, .bool a1.f3, .int .i64 a1.f4, .int .i64 a1.f5, .int .i64 a1.f6]] w (fun e W' => e = .returned (.tuple #[.agg #[.int .i64 r.1.f0, .int .i64 r.1.f1, .int .i64 r.1.f2, .bool r.1.f3, .int .i64 r.1.f4, .int .i64 r.1.f5, .int .i64 r.1.f6], .int .i64 r.2]) ∧ Wd w W' [] [] ) := by
  refine sxstart (n := 68) (l := [(0, .string a0), (1, .agg #[.int .i64 a1.f0, .int .i64 a1.f1, .int .i64 a1.f2, .bool a1.f3, .int .i64 a1.f4, .int .i64 a1.f5, .int .i64 a1.f6])]) Tryz.func134 rfl rfl (Nat.le_of_ble_eq_true KR) (subsA_cons rfl (subsA_cons rfl (subsA_nil _))) ?_
  intro a ha
  have HW := Wd.refl w
  unfold headgateref15_reservation.f at h
  refine wp_seq_k (fun K6794 hK6795 => ?_)
  refine wp_region_lit ?_
  refine stepnew ha HW 3 #[.int .i64 a1.f0, .int .i64 a1.f1, .int .i64 a1.f2, .bool a1.f3, .int .i64 a1.f4, .int .i64 a1.f5, .int .i64 a1.f6] 73 KR KR ?_; clear ha HW a; intro b6796 a W6797 HW ha
  refine stepnew ha HW 4 #[.int .i64 0, .int .i64 0, .int .i64 0, .bool false, .int .i64 0, .int .i64 0, .int .i64 0] 73 KR KR ?_; clear ha HW a; intro b6798 a W6799 HW ha
  refine stepp ha 5 (.int .i64 0) KR KR ?_; clear ha a; intro a ha
  refine endl ?_
  refine thenN (hK6795 _ _ ?_); clear hK6795
  refine wp_seq_k (fun K6800 hK6801 => ?_)
  refine wp_region_lit ?_
  refine stepp ha 7 (.string a0) KR KR ?_; clear ha a; intro a ha
  obtain ⟨hA6802, h_⟩ := asrt_some h; clear h; have h := h_; clear h_
  refine stepsi ha 8 9 (.tmp 7) (.const (.int .i64 1)) a0 .i64 1 rfl KR KR KR (by decide) (show (1 : Int) < ((a0).size : Int) from hA6802) KR ?_; clear ha a; intro a ha
  refine stepp ha 9 (.int .u8 (Int.tmod (bt a0 1) 32)) KR KR ?_; clear ha a; intro a ha
  refine stepp ha 10 (.int .i64 (IntKind.wrap .i64 (Int.tmod (bt a0 1) 32))) KR KR ?_; clear ha a; intro a ha
  refine stepp ha 6 (.int .i64 (IntKind.wrap .i64 (Int.tmod (bt a0 1) 32))) KR KR ?_; clear ha a; intro a ha
  refine endl ?_
  refine thenN (hK6801 _ _ ?_); clear hK6801
  refine wp_seq_k (fun K6803 hK6804 => ?_)
  refine wp_region_lit ?_
  refine stepp ha 11 (.string a0) KR KR ?_; clear ha a; intro a ha
  obtain ⟨hA6805, h_⟩ := asrt_some h; clear h; have h := h_; clear h_
  refine stepsi ha 12 9 (.tmp 11) (.const (.int .i64 0)) a0 .i64 0 rfl KR KR KR (by decide) (show (0 : Int) < ((a0).size : Int) from hA6805) KR ?_; clear ha a; intro a ha
  refine stepp ha 13 (.int .i64 (IntKind.wrap .i64 (bt a0 0))) KR KR ?_; clear ha a; intro a ha
  refine stepp ha 14 (.int .i64 (IntKind.wrap .i64 (256 * (IntKind.wrap .i64 (bt a0 0))))) KR KR ?_; clear ha a; intro a ha
  refine stepp ha 15 (.int .i64 (IntKind.wrap .i64 (Int.tmod (bt a0 1) 32))) KR KR ?_; clear ha a; intro a ha
  refine stepp ha 16 (.int .i64 (IntKind.wrap .i64 ((IntKind.wrap .i64 (256 * (IntKind.wrap .i64 (bt a0 0)))) + (IntKind.wrap .i64 (Int.tmod (bt a0 1) 32))))) KR KR ?_; clear ha a; intro a ha
  refine stepp ha 17 (.pointer (some ⟨b6796, 0, none⟩)) KR KR ?_; clear ha a; intro a ha
  refine stepst ha HW 1 (b := b6796) (C := #[.int .i64 a1.f0, .int .i64 a1.f1, .int .i64 a1.f2, .bool a1.f3, .int .i64 a1.f4, .int .i64 a1.f5, .int .i64 a1.f6]) (T := 73) KR 3 0 (.tmp 17) (.tmp 16) (.int .i64 (IntKind.wrap .i64 ((IntKind.wrap .i64 (256 * (IntKind.wrap .i64 (bt a0 0)))) + (IntKind.wrap .i64 (Int.tmod (bt a0 1) 32))))) #[.int .i64 (IntKind.wrap .i64 ((IntKind.wrap .i64 (256 * (IntKind.wrap .i64 (bt a0 0)))) + (IntKind.wrap .i64 (Int.tmod (bt a0 1) 32)))), .int .i64 a1.f1, .int .i64 a1.f2, .bool a1.f3, .int .i64 a1.f4, .int .i64 a1.f5, .int .i64 a1.f6] rfl KR KR KR KR KR KR KR ?_; clear ha HW a; intro a W6806 HW ha
  refine endl ?_
  refine thenN (hK6804 _ _ ?_); clear hK6804
  refine wp_seq_k (fun K6807 hK6808 => ?_)
  refine wp_seq_k (fun K6809 hK6810 => ?_)
  refine wp_region_lit ?_
  refine stepp ha 18 (.string a0) KR KR ?_; clear ha a; intro a ha
  refine stepsi ha 19 9 (.tmp 18) (.const (.int .i64 0)) a0 .i64 0 rfl KR KR KR (by decide) (show (0 : Int) < ((a0).size : Int) from hA6805) KR ?_; clear ha a; intro a ha
  refine stepp ha 20 (.bool ((bt a0 0) == 94)) KR KR ?_; clear ha a; intro a ha
  refine endl ?_
  refine thenN (hK6810 _ _ ?_); clear hK6810
  by_cases hp6811 : (bt a0 0) = 94
  · skip
    replace h := ite_pos' h hp6811
    refine condT ha KR KR (t := ((bt a0 0) == 94)) (ieq_t hp6811) ?_
    refine wp_seq_k (fun K6812 hK6813 => ?_)
    refine wp_region_lit ?_
    refine stepp ha 21 (.string a0) KR KR ?_; clear ha a; intro a ha
    obtain ⟨t6814, ht6815, h_⟩ := bind_some' h; clear h; have h := h_; clear h_
    refine stepc ha 22 KR KR (headgateref15_num.calls K a0 7 2 t6814 _ ht6815) ?_; clear ha a; rintro e W6816 ⟨rfl, HX6817⟩
    refine ⟨_, rfl, ?_⟩; intro a ha; replace HW := HW.callw HX6817; clear HX6817
    refine stepp ha 23 (.pointer (some ⟨b6796, 5, none⟩)) KR KR ?_; clear ha a; intro a ha
    refine stepst ha HW 1 (b := b6796) (C := #[.int .i64 (IntKind.wrap .i64 ((IntKind.wrap .i64 (256 * (IntKind.wrap .i64 (bt a0 0)))) + (IntKind.wrap .i64 (Int.tmod (bt a0 1) 32)))), .int .i64 a1.f1, .int .i64 a1.f2, .bool a1.f3, .int .i64 a1.f4, .int .i64 a1.f5, .int .i64 a1.f6]) (T := 73) KR 3 5 (.tmp 23) (.tmp 22) (.int .i64 t6814) #[.int .i64 (IntKind.wrap .i64 ((IntKind.wrap .i64 (256 * (IntKind.wrap .i64 (bt a0 0)))) + (IntKind.wrap .i64 (Int.tmod (bt a0 1) 32)))), .int .i64 a1.f1, .int .i64 a1.f2, .bool a1.f3, .int .i64 a1.f4, .int .i64 t6814, .int .i64 a1.f6] rfl KR KR KR KR KR KR KR ?_; clear ha HW a; intro a W6818 HW ha
    refine endl ?_
    refine thenN (hK6813 _ _ ?_); clear hK6813
    refine wp_seq_k (fun K6819 hK6820 => ?_)
    refine wp_seq_k (fun K6821 hK6822 => ?_)
    refine wp_region_lit ?_
    refine stepp ha 24 (.int .i64 (IntKind.wrap .i64 (Int.tmod (bt a0 1) 32))) KR KR ?_; clear ha a; intro a ha
    refine stepp ha 25 (.bool (decide ((IntKind.wrap .i64 (Int.tmod (bt a0 1) 32)) > 1))) KR KR ?_; clear ha a; intro a ha
    refine endl ?_
    refine thenN (hK6822 _ _ ?_); clear hK6822
    by_cases hp6823 : (IntKind.wrap .i64 (Int.tmod (bt a0 1) 32)) > 1
    · skip
      replace h := ite_pos' h hp6823
      refine condT ha KR KR (t := decide ((IntKind.wrap .i64 (Int.tmod (bt a0 1) 32)) > 1)) (decide_eq_true hp6823) ?_
      refine wp_seq_k (fun K6824 hK6825 => ?_)
      refine wp_region_lit ?_
      refine stepp ha 26 (.agg #[.int .i64 0, .int .i64 0, .int .i64 0, .bool false, .int .i64 0, .int .i64 0, .int .i64 0]) KR KR ?_; clear ha a; intro a ha
      refine stepst ha HW 0 (b := b6798) (C := #[.int .i64 0, .int .i64 0, .int .i64 0, .bool false, .int .i64 0, .int .i64 0, .int .i64 0]) (T := 73) KR 73 0 (.tmp 4) (.tmp 26) (.agg #[.int .i64 0, .int .i64 0, .int .i64 0, .bool false, .int .i64 0, .int .i64 0, .int .i64 0]) #[.int .i64 0, .int .i64 0, .int .i64 0, .bool false, .int .i64 0, .int .i64 0, .int .i64 0] rfl KR KR KR KR KR KR KR ?_; clear ha HW a; intro a W6826 HW ha
      refine stepp ha 5 (.int .i64 150) KR KR ?_; clear ha a; intro a ha
      refine endl ?_
      refine thenN (hK6825 _ _ ?_); clear hK6825
      refine wp_ret ?_
      refine thenR ?_
      refine thenR ?_
      obtain rfl := Option.some.inj h
      exact finv ha _ _ rfl (.cell (ad := ⟨b6798, 0, none⟩) (v := .agg #[.int .i64 0, .int .i64 0, .int .i64 0, .bool false, .int .i64 0, .int .i64 0, .int .i64 0]) KR (run_loadVar_ca0 (HW.ca (i := 0) (b := b6798) (C := #[.int .i64 0, .int .i64 0, .int .i64 0, .bool false, .int .i64 0, .int .i64 0, .int .i64 0]) (T := 73) (fr := (0, 0)) KR) 73 0 (.agg #[.int .i64 0, .int .i64 0, .int .i64 0, .bool false, .int .i64 0, .int .i64 0, .int .i64 0]) KR) (.tmp (v := .int .i64 150) KR .nil)) (.tuple #[.agg #[.int .i64 0, .int .i64 0, .int .i64 0, .bool false, .int .i64 0, .int .i64 0, .int .i64 0], .int .i64 150]) rfl ⟨rfl, HW.pick [] [] (by decide) (by decide) rfl KR⟩
    · skip
      replace h := ite_neg' h hp6823
      refine condF ha KR KR (t := decide ((IntKind.wrap .i64 (Int.tmod (bt a0 1) 32)) > 1)) (decide_eq_false hp6823) ?_
      refine wp_skip ?_
      refine thenN (hK6820 _ _ ?_); clear hK6820
      refine wp_seq_k (fun K6827 hK6828 => ?_)
      refine wp_region_lit ?_
      refine stepl ha 27 (HW.ca (i := 1) (b := b6796) (C := #[.int .i64 (IntKind.wrap .i64 ((IntKind.wrap .i64 (256 * (IntKind.wrap .i64 (bt a0 0)))) + (IntKind.wrap .i64 (Int.tmod (bt a0 1) 32)))), .int .i64 a1.f1, .int .i64 a1.f2, .bool a1.f3, .int .i64 a1.f4, .int .i64 t6814, .int .i64 a1.f6]) (T := 73) (fr := (0, 0)) KR) 73 0 (.tmp 3) (.agg #[.int .i64 (IntKind.wrap .i64 ((IntKind.wrap .i64 (256 * (IntKind.wrap .i64 (bt a0 0)))) + (IntKind.wrap .i64 (Int.tmod (bt a0 1) 32)))), .int .i64 a1.f1, .int .i64 a1.f2, .bool a1.f3, .int .i64 a1.f4, .int .i64 t6814, .int .i64 a1.f6]) rfl KR KR KR ?_; clear ha a; intro a ha
      refine stepst ha HW 0 (b := b6798) (C := #[.int .i64 0, .int .i64 0, .int .i64 0, .bool false, .int .i64 0, .int .i64 0, .int .i64 0]) (T := 73) KR 73 0 (.tmp 4) (.tmp 27) (.agg #[.int .i64 (IntKind.wrap .i64 ((IntKind.wrap .i64 (256 * (IntKind.wrap .i64 (bt a0 0)))) + (IntKind.wrap .i64 (Int.tmod (bt a0 1) 32)))), .int .i64 a1.f1, .int .i64 a1.f2, .bool a1.f3, .int .i64 a1.f4, .int .i64 t6814, .int .i64 a1.f6]) #[.int .i64 (IntKind.wrap .i64 ((IntKind.wrap .i64 (256 * (IntKind.wrap .i64 (bt a0 0)))) + (IntKind.wrap .i64 (Int.tmod (bt a0 1) 32)))), .int .i64 a1.f1, .int .i64 a1.f2, .bool a1.f3, .int .i64 a1.f4, .int .i64 t6814, .int .i64 a1.f6] rfl KR KR KR KR KR KR KR ?_; clear ha HW a; intro a W6829 HW ha
      refine stepp ha 5 (.int .i64 0) KR KR ?_; clear ha a; intro a ha
      refine endl ?_
      refine thenN (hK6828 _ _ ?_); clear hK6828
      refine wp_ret ?_
      refine thenR ?_
      obtain rfl := Option.some.inj h
      exact finv ha _ _ rfl (.cell (ad := ⟨b6798, 0, none⟩) (v := .agg #[.int .i64 (IntKind.wrap .i64 ((IntKind.wrap .i64 (256 * (IntKind.wrap .i64 (bt a0 0)))) + (IntKind.wrap .i64 (Int.tmod (bt a0 1) 32)))), .int .i64 a1.f1, .int .i64 a1.f2, .bool a1.f3, .int .i64 a1.f4, .int .i64 t6814, .int .i64 a1.f6]) KR (run_loadVar_ca0 (HW.ca (i := 0) (b := b6798) (C := #[.int .i64 (IntKind.wrap .i64 ((IntKind.wrap .i64 (256 * (IntKind.wrap .i64 (bt a0 0)))) + (IntKind.wrap .i64 (Int.tmod (bt a0 1) 32)))), .int .i64 a1.f1, .int .i64 a1.f2, .bool a1.f3, .int .i64 a1.f4, .int .i64 t6814, .int .i64 a1.f6]) (T := 73) (fr := (0, 0)) KR) 73 0 (.agg #[.int .i64 (IntKind.wrap .i64 ((IntKind.wrap .i64 (256 * (IntKind.wrap .i64 (bt a0 0)))) + (IntKind.wrap .i64 (Int.tmod (bt a0 1) 32)))), .int .i64 a1.f1, .int .i64 a1.f2, .bool a1.f3, .int .i64 a1.f4, .int .i64 t6814, .int .i64 a1.f6]) KR) (.tmp (v := .int .i64 0) KR .nil)) (.tuple #[.agg #[.int .i64 (IntKind.wrap .i64 ((IntKind.wrap .i64 (256 * (IntKind.wrap .i64 (bt a0 0)))) + (IntKind.wrap .i64 (Int.tmod (bt a0 1) 32)))), .int .i64 a1.f1, .int .i64 a1.f2, .bool a1.f3, .int .i64 a1.f4, .int .i64 t6814, .int .i64 a1.f6], .int .i64 0]) rfl ⟨rfl, HW.pick [] [] (by decide) (by decide) rfl KR⟩
  · skip
    replace h := ite_neg' h hp6811
    refine condF ha KR KR (t := ((bt a0 0) == 94)) (ieq_f hp6811) ?_
    refine wp_skip ?_
    refine thenN (hK6808 _ _ ?_); clear hK6808
    refine wp_seq_k (fun K6830 hK6831 => ?_)
    refine wp_region_lit ?_
    refine stepp ha 28 (.string a0) KR KR ?_; clear ha a; intro a ha
    obtain ⟨t6832, ht6833, h_⟩ := bind_some' h; clear h; have h := h_; clear h_
    refine stepc ha 29 KR KR (headgateref15_num.calls K a0 5 4 t6832 _ ht6833) ?_; clear ha a; rintro e W6834 ⟨rfl, HX6835⟩
    refine ⟨_, rfl, ?_⟩; intro a ha; replace HW := HW.callw HX6835; clear HX6835
    refine stepp ha 30 (.pointer (some ⟨b6796, 5, none⟩)) KR KR ?_; clear ha a; intro a ha
    refine stepst ha HW 1 (b := b6796) (C := #[.int .i64 (IntKind.wrap .i64 ((IntKind.wrap .i64 (256 * (IntKind.wrap .i64 (bt a0 0)))) + (IntKind.wrap .i64 (Int.tmod (bt a0 1) 32)))), .int .i64 a1.f1, .int .i64 a1.f2, .bool a1.f3, .int .i64 a1.f4, .int .i64 a1.f5, .int .i64 a1.f6]) (T := 73) KR 3 5 (.tmp 30) (.tmp 29) (.int .i64 t6832) #[.int .i64 (IntKind.wrap .i64 ((IntKind.wrap .i64 (256 * (IntKind.wrap .i64 (bt a0 0)))) + (IntKind.wrap .i64 (Int.tmod (bt a0 1) 32)))), .int .i64 a1.f1, .int .i64 a1.f2, .bool a1.f3, .int .i64 a1.f4, .int .i64 t6832, .int .i64 a1.f6] rfl KR KR KR KR KR KR KR ?_; clear ha HW a; intro a W6836 HW ha
    refine endl ?_
    refine thenN (hK6831 _ _ ?_); clear hK6831
    refine wp_seq_k (fun K6837 hK6838 => ?_)
    refine wp_seq_k (fun K6839 hK6840 => ?_)
    refine wp_region_lit ?_
    refine stepp ha 31 (.pointer (some ⟨b6796, 5, none⟩)) KR KR ?_; clear ha a; intro a ha
    refine stepl ha 32 (HW.ca (i := 1) (b := b6796) (C := #[.int .i64 (IntKind.wrap .i64 ((IntKind.wrap .i64 (256 * (IntKind.wrap .i64 (bt a0 0)))) + (IntKind.wrap .i64 (Int.tmod (bt a0 1) 32)))), .int .i64 a1.f1, .int .i64 a1.f2, .bool a1.f3, .int .i64 a1.f4, .int .i64 t6832, .int .i64 a1.f6]) (T := 73) (fr := (0, 0)) KR) 3 5 (.tmp 31) (.int .i64 t6832) rfl KR KR KR ?_; clear ha a; intro a ha
    refine stepp ha 33 (.bool (t6832 != 24)) KR KR ?_; clear ha a; intro a ha
    refine stepp ha 34 (.bool (t6832 != 24)) KR KR ?_; clear ha a; intro a ha
    by_cases hp6841 : t6832 = 24
    · skip
      replace h := ite_pos' h hp6841
      replace ha := ha.bool 34 KR (ineq_f hp6841)
      refine stepp ha 35 (.string a0) KR KR ?_; clear ha a; intro a ha
      obtain ⟨hA6842, h_⟩ := asrt_some h; clear h; have h := h_; clear h_
      refine stepsi ha 36 9 (.tmp 35) (.const (.int .i64 2)) a0 .i64 2 rfl KR KR KR (by decide) (show (2 : Int) < ((a0).size : Int) from hA6842) KR ?_; clear ha a; intro a ha
      refine stepp ha 37 (.bool (decide ((bt a0 2) > 15))) KR KR ?_; clear ha a; intro a ha
      refine stepp ha 38 (.bool (decide ((bt a0 2) > 15))) KR KR ?_; clear ha a; intro a ha
      refine stepp ha 39 (.bool (decide ((bt a0 2) > 15))) KR KR ?_; clear ha a; intro a ha
      by_cases hp6843 : (bt a0 2) > 15
      · skip
        replace h := ite_pos' h hp6843
        replace ha := ha.bool 39 KR (decide_eq_true hp6843)
        refine stepo ha 40 KR ?_; clear ha a; intro a ha
        refine stepo ha 41 KR ?_; clear ha a; intro a ha
        refine stepp ha 42 (.bool true) KR KR ?_; clear ha a; intro a ha
        refine stepp ha 43 (.bool true) KR KR ?_; clear ha a; intro a ha
        refine stepo ha 44 KR ?_; clear ha a; intro a ha
        refine stepo ha 45 KR ?_; clear ha a; intro a ha
        refine stepp ha 46 (.bool true) KR KR ?_; clear ha a; intro a ha
        refine endl ?_
        refine thenN (hK6840 _ _ ?_); clear hK6840
        refine condT ha KR KR (t := true) (rfl) ?_
        refine wp_seq_k (fun K6845 hK6846 => ?_)
        refine wp_region_lit ?_
        refine stepp ha 47 (.agg #[.int .i64 0, .int .i64 0, .int .i64 0, .bool false, .int .i64 0, .int .i64 0, .int .i64 0]) KR KR ?_; clear ha a; intro a ha
        refine stepst ha HW 0 (b := b6798) (C := #[.int .i64 0, .int .i64 0, .int .i64 0, .bool false, .int .i64 0, .int .i64 0, .int .i64 0]) (T := 73) KR 73 0 (.tmp 4) (.tmp 47) (.agg #[.int .i64 0, .int .i64 0, .int .i64 0, .bool false, .int .i64 0, .int .i64 0, .int .i64 0]) #[.int .i64 0, .int .i64 0, .int .i64 0, .bool false, .int .i64 0, .int .i64 0, .int .i64 0] rfl KR KR KR KR KR KR KR ?_; clear ha HW a; intro a W6847 HW ha
        refine stepp ha 5 (.int .i64 150) KR KR ?_; clear ha a; intro a ha
        refine endl ?_
        refine thenN (hK6846 _ _ ?_); clear hK6846
        refine wp_ret ?_
        refine thenR ?_
        obtain rfl := Option.some.inj h
        exact finv ha _ _ rfl (.cell (ad := ⟨b6798, 0, none⟩) (v := .agg #[.int .i64 0, .int .i64 0, .int .i64 0, .bool false, .int .i64 0, .int .i64 0, .int .i64 0]) KR (run_loadVar_ca0 (HW.ca (i := 0) (b := b6798) (C := #[.int .i64 0, .int .i64 0, .int .i64 0, .bool false, .int .i64 0, .int .i64 0, .int .i64 0]) (T := 73) (fr := (0, 0)) KR) 73 0 (.agg #[.int .i64 0, .int .i64 0, .int .i64 0, .bool false, .int .i64 0, .int .i64 0, .int .i64 0]) KR) (.tmp (v := .int .i64 150) KR .nil)) (.tuple #[.agg #[.int .i64 0, .int .i64 0, .int .i64 0, .bool false, .int .i64 0, .int .i64 0, .int .i64 0], .int .i64 150]) rfl ⟨rfl, HW.pick [] [] (by decide) (by decide) rfl KR⟩
      · skip
        replace h := ite_neg' h hp6843
        replace ha := ha.bool 39 KR (decide_eq_false hp6843)
        refine stepp ha 40 (.int .i64 (IntKind.wrap .i64 (Int.tmod (bt a0 1) 32))) KR KR ?_; clear ha a; intro a ha
        refine stepp ha 41 (.bool (decide ((IntKind.wrap .i64 (Int.tmod (bt a0 1) 32)) > 6))) KR KR ?_; clear ha a; intro a ha
        refine stepp ha 42 (.bool (decide ((IntKind.wrap .i64 (Int.tmod (bt a0 1) 32)) > 6))) KR KR ?_; clear ha a; intro a ha
        refine stepp ha 43 (.bool (decide ((IntKind.wrap .i64 (Int.tmod (bt a0 1) 32)) > 6))) KR KR ?_; clear ha a; intro a ha
        by_cases hp6844 : (IntKind.wrap .i64 (Int.tmod (bt a0 1) 32)) > 6
        · skip
          replace h := ite_pos' h hp6844
          replace ha := ha.bool 43 KR (decide_eq_true hp6844)
          refine stepo ha 44 KR ?_; clear ha a; intro a ha
          refine stepo ha 45 KR ?_; clear ha a; intro a ha
          refine stepp ha 46 (.bool true) KR KR ?_; clear ha a; intro a ha
          refine endl ?_
          refine thenN (hK6840 _ _ ?_); clear hK6840
          refine condT ha KR KR (t := true) (rfl) ?_
          refine wp_seq_k (fun K6848 hK6849 => ?_)
          refine wp_region_lit ?_
          refine stepp ha 47 (.agg #[.int .i64 0, .int .i64 0, .int .i64 0, .bool false, .int .i64 0, .int .i64 0, .int .i64 0]) KR KR ?_; clear ha a; intro a ha
          refine stepst ha HW 0 (b := b6798) (C := #[.int .i64 0, .int .i64 0, .int .i64 0, .bool false, .int .i64 0, .int .i64 0, .int .i64 0]) (T := 73) KR 73 0 (.tmp 4) (.tmp 47) (.agg #[.int .i64 0, .int .i64 0, .int .i64 0, .bool false, .int .i64 0, .int .i64 0, .int .i64 0]) #[.int .i64 0, .int .i64 0, .int .i64 0, .bool false, .int .i64 0, .int .i64 0, .int .i64 0] rfl KR KR KR KR KR KR KR ?_; clear ha HW a; intro a W6850 HW ha
          refine stepp ha 5 (.int .i64 150) KR KR ?_; clear ha a; intro a ha
          refine endl ?_
          refine thenN (hK6849 _ _ ?_); clear hK6849
          refine wp_ret ?_
          refine thenR ?_
          obtain rfl := Option.some.inj h
          exact finv ha _ _ rfl (.cell (ad := ⟨b6798, 0, none⟩) (v := .agg #[.int .i64 0, .int .i64 0, .int .i64 0, .bool false, .int .i64 0, .int .i64 0, .int .i64 0]) KR (run_loadVar_ca0 (HW.ca (i := 0) (b := b6798) (C := #[.int .i64 0, .int .i64 0, .int .i64 0, .bool false, .int .i64 0, .int .i64 0, .int .i64 0]) (T := 73) (fr := (0, 0)) KR) 73 0 (.agg #[.int .i64 0, .int .i64 0, .int .i64 0, .bool false, .int .i64 0, .int .i64 0, .int .i64 0]) KR) (.tmp (v := .int .i64 150) KR .nil)) (.tuple #[.agg #[.int .i64 0, .int .i64 0, .int .i64 0, .bool false, .int .i64 0, .int .i64 0, .int .i64 0], .int .i64 150]) rfl ⟨rfl, HW.pick [] [] (by decide) (by decide) rfl KR⟩
        · skip
          replace h := ite_neg' h hp6844
          replace ha := ha.bool 43 KR (decide_eq_false hp6844)
          refine stepp ha 44 (.int .i64 (IntKind.wrap .i64 (Int.tmod (bt a0 1) 32))) KR KR ?_; clear ha a; intro a ha
          refine stepp ha 45 (.bool ((IntKind.wrap .i64 (Int.tmod (bt a0 1) 32)) == 5)) KR KR ?_; clear ha a; intro a ha
          refine stepp ha 46 (.bool ((IntKind.wrap .i64 (Int.tmod (bt a0 1) 32)) == 5)) KR KR ?_; clear ha a; intro a ha
          refine endl ?_
          refine thenN (hK6840 _ _ ?_); clear hK6840
          by_cases hp6851 : (IntKind.wrap .i64 (Int.tmod (bt a0 1) 32)) = 5
          · skip
            replace h := ite_pos' h hp6851
            refine condT ha KR KR (t := ((IntKind.wrap .i64 (Int.tmod (bt a0 1) 32)) == 5)) (ieq_t hp6851) ?_
            refine wp_seq_k (fun K6852 hK6853 => ?_)
            refine wp_region_lit ?_
            refine stepp ha 47 (.agg #[.int .i64 0, .int .i64 0, .int .i64 0, .bool false, .int .i64 0, .int .i64 0, .int .i64 0]) KR KR ?_; clear ha a; intro a ha
            refine stepst ha HW 0 (b := b6798) (C := #[.int .i64 0, .int .i64 0, .int .i64 0, .bool false, .int .i64 0, .int .i64 0, .int .i64 0]) (T := 73) KR 73 0 (.tmp 4) (.tmp 47) (.agg #[.int .i64 0, .int .i64 0, .int .i64 0, .bool false, .int .i64 0, .int .i64 0, .int .i64 0]) #[.int .i64 0, .int .i64 0, .int .i64 0, .bool false, .int .i64 0, .int .i64 0, .int .i64 0] rfl KR KR KR KR KR KR KR ?_; clear ha HW a; intro a W6854 HW ha
            refine stepp ha 5 (.int .i64 150) KR KR ?_; clear ha a; intro a ha
            refine endl ?_
            refine thenN (hK6853 _ _ ?_); clear hK6853
            refine wp_ret ?_
            refine thenR ?_
            obtain rfl := Option.some.inj h
            exact finv ha _ _ rfl (.cell (ad := ⟨b6798, 0, none⟩) (v := .agg #[.int .i64 0, .int .i64 0, .int .i64 0, .bool false, .int .i64 0, .int .i64 0, .int .i64 0]) KR (run_loadVar_ca0 (HW.ca (i := 0) (b := b6798) (C := #[.int .i64 0, .int .i64 0, .int .i64 0, .bool false, .int .i64 0, .int .i64 0, .int .i64 0]) (T := 73) (fr := (0, 0)) KR) 73 0 (.agg #[.int .i64 0, .int .i64 0, .int .i64 0, .bool false, .int .i64 0, .int .i64 0, .int .i64 0]) KR) (.tmp (v := .int .i64 150) KR .nil)) (.tuple #[.agg #[.int .i64 0, .int .i64 0, .int .i64 0, .bool false, .int .i64 0, .int .i64 0, .int .i64 0], .int .i64 150]) rfl ⟨rfl, HW.pick [] [] (by decide) (by decide) rfl KR⟩
          · skip
            replace h := ite_neg' h hp6851
            refine condF ha KR KR (t := ((IntKind.wrap .i64 (Int.tmod (bt a0 1) 32)) == 5)) (ieq_f hp6851) ?_
            refine wp_skip ?_
            refine thenN (hK6838 _ _ ?_); clear hK6838
            refine wp_seq_k (fun K6858 hK6859 => ?_)
            refine wp_seq_k (fun K6860 hK6861 => ?_)
            refine cutn (fun a W6865 => ∃ (x6864 : Bool), headgateref15_reservation.j0 K a0 a1 t6832 x6864 = some r ∧ Has 68 [(0, .string a0), (3, .pointer (some ⟨b6796, 0, none⟩)), (4, .pointer (some ⟨b6798, 0, none⟩)), (57, .bool x6864)] a ∧ Wd w W6865 [(b6796, .cells #[.int .i64 (IntKind.wrap .i64 ((IntKind.wrap .i64 (256 * (IntKind.wrap .i64 (bt a0 0)))) + (IntKind.wrap .i64 (Int.tmod (bt a0 1) 32)))), .int .i64 a1.f1, .int .i64 a1.f2, .bool a1.f3, .int .i64 a1.f4, .int .i64 t6832, .int .i64 a1.f6] 73 (0, 0)), (b6798, .cells #[.int .i64 0, .int .i64 0, .int .i64 0, .bool false, .int .i64 0, .int .i64 0, .int .i64 0] 73 (0, 0))] []) ?_ ?_
            · skip
              refine wp_region_lit ?_
              refine stepp ha 48 (.int .i64 (IntKind.wrap .i64 (Int.tmod (bt a0 1) 32))) KR KR ?_; clear ha a; intro a ha
              refine stepp ha 49 (.bool ((IntKind.wrap .i64 (Int.tmod (bt a0 1) 32)) == 1)) KR KR ?_; clear ha a; intro a ha
              refine stepp ha 50 (.bool ((IntKind.wrap .i64 (Int.tmod (bt a0 1) 32)) == 1)) KR KR ?_; clear ha a; intro a ha
              by_cases hp6862 : (IntKind.wrap .i64 (Int.tmod (bt a0 1) 32)) = 1
              · skip
                replace h := ite_pos' h hp6862
                replace ha := ha.bool 50 KR (ieq_t hp6862)
                refine stepo ha 51 KR ?_; clear ha a; intro a ha
                refine stepo ha 52 KR ?_; clear ha a; intro a ha
                refine stepp ha 53 (.bool true) KR KR ?_; clear ha a; intro a ha
                refine stepp ha 54 (.bool true) KR KR ?_; clear ha a; intro a ha
                refine stepo ha 55 KR ?_; clear ha a; intro a ha
                refine stepo ha 56 KR ?_; clear ha a; intro a ha
                refine stepp ha 57 (.bool true) KR KR ?_; clear ha a; intro a ha
                refine endl ?_
                exact thenN ⟨true, h, ha.sub (subs_cons KR (subs_cons KR (subs_cons KR (subs_cons KR (subs_nil _))))), HW.pick [1, 0] [] (by decide) (by decide) KR KR⟩
              · skip
                replace h := ite_neg' h hp6862
                replace ha := ha.bool 50 KR (ieq_f hp6862)
                refine stepp ha 51 (.int .i64 (IntKind.wrap .i64 (Int.tmod (bt a0 1) 32))) KR KR ?_; clear ha a; intro a ha
                refine stepp ha 52 (.bool ((IntKind.wrap .i64 (Int.tmod (bt a0 1) 32)) == 2)) KR KR ?_; clear ha a; intro a ha
                refine stepp ha 53 (.bool ((IntKind.wrap .i64 (Int.tmod (bt a0 1) 32)) == 2)) KR KR ?_; clear ha a; intro a ha
                refine stepp ha 54 (.bool ((IntKind.wrap .i64 (Int.tmod (bt a0 1) 32)) == 2)) KR KR ?_; clear ha a; intro a ha
                by_cases hp6863 : (IntKind.wrap .i64 (Int.tmod (bt a0 1) 32)) = 2
                · skip
                  replace h := ite_pos' h hp6863
                  replace ha := ha.bool 54 KR (ieq_t hp6863)
                  refine stepo ha 55 KR ?_; clear ha a; intro a ha
                  refine stepo ha 56 KR ?_; clear ha a; intro a ha
                  refine stepp ha 57 (.bool true) KR KR ?_; clear ha a; intro a ha
                  refine endl ?_
                  exact thenN ⟨true, h, ha.sub (subs_cons KR (subs_cons KR (subs_cons KR (subs_cons KR (subs_nil _))))), HW.pick [1, 0] [] (by decide) (by decide) KR KR⟩
                · skip
                  replace h := ite_neg' h hp6863
                  replace ha := ha.bool 54 KR (ieq_f hp6863)
                  refine stepp ha 55 (.int .i64 (IntKind.wrap .i64 (Int.tmod (bt a0 1) 32))) KR KR ?_; clear ha a; intro a ha
                  refine stepp ha 56 (.bool ((IntKind.wrap .i64 (Int.tmod (bt a0 1) 32)) == 4)) KR KR ?_; clear ha a; intro a ha
                  refine stepp ha 57 (.bool ((IntKind.wrap .i64 (Int.tmod (bt a0 1) 32)) == 4)) KR KR ?_; clear ha a; intro a ha
                  refine endl ?_
                  exact thenN ⟨((IntKind.wrap .i64 (Int.tmod (bt a0 1) 32)) == 4), h, ha.sub (subs_cons KR (subs_cons KR (subs_cons KR (subs_cons KR (subs_nil _))))), HW.pick [1, 0] [] (by decide) (by decide) KR KR⟩
            · skip
              intro a W6865 hJ
              obtain ⟨x6864, h, ha, HW⟩ := hJ
              replace h : headgateref15_reservation.j0 K a0 a1 t6832 x6864 = some r := h
              unfold headgateref15_reservation.j0 at h
              refine hK6861 _ _ ?_; clear hK6861
              by_cases hp6866 : x6864 = true
              · skip
                replace h := ite_pos' h hp6866
                refine condT ha KR KR (t := x6864) (hp6866) ?_
                refine wp_seq_k (fun K6867 hK6868 => ?_)
                refine wp_region_lit ?_
                refine stepp ha 58 (.string a0) KR KR ?_; clear ha a; intro a ha
                refine stepsi ha 59 9 (.tmp 58) (.const (.int .i64 2)) a0 .i64 2 rfl KR KR KR (by decide) (show (2 : Int) < ((a0).size : Int) from hA6842) KR ?_; clear ha a; intro a ha
                refine stepp ha 60 (.int .i64 (IntKind.wrap .i64 (bt a0 2))) KR KR ?_; clear ha a; intro a ha
                obtain ⟨t6869, ht6870, h_⟩ := bind_some' h; clear h; have h := h_; clear h_
                refine stepc ha 61 KR KR (headgateref15_Type.calls (IntKind.wrap .i64 (bt a0 2)) t6869 _ ht6870) ?_; clear ha a; rintro e W6871 ⟨rfl, HX6872⟩
                refine ⟨_, rfl, ?_⟩; intro a ha; replace HW := HW.callw HX6872; clear HX6872
                refine stepp ha 62 (.pointer (some ⟨b6796, 6, none⟩)) KR KR ?_; clear ha a; intro a ha
                refine stepst ha HW 0 (b := b6796) (C := #[.int .i64 (IntKind.wrap .i64 ((IntKind.wrap .i64 (256 * (IntKind.wrap .i64 (bt a0 0)))) + (IntKind.wrap .i64 (Int.tmod (bt a0 1) 32)))), .int .i64 a1.f1, .int .i64 a1.f2, .bool a1.f3, .int .i64 a1.f4, .int .i64 t6832, .int .i64 a1.f6]) (T := 73) KR 3 6 (.tmp 62) (.tmp 61) (.int .i64 t6869) #[.int .i64 (IntKind.wrap .i64 ((IntKind.wrap .i64 (256 * (IntKind.wrap .i64 (bt a0 0)))) + (IntKind.wrap .i64 (Int.tmod (bt a0 1) 32)))), .int .i64 a1.f1, .int .i64 a1.f2, .bool a1.f3, .int .i64 a1.f4, .int .i64 t6832, .int .i64 t6869] rfl KR KR KR KR KR KR KR ?_; clear ha HW a; intro a W6873 HW ha
                refine endl ?_
                refine thenN (hK6868 _ _ ?_); clear hK6868
                refine wp_seq_k (fun K6874 hK6875 => ?_)
                refine wp_region_lit ?_
                refine stepp ha 63 (.pointer (some ⟨b6796, 6, none⟩)) KR KR ?_; clear ha a; intro a ha
                refine stepl ha 64 (HW.ca (i := 0) (b := b6796) (C := #[.int .i64 (IntKind.wrap .i64 ((IntKind.wrap .i64 (256 * (IntKind.wrap .i64 (bt a0 0)))) + (IntKind.wrap .i64 (Int.tmod (bt a0 1) 32)))), .int .i64 a1.f1, .int .i64 a1.f2, .bool a1.f3, .int .i64 a1.f4, .int .i64 t6832, .int .i64 t6869]) (T := 73) (fr := (0, 0)) KR) 3 6 (.tmp 63) (.int .i64 t6869) rfl KR KR KR ?_; clear ha a; intro a ha
                refine stepp ha 65 (.bool (t6869 == 0)) KR KR ?_; clear ha a; intro a ha
                refine endl ?_
                refine thenN (hK6875 _ _ ?_); clear hK6875
                by_cases hp6876 : t6869 = 0
                · skip
                  replace h := ite_pos' h hp6876
                  refine condT ha KR KR (t := (t6869 == 0)) (ieq_t hp6876) ?_
                  refine wp_seq_k (fun K6877 hK6878 => ?_)
                  refine wp_region_lit ?_
                  refine stepp ha 66 (.agg #[.int .i64 0, .int .i64 0, .int .i64 0, .bool false, .int .i64 0, .int .i64 0, .int .i64 0]) KR KR ?_; clear ha a; intro a ha
                  refine stepst ha HW 1 (b := b6798) (C := #[.int .i64 0, .int .i64 0, .int .i64 0, .bool false, .int .i64 0, .int .i64 0, .int .i64 0]) (T := 73) KR 73 0 (.tmp 4) (.tmp 66) (.agg #[.int .i64 0, .int .i64 0, .int .i64 0, .bool false, .int .i64 0, .int .i64 0, .int .i64 0]) #[.int .i64 0, .int .i64 0, .int .i64 0, .bool false, .int .i64 0, .int .i64 0, .int .i64 0] rfl KR KR KR KR KR KR KR ?_; clear ha HW a; intro a W6879 HW ha
                  refine stepp ha 5 (.int .i64 150) KR KR ?_; clear ha a; intro a ha
                  refine endl ?_
                  refine thenN (hK6878 _ _ ?_); clear hK6878
                  refine wp_ret ?_
                  refine thenR ?_
                  obtain rfl := Option.some.inj h
                  exact finv ha _ _ rfl (.cell (ad := ⟨b6798, 0, none⟩) (v := .agg #[.int .i64 0, .int .i64 0, .int .i64 0, .bool false, .int .i64 0, .int .i64 0, .int .i64 0]) KR (run_loadVar_ca0 (HW.ca (i := 1) (b := b6798) (C := #[.int .i64 0, .int .i64 0, .int .i64 0, .bool false, .int .i64 0, .int .i64 0, .int .i64 0]) (T := 73) (fr := (0, 0)) KR) 73 0 (.agg #[.int .i64 0, .int .i64 0, .int .i64 0, .bool false, .int .i64 0, .int .i64 0, .int .i64 0]) KR) (.tmp (v := .int .i64 150) KR .nil)) (.tuple #[.agg #[.int .i64 0, .int .i64 0, .int .i64 0, .bool false, .int .i64 0, .int .i64 0, .int .i64 0], .int .i64 150]) rfl ⟨rfl, HW.pick [] [] (by decide) (by decide) rfl KR⟩
                · skip
                  replace h := ite_neg' h hp6876
                  refine condF ha KR KR (t := (t6869 == 0)) (ieq_f hp6876) ?_
                  refine wp_skip ?_
                  refine thenN (hK6859 _ _ ?_); clear hK6859
                  refine wp_seq_k (fun K6880 hK6881 => ?_)
                  refine wp_region_lit ?_
                  refine stepl ha 67 (HW.ca (i := 0) (b := b6796) (C := #[.int .i64 (IntKind.wrap .i64 ((IntKind.wrap .i64 (256 * (IntKind.wrap .i64 (bt a0 0)))) + (IntKind.wrap .i64 (Int.tmod (bt a0 1) 32)))), .int .i64 a1.f1, .int .i64 a1.f2, .bool a1.f3, .int .i64 a1.f4, .int .i64 t6832, .int .i64 t6869]) (T := 73) (fr := (0, 0)) KR) 73 0 (.tmp 3) (.agg #[.int .i64 (IntKind.wrap .i64 ((IntKind.wrap .i64 (256 * (IntKind.wrap .i64 (bt a0 0)))) + (IntKind.wrap .i64 (Int.tmod (bt a0 1) 32)))), .int .i64 a1.f1, .int .i64 a1.f2, .bool a1.f3, .int .i64 a1.f4, .int .i64 t6832, .int .i64 t6869]) rfl KR KR KR ?_; clear ha a; intro a ha
                  refine stepst ha HW 1 (b := b6798) (C := #[.int .i64 0, .int .i64 0, .int .i64 0, .bool false, .int .i64 0, .int .i64 0, .int .i64 0]) (T := 73) KR 73 0 (.tmp 4) (.tmp 67) (.agg #[.int .i64 (IntKind.wrap .i64 ((IntKind.wrap .i64 (256 * (IntKind.wrap .i64 (bt a0 0)))) + (IntKind.wrap .i64 (Int.tmod (bt a0 1) 32)))), .int .i64 a1.f1, .int .i64 a1.f2, .bool a1.f3, .int .i64 a1.f4, .int .i64 t6832, .int .i64 t6869]) #[.int .i64 (IntKind.wrap .i64 ((IntKind.wrap .i64 (256 * (IntKind.wrap .i64 (bt a0 0)))) + (IntKind.wrap .i64 (Int.tmod (bt a0 1) 32)))), .int .i64 a1.f1, .int .i64 a1.f2, .bool a1.f3, .int .i64 a1.f4, .int .i64 t6832, .int .i64 t6869] rfl KR KR KR KR KR KR KR ?_; clear ha HW a; intro a W6882 HW ha
                  refine stepp ha 5 (.int .i64 0) KR KR ?_; clear ha a; intro a ha
                  refine endl ?_
                  refine thenN (hK6881 _ _ ?_); clear hK6881
                  refine wp_ret ?_
                  obtain rfl := Option.some.inj h
                  exact finv ha _ _ rfl (.cell (ad := ⟨b6798, 0, none⟩) (v := .agg #[.int .i64 (IntKind.wrap .i64 ((IntKind.wrap .i64 (256 * (IntKind.wrap .i64 (bt a0 0)))) + (IntKind.wrap .i64 (Int.tmod (bt a0 1) 32)))), .int .i64 a1.f1, .int .i64 a1.f2, .bool a1.f3, .int .i64 a1.f4, .int .i64 t6832, .int .i64 t6869]) KR (run_loadVar_ca0 (HW.ca (i := 1) (b := b6798) (C := #[.int .i64 (IntKind.wrap .i64 ((IntKind.wrap .i64 (256 * (IntKind.wrap .i64 (bt a0 0)))) + (IntKind.wrap .i64 (Int.tmod (bt a0 1) 32)))), .int .i64 a1.f1, .int .i64 a1.f2, .bool a1.f3, .int .i64 a1.f4, .int .i64 t6832, .int .i64 t6869]) (T := 73) (fr := (0, 0)) KR) 73 0 (.agg #[.int .i64 (IntKind.wrap .i64 ((IntKind.wrap .i64 (256 * (IntKind.wrap .i64 (bt a0 0)))) + (IntKind.wrap .i64 (Int.tmod (bt a0 1) 32)))), .int .i64 a1.f1, .int .i64 a1.f2, .bool a1.f3, .int .i64 a1.f4, .int .i64 t6832, .int .i64 t6869]) KR) (.tmp (v := .int .i64 0) KR .nil)) (.tuple #[.agg #[.int .i64 (IntKind.wrap .i64 ((IntKind.wrap .i64 (256 * (IntKind.wrap .i64 (bt a0 0)))) + (IntKind.wrap .i64 (Int.tmod (bt a0 1) 32)))), .int .i64 a1.f1, .int .i64 a1.f2, .bool a1.f3, .int .i64 a1.f4, .int .i64 t6832, .int .i64 t6869], .int .i64 0]) rfl ⟨rfl, HW.pick [] [] (by decide) (by decide) rfl KR⟩
              · skip
                replace h := ite_neg' h hp6866
                refine condF ha KR KR (t := x6864) (bool_f hp6866) ?_
                refine wp_skip ?_
                refine thenN (hK6859 _ _ ?_); clear hK6859
                refine wp_seq_k (fun K6883 hK6884 => ?_)
                refine wp_region_lit ?_
                refine stepl ha 67 (HW.ca (i := 0) (b := b6796) (C := #[.int .i64 (IntKind.wrap .i64 ((IntKind.wrap .i64 (256 * (IntKind.wrap .i64 (bt a0 0)))) + (IntKind.wrap .i64 (Int.tmod (bt a0 1) 32)))), .int .i64 a1.f1, .int .i64 a1.f2, .bool a1.f3, .int .i64 a1.f4, .int .i64 t6832, .int .i64 a1.f6]) (T := 73) (fr := (0, 0)) KR) 73 0 (.tmp 3) (.agg #[.int .i64 (IntKind.wrap .i64 ((IntKind.wrap .i64 (256 * (IntKind.wrap .i64 (bt a0 0)))) + (IntKind.wrap .i64 (Int.tmod (bt a0 1) 32)))), .int .i64 a1.f1, .int .i64 a1.f2, .bool a1.f3, .int .i64 a1.f4, .int .i64 t6832, .int .i64 a1.f6]) rfl KR KR KR ?_; clear ha a; intro a ha
                refine stepst ha HW 1 (b := b6798) (C := #[.int .i64 0, .int .i64 0, .int .i64 0, .bool false, .int .i64 0, .int .i64 0, .int .i64 0]) (T := 73) KR 73 0 (.tmp 4) (.tmp 67) (.agg #[.int .i64 (IntKind.wrap .i64 ((IntKind.wrap .i64 (256 * (IntKind.wrap .i64 (bt a0 0)))) + (IntKind.wrap .i64 (Int.tmod (bt a0 1) 32)))), .int .i64 a1.f1, .int .i64 a1.f2, .bool a1.f3, .int .i64 a1.f4, .int .i64 t6832, .int .i64 a1.f6]) #[.int .i64 (IntKind.wrap .i64 ((IntKind.wrap .i64 (256 * (IntKind.wrap .i64 (bt a0 0)))) + (IntKind.wrap .i64 (Int.tmod (bt a0 1) 32)))), .int .i64 a1.f1, .int .i64 a1.f2, .bool a1.f3, .int .i64 a1.f4, .int .i64 t6832, .int .i64 a1.f6] rfl KR KR KR KR KR KR KR ?_; clear ha HW a; intro a W6885 HW ha
                refine stepp ha 5 (.int .i64 0) KR KR ?_; clear ha a; intro a ha
                refine endl ?_
                refine thenN (hK6884 _ _ ?_); clear hK6884
                refine wp_ret ?_
                obtain rfl := Option.some.inj h
                exact finv ha _ _ rfl (.cell (ad := ⟨b6798, 0, none⟩) (v := .agg #[.int .i64 (IntKind.wrap .i64 ((IntKind.wrap .i64 (256 * (IntKind.wrap .i64 (bt a0 0)))) + (IntKind.wrap .i64 (Int.tmod (bt a0 1) 32)))), .int .i64 a1.f1, .int .i64 a1.f2, .bool a1.f3, .int .i64 a1.f4, .int .i64 t6832, .int .i64 a1.f6]) KR (run_loadVar_ca0 (HW.ca (i := 1) (b := b6798) (C := #[.int .i64 (IntKind.wrap .i64 ((IntKind.wrap .i64 (256 * (IntKind.wrap .i64 (bt a0 0)))) + (IntKind.wrap .i64 (Int.tmod (bt a0 1) 32)))), .int .i64 a1.f1, .int .i64 a1.f2, .bool a1.f3, .int .i64 a1.f4, .int .i64 t6832, .int .i64 a1.f6]) (T := 73) (fr := (0, 0)) KR) 73 0 (.agg #[.int .i64 (IntKind.wrap .i64 ((IntKind.wrap .i64 (256 * (IntKind.wrap .i64 (bt a0 0)))) + (IntKind.wrap .i64 (Int.tmod (bt a0 1) 32)))), .int .i64 a1.f1, .int .i64 a1.f2, .bool a1.f3, .int .i64 a1.f4, .int .i64 t6832, .int .i64 a1.f6]) KR) (.tmp (v := .int .i64 0) KR .nil)) (.tuple #[.agg #[.int .i64 (IntKind.wrap .i64 ((IntKind.wrap .i64 (256 * (IntKind.wrap .i64 (bt a0 0)))) + (IntKind.wrap .i64 (Int.tmod (bt a0 1) 32)))), .int .i64 a1.f1, .int .i64 a1.f2, .bool a1.f3, .int .i64 a1.f4, .int .i64 t6832, .int .i64 a1.f6], .int .i64 0]) rfl ⟨rfl, HW.pick [] [] (by decide) (by decide) rfl KR⟩
    · skip
      replace h := ite_neg' h hp6841
      replace ha := ha.bool 34 KR (ineq_t hp6841)
      refine stepo ha 35 KR ?_; clear ha a; intro a ha
      refine stepo ha 36 KR ?_; clear ha a; intro a ha
      refine stepo ha 37 KR ?_; clear ha a; intro a ha
      refine stepp ha 38 (.bool true) KR KR ?_; clear ha a; intro a ha
      refine stepp ha 39 (.bool true) KR KR ?_; clear ha a; intro a ha
      refine stepo ha 40 KR ?_; clear ha a; intro a ha
      refine stepo ha 41 KR ?_; clear ha a; intro a ha
      refine stepp ha 42 (.bool true) KR KR ?_; clear ha a; intro a ha
      refine stepp ha 43 (.bool true) KR KR ?_; clear ha a; intro a ha
      refine stepo ha 44 KR ?_; clear ha a; intro a ha
      refine stepo ha 45 KR ?_; clear ha a; intro a ha
      refine stepp ha 46 (.bool true) KR KR ?_; clear ha a; intro a ha
      refine endl ?_
      refine thenN (hK6840 _ _ ?_); clear hK6840
      refine condT ha KR KR (t := true) (rfl) ?_
      refine wp_seq_k (fun K6855 hK6856 => ?_)
      refine wp_region_lit ?_
      refine stepp ha 47 (.agg #[.int .i64 0, .int .i64 0, .int .i64 0, .bool false, .int .i64 0, .int .i64 0, .int .i64 0]) KR KR ?_; clear ha a; intro a ha
      refine stepst ha HW 0 (b := b6798) (C := #[.int .i64 0, .int .i64 0, .int .i64 0, .bool false, .int .i64 0, .int .i64 0, .int .i64 0]) (T := 73) KR 73 0 (.tmp 4) (.tmp 47) (.agg #[.int .i64 0, .int .i64 0, .int .i64 0, .bool false, .int .i64 0, .int .i64 0, .int .i64 0]) #[.int .i64 0, .int .i64 0, .int .i64 0, .bool false, .int .i64 0, .int .i64 0, .int .i64 0] rfl KR KR KR KR KR KR KR ?_; clear ha HW a; intro a W6857 HW ha
      refine stepp ha 5 (.int .i64 150) KR KR ?_; clear ha a; intro a ha
      refine endl ?_
      refine thenN (hK6856 _ _ ?_); clear hK6856
      refine wp_ret ?_
      refine thenR ?_
      obtain rfl := Option.some.inj h
      exact finv ha _ _ rfl (.cell (ad := ⟨b6798, 0, none⟩) (v := .agg #[.int .i64 0, .int .i64 0, .int .i64 0, .bool false, .int .i64 0, .int .i64 0, .int .i64 0]) KR (run_loadVar_ca0 (HW.ca (i := 0) (b := b6798) (C := #[.int .i64 0, .int .i64 0, .int .i64 0, .bool false, .int .i64 0, .int .i64 0, .int .i64 0]) (T := 73) (fr := (0, 0)) KR) 73 0 (.agg #[.int .i64 0, .int .i64 0, .int .i64 0, .bool false, .int .i64 0, .int .i64 0, .int .i64 0]) KR) (.tmp (v := .int .i64 150) KR .nil)) (.tuple #[.agg #[.int .i64 0, .int .i64 0, .int .i64 0, .bool false, .int .i64 0, .int .i64 0, .int .i64 0], .int .i64 150]) rfl ⟨rfl, HW.pick [] [] (by decide) (by decide) rfl KR⟩
end Go.Proofs.YteilejfncdacfaaGreatDoor.F
