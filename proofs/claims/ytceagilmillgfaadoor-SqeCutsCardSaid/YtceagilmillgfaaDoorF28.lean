/- headgate/headgateref25.Same: a plain function, and that the call comes to what it says. No condition. -/
import Derived.Test.YtceagilmillgfaaDoorFT
namespace Go.Proofs.YtceagilmillgfaaDoor.F
open Go Go.RowKit Go.Proofs.YtceagilmillgfaaDoor.X
set_option linter.unusedVariables false
set_option linter.unusedSimpArgs false
/-! ### headgate/headgateref25.Same: function 28 -/
def headgateref25_Same.b0 (K : Nat) (a0 : T_api_Sqe) (a1 : T_api_Sqe) (again2778 : Int → Option Bool) (x2779 : Int) : Option Bool :=
  if x2779 < 6 then (asrt (0 ≤ x2779) (if (rdL (0 : Int) ([a0.f5.f0, a0.f5.f1, a0.f5.f2, a0.f5.f3, a0.f5.f4, a0.f5.f5] : List Int) x2779) = (rdL (0 : Int) ([a1.f5.f0, a1.f5.f1, a1.f5.f2, a1.f5.f3, a1.f5.f4, a1.f5.f5] : List Int) x2779) then (again2778 (IntKind.wrap .i64 (x2779 + 1))) else (some false))) else (if a0.f0 = a1.f0 then (if a0.f1 = a1.f1 then (if a0.f2 = a1.f2 then (if a0.f3 = a1.f3 then (some (a0.f4 == a1.f4)) else (some false)) else (some false)) else (some false)) else (some false))
def headgateref25_Same.l0 (K : Nat) (a0 : T_api_Sqe) (a1 : T_api_Sqe) : Nat → Int → Option Bool
  | 0, _ => none
  | k_ + 1, x2779 => headgateref25_Same.b0 K a0 a1 (headgateref25_Same.l0 K a0 a1 k_) x2779
def headgateref25_Same.f (K : Nat) (a0 : T_api_Sqe) (a1 : T_api_Sqe) : Option Bool :=
  headgateref25_Same.l0 K a0 a1 K 0
set_option maxRecDepth 100000 in
set_option maxHeartbeats 4000000 in
theorem headgateref25_Same.calls (K : Nat) (a0 : T_api_Sqe) (a1 : T_api_Sqe)  (r : Bool) (w : World)  (h : headgateref25_Same.f K a0 a1 = some r) :
    Calls Tryd.prog 28 #[.agg #[.int .i64 a0.f0, .int .i64 a0.f1, .int .i64 a0.f2, .int .u32 a0.f3, .int .i64 a0.f4, .int .u32 a0.f5.f0, .int .u32 a0.f5.f1, .int .u32 a0.f5.f2, .int .u32 a0.f5.f3, .int .u32 a0.f5.f4, .int .u32 a0.f5.f5], .agg #[.int .i64 a1.f0, .int .i64 a1.f1, .int .i64 a1.f2, .int .u32 a1.f3, .int .i64 a1.f4, .int .u32 a1.f5.f0, .int .u32 a1.f5.f1, .int .u32 a1.f5.f2, .int .u32 a1.f5.f3, .int .u32 a1.f5.f4, .int .u32 a1.f5.f5]] w (fun e W' => e = .returned (.bool r) ∧ Wd w W' [] [] ) := by
  refine sxstart (n := 52) (l := [(0, .agg #[.int .i64 a0.f0, .int .i64 a0.f1, .int .i64 a0.f2, .int .u32 a0.f3, .int .i64 a0.f4, .int .u32 a0.f5.f0, .int .u32 a0.f5.f1, .int .u32 a0.f5.f2, .int .u32 a0.f5.f3, .int .u32 a0.f5.f4, .int .u32 a0.f5.f5]), (1, .agg #[.int .i64 a1.f0, .int .i64 a1.f1, .int .i64 a1.f2, .int .u32 a1.f3, .int .i64 a1.f4, .int .u32 a1.f5.f0, .int .u32 a1.f5.f1, .int .u32 a1.f5.f2, .int .u32 a1.f5.f3, .int .u32 a1.f5.f4, .int .u32 a1.f5.f5])]) Tryd.func28 rfl rfl (Nat.le_of_ble_eq_true (by kernel_rfl)) (subsA_cons rfl (subsA_cons rfl (subsA_nil _))) ?_
  intro a ha
  have HW := Wd.refl w
  unfold headgateref25_Same.f at h
  refine wp_seq_k (fun K2739 hK2740 => ?_)
  refine wp_region_lit ?_
  refine stepnew ha HW 2 #[.int .i64 a0.f0, .int .i64 a0.f1, .int .i64 a0.f2, .int .u32 a0.f3, .int .i64 a0.f4, .int .u32 a0.f5.f0, .int .u32 a0.f5.f1, .int .u32 a0.f5.f2, .int .u32 a0.f5.f3, .int .u32 a0.f5.f4, .int .u32 a0.f5.f5] 25 (by kernel_rfl) (by kernel_rfl) ?_; clear ha HW a; intro b2741 a W2742 HW ha
  refine stepnew ha HW 3 #[.int .i64 a1.f0, .int .i64 a1.f1, .int .i64 a1.f2, .int .u32 a1.f3, .int .i64 a1.f4, .int .u32 a1.f5.f0, .int .u32 a1.f5.f1, .int .u32 a1.f5.f2, .int .u32 a1.f5.f3, .int .u32 a1.f5.f4, .int .u32 a1.f5.f5] 25 (by kernel_rfl) (by kernel_rfl) ?_; clear ha HW a; intro b2743 a W2744 HW ha
  refine stepp ha 4 (.bool false) (by kernel_rfl) (by kernel_rfl) ?_; clear ha a; intro a ha
  refine endl ?_
  refine thenN (hK2740 _ _ ?_); clear hK2740
  refine wp_seq_k (fun K2745 hK2746 => ?_)
  refine wp_seq_k (fun K2747 hK2748 => ?_)
  refine wp_region_lit ?_
  refine stepp ha 5 (.int .i64 0) (by kernel_rfl) (by kernel_rfl) ?_; clear ha a; intro a ha
  refine endl ?_
  refine thenN (hK2748 _ _ ?_); clear hK2748
  refine wp_block ?_
  refine loopk (fun k => fun a W2780 => ∃ (x2779 : Int), headgateref25_Same.l0 K a0 a1 k x2779 = some r ∧ Has 52 [(2, .pointer (some ⟨b2741, 0, none⟩)), (3, .pointer (some ⟨b2743, 0, none⟩)), (5, .int .i64 x2779)] a ∧ Wd w W2780 [(b2743, .cells #[.int .i64 a1.f0, .int .i64 a1.f1, .int .i64 a1.f2, .int .u32 a1.f3, .int .i64 a1.f4, .int .u32 a1.f5.f0, .int .u32 a1.f5.f1, .int .u32 a1.f5.f2, .int .u32 a1.f5.f3, .int .u32 a1.f5.f4, .int .u32 a1.f5.f5] 25 (0, 0)), (b2741, .cells #[.int .i64 a0.f0, .int .i64 a0.f1, .int .i64 a0.f2, .int .u32 a0.f3, .int .i64 a0.f4, .int .u32 a0.f5.f0, .int .u32 a0.f5.f1, .int .u32 a0.f5.f2, .int .u32 a0.f5.f3, .int .u32 a0.f5.f4, .int .u32 a0.f5.f5] 25 (0, 0))] []) K ?_ ?_
  · skip
    exact ⟨0, h, ha.sub (subs_cons (by kernel_rfl) (subs_cons (by kernel_rfl) (subs_cons (by kernel_rfl) (subs_nil _)))), HW.pick [0, 1] [] (by decide) (by decide) (by kernel_rfl) (by kernel_rfl)⟩
  · skip
    intro k a W2780 hI
    obtain ⟨x2779, h, ha, HW⟩ := hI
    cases k with
    | zero => exact (none_some (show none = some r from h)).elim
    | succ k2781 =>
      replace h : headgateref25_Same.b0 K a0 a1 (headgateref25_Same.l0 K a0 a1 k2781) x2779 = some r := h
      obtain ⟨again2778, hag2782⟩ : ∃ g_, g_ = headgateref25_Same.l0 K a0 a1 k2781 := ⟨_, rfl⟩
      rw [← hag2782] at h
      unfold headgateref25_Same.b0 at h
      refine wp_seq_k (fun K2783 hK2784 => ?_)
      refine wp_seq_k (fun K2785 hK2786 => ?_)
      refine wp_region_lit ?_
      refine stepp ha 6 (.int .i64 x2779) (by kernel_rfl) (by kernel_rfl) ?_; clear ha a; intro a ha
      refine stepp ha 7 (.bool (decide (x2779 < 6))) (by kernel_rfl) (by kernel_rfl) ?_; clear ha a; intro a ha
      refine endl ?_
      refine thenN (hK2786 _ _ ?_); clear hK2786
      by_cases hp2787 : x2779 < 6
      · skip
        replace h := ite_pos' h hp2787
        refine condT ha (by kernel_rfl) (by kernel_rfl) (t := decide (x2779 < 6)) (decide_eq_true hp2787) ?_
        refine wp_skip ?_
        refine thenN (hK2784 _ _ ?_); clear hK2784
        refine wp_seq_k (fun K2788 hK2789 => ?_)
        refine wp_block ?_
        refine wp_seq_k (fun K2790 hK2791 => ?_)
        obtain ⟨hA2792, h_⟩ := asrt_some h; clear h; have h := h_; clear h_
        refine regionG 9 (by kernel_rfl) (by kernel_rfl) ha HW [.fix (.int .i64 x2779), .fix (.pointer (some ⟨b2741, 5, none⟩)), .fix (.pointer (some ⟨b2741, 5 + (x2779 : Int).toNat * 1, none⟩)), .fix (.int .u32 (rdL (0 : Int) ([a0.f5.f0, a0.f5.f1, a0.f5.f2, a0.f5.f3, a0.f5.f4, a0.f5.f5] : List Int) x2779)), .fix (.int .i64 x2779), .fix (.pointer (some ⟨b2743, 5, none⟩)), .fix (.pointer (some ⟨b2743, 5 + (x2779 : Int).toNat * 1, none⟩)), .fix (.int .u32 (rdL (0 : Int) ([a1.f5.f0, a1.f5.f1, a1.f5.f2, a1.f5.f3, a1.f5.f4, a1.f5.f5] : List Int) x2779)), .fix (.bool ((rdL (0 : Int) ([a0.f5.f0, a0.f5.f1, a0.f5.f2, a0.f5.f3, a0.f5.f4, a0.f5.f5] : List Int) x2779) != (rdL (0 : Int) ([a1.f5.f0, a1.f5.f1, a1.f5.f2, a1.f5.f3, a1.f5.f4, a1.f5.f5] : List Int) x2779)))] ?_ ?_
        · skip
          refine ⟨?_, ?_, ?_, ?_, ?_, ?_, ?_, ?_, ?_, trivial⟩
          · skip
            intro a wr hn hd HW hs; have ha := hasNil hn hd
            have ha := ha.add (seeE hs 5 (.int .i64 x2779) (by kernel_rfl) (by kernel_rfl))
            refine yStep ha 10 (by kernel_rfl) ?_; intro l_ ha HK
            refine stepp ha 10 (.int .i64 x2779) (by kernel_rfl) (by kernel_rfl) ?_; intro ax hax; exact HK _ _ _ hax rfl (Below.refl _ _)
          · skip
            intro a wr hn hd HW hs; have ha := hasNil hn hd
            have ha := ha.add (seeE hs 2 (.pointer (some ⟨b2741, 0, none⟩)) (by kernel_rfl) (by kernel_rfl))
            refine yStep ha 11 (by kernel_rfl) ?_; intro l_ ha HK
            refine stepp ha 11 (.pointer (some ⟨b2741, 5, none⟩)) (by kernel_rfl) (by kernel_rfl) ?_; intro ax hax; exact HK _ _ _ hax rfl (Below.refl _ _)
          · skip
            intro a wr hn hd HW hs; have ha := hasNil hn hd
            have ha := ha.add (seeF hs 10 0 (.int .i64 x2779) (by kernel_rfl) (by kernel_rfl))
            have ha := ha.add (seeF hs 11 1 (.pointer (some ⟨b2741, 5, none⟩)) (by kernel_rfl) (by kernel_rfl))
            refine yStep ha 12 (by kernel_rfl) ?_; intro l_ ha HK
            refine stepiw ha 12 (sz := 1) b2741 5 23 6 22 (.tmp 11) (.tmp 10) .i64 x2779 rfl (by kernel_rfl) (by kernel_rfl) (by kernel_rfl) (by kernel_rfl) hA2792 hp2787 (by kernel_rfl) ?_; intro ax hax; exact HK _ _ _ hax rfl (Below.refl _ _)
          · skip
            intro a wr hn hd HW hs; have ha := hasNil hn hd
            have ha := ha.add (seeF hs 12 2 (.pointer (some ⟨b2741, 5 + (x2779 : Int).toNat * 1, none⟩)) (by kernel_rfl) (by kernel_rfl))
            refine yStep ha 13 (by kernel_rfl) ?_; intro l_ ha HK
            refine stepl ha 13 (CA.el (encI .u32) (0 : Int) (fun _ => rfl) (CA.part (off := 5) (HW.ca (i := 1) (b := b2741) (C := #[.int .i64 a0.f0, .int .i64 a0.f1, .int .i64 a0.f2, .int .u32 a0.f3, .int .i64 a0.f4, .int .u32 a0.f5.f0, .int .u32 a0.f5.f1, .int .u32 a0.f5.f2, .int .u32 a0.f5.f3, .int .u32 a0.f5.f4, .int .u32 a0.f5.f5]) (T := 25) (fr := (0, 0)) (by kernel_rfl)) [.int .u32 a0.f5.f0, .int .u32 a0.f5.f1, .int .u32 a0.f5.f2, .int .u32 a0.f5.f3, .int .u32 a0.f5.f4, .int .u32 a0.f5.f5] (by kernel_rfl)) ([a0.f5.f0, a0.f5.f1, a0.f5.f2, a0.f5.f3, a0.f5.f4, a0.f5.f5] : List Int) (by kernel_rfl) (len := 6) rfl hA2792 hp2787) 22 0 (.tmp 12) (.int .u32 (rdL (0 : Int) ([a0.f5.f0, a0.f5.f1, a0.f5.f2, a0.f5.f3, a0.f5.f4, a0.f5.f5] : List Int) x2779)) rfl (by kernel_rfl) (by kernel_rfl) (by kernel_rfl) ?_; intro ax hax; exact HK _ _ _ hax rfl (Below.refl _ _)
          · skip
            intro a wr hn hd HW hs; have ha := hasNil hn hd
            have ha := ha.add (seeE hs 5 (.int .i64 x2779) (by kernel_rfl) (by kernel_rfl))
            refine yStep ha 14 (by kernel_rfl) ?_; intro l_ ha HK
            refine stepp ha 14 (.int .i64 x2779) (by kernel_rfl) (by kernel_rfl) ?_; intro ax hax; exact HK _ _ _ hax rfl (Below.refl _ _)
          · skip
            intro a wr hn hd HW hs; have ha := hasNil hn hd
            have ha := ha.add (seeE hs 3 (.pointer (some ⟨b2743, 0, none⟩)) (by kernel_rfl) (by kernel_rfl))
            refine yStep ha 15 (by kernel_rfl) ?_; intro l_ ha HK
            refine stepp ha 15 (.pointer (some ⟨b2743, 5, none⟩)) (by kernel_rfl) (by kernel_rfl) ?_; intro ax hax; exact HK _ _ _ hax rfl (Below.refl _ _)
          · skip
            intro a wr hn hd HW hs; have ha := hasNil hn hd
            have ha := ha.add (seeF hs 14 4 (.int .i64 x2779) (by kernel_rfl) (by kernel_rfl))
            have ha := ha.add (seeF hs 15 5 (.pointer (some ⟨b2743, 5, none⟩)) (by kernel_rfl) (by kernel_rfl))
            refine yStep ha 16 (by kernel_rfl) ?_; intro l_ ha HK
            refine stepiw ha 16 (sz := 1) b2743 5 23 6 22 (.tmp 15) (.tmp 14) .i64 x2779 rfl (by kernel_rfl) (by kernel_rfl) (by kernel_rfl) (by kernel_rfl) hA2792 hp2787 (by kernel_rfl) ?_; intro ax hax; exact HK _ _ _ hax rfl (Below.refl _ _)
          · skip
            intro a wr hn hd HW hs; have ha := hasNil hn hd
            have ha := ha.add (seeF hs 16 6 (.pointer (some ⟨b2743, 5 + (x2779 : Int).toNat * 1, none⟩)) (by kernel_rfl) (by kernel_rfl))
            refine yStep ha 17 (by kernel_rfl) ?_; intro l_ ha HK
            refine stepl ha 17 (CA.el (encI .u32) (0 : Int) (fun _ => rfl) (CA.part (off := 5) (HW.ca (i := 0) (b := b2743) (C := #[.int .i64 a1.f0, .int .i64 a1.f1, .int .i64 a1.f2, .int .u32 a1.f3, .int .i64 a1.f4, .int .u32 a1.f5.f0, .int .u32 a1.f5.f1, .int .u32 a1.f5.f2, .int .u32 a1.f5.f3, .int .u32 a1.f5.f4, .int .u32 a1.f5.f5]) (T := 25) (fr := (0, 0)) (by kernel_rfl)) [.int .u32 a1.f5.f0, .int .u32 a1.f5.f1, .int .u32 a1.f5.f2, .int .u32 a1.f5.f3, .int .u32 a1.f5.f4, .int .u32 a1.f5.f5] (by kernel_rfl)) ([a1.f5.f0, a1.f5.f1, a1.f5.f2, a1.f5.f3, a1.f5.f4, a1.f5.f5] : List Int) (by kernel_rfl) (len := 6) rfl hA2792 hp2787) 22 0 (.tmp 16) (.int .u32 (rdL (0 : Int) ([a1.f5.f0, a1.f5.f1, a1.f5.f2, a1.f5.f3, a1.f5.f4, a1.f5.f5] : List Int) x2779)) rfl (by kernel_rfl) (by kernel_rfl) (by kernel_rfl) ?_; intro ax hax; exact HK _ _ _ hax rfl (Below.refl _ _)
          · skip
            intro a wr hn hd HW hs; have ha := hasNil hn hd
            have ha := ha.add (seeF hs 13 3 (.int .u32 (rdL (0 : Int) ([a0.f5.f0, a0.f5.f1, a0.f5.f2, a0.f5.f3, a0.f5.f4, a0.f5.f5] : List Int) x2779)) (by kernel_rfl) (by kernel_rfl))
            have ha := ha.add (seeF hs 17 7 (.int .u32 (rdL (0 : Int) ([a1.f5.f0, a1.f5.f1, a1.f5.f2, a1.f5.f3, a1.f5.f4, a1.f5.f5] : List Int) x2779)) (by kernel_rfl) (by kernel_rfl))
            refine yStep ha 18 (by kernel_rfl) ?_; intro l_ ha HK
            refine stepp ha 18 (.bool ((rdL (0 : Int) ([a0.f5.f0, a0.f5.f1, a0.f5.f2, a0.f5.f3, a0.f5.f4, a0.f5.f5] : List Int) x2779) != (rdL (0 : Int) ([a1.f5.f0, a1.f5.f1, a1.f5.f2, a1.f5.f3, a1.f5.f4, a1.f5.f5] : List Int) x2779))) (by kernel_rfl) (by kernel_rfl) ?_; intro ax hax; exact HK _ _ _ hax rfl (Below.refl _ _)
        · skip
          intro a W2793 ha HW he hf
          replace ha := ha.add (he 2 (.pointer (some ⟨b2741, 0, none⟩)) (by kernel_rfl) (by kernel_rfl))
          replace ha := ha.add (he 3 (.pointer (some ⟨b2743, 0, none⟩)) (by kernel_rfl) (by kernel_rfl))
          replace ha := ha.add (he 5 (.int .i64 x2779) (by kernel_rfl) (by kernel_rfl))
          replace ha := ha.add (gotF (m := 9) (j := 8) (d := 18) (v := .bool ((rdL (0 : Int) ([a0.f5.f0, a0.f5.f1, a0.f5.f2, a0.f5.f3, a0.f5.f4, a0.f5.f5] : List Int) x2779) != (rdL (0 : Int) ([a1.f5.f0, a1.f5.f1, a1.f5.f2, a1.f5.f3, a1.f5.f4, a1.f5.f5] : List Int) x2779))) hf (by kernel_rfl) (by kernel_rfl) (by kernel_rfl))
          clear he hf
          refine endl ?_
          refine thenN (hK2791 _ _ ?_); clear hK2791
          by_cases hp2794 : (rdL (0 : Int) ([a0.f5.f0, a0.f5.f1, a0.f5.f2, a0.f5.f3, a0.f5.f4, a0.f5.f5] : List Int) x2779) = (rdL (0 : Int) ([a1.f5.f0, a1.f5.f1, a1.f5.f2, a1.f5.f3, a1.f5.f4, a1.f5.f5] : List Int) x2779)
          · skip
            replace h := ite_pos' h hp2794
            refine condF ha (by kernel_rfl) (by kernel_rfl) (t := ((rdL (0 : Int) ([a0.f5.f0, a0.f5.f1, a0.f5.f2, a0.f5.f3, a0.f5.f4, a0.f5.f5] : List Int) x2779) != (rdL (0 : Int) ([a1.f5.f0, a1.f5.f1, a1.f5.f2, a1.f5.f3, a1.f5.f4, a1.f5.f5] : List Int) x2779))) (ineq_f hp2794) ?_
            refine wp_skip ?_
            refine blkN ?_
            refine thenN (hK2789 _ _ ?_); clear hK2789
            refine wp_region_lit ?_
            refine stepp ha 8 (.int .i64 x2779) (by kernel_rfl) (by kernel_rfl) ?_; clear ha a; intro a ha
            refine stepp ha 9 (.int .i64 (IntKind.wrap .i64 (x2779 + 1))) (by kernel_rfl) (by kernel_rfl) ?_; clear ha a; intro a ha
            refine stepp ha 5 (.int .i64 (IntKind.wrap .i64 (x2779 + 1))) (by kernel_rfl) (by kernel_rfl) ?_; clear ha a; intro a ha
            refine endl ?_
            exact thenN ⟨k2781, Nat.lt_succ_self k2781, IntKind.wrap .i64 (x2779 + 1), (by rw [← hag2782]; exact h), ha.sub (subs_cons (by kernel_rfl) (subs_cons (by kernel_rfl) (subs_cons (by kernel_rfl) (subs_nil _)))), HW.pick [0, 1] [] (by decide) (by decide) (by kernel_rfl) (by kernel_rfl)⟩
          · skip
            replace h := ite_neg' h hp2794
            refine condT ha (by kernel_rfl) (by kernel_rfl) (t := ((rdL (0 : Int) ([a0.f5.f0, a0.f5.f1, a0.f5.f2, a0.f5.f3, a0.f5.f4, a0.f5.f5] : List Int) x2779) != (rdL (0 : Int) ([a1.f5.f0, a1.f5.f1, a1.f5.f2, a1.f5.f3, a1.f5.f4, a1.f5.f5] : List Int) x2779))) (ineq_t hp2794) ?_
            refine wp_seq_k (fun K2795 hK2796 => ?_)
            refine wp_region_lit ?_
            refine stepp ha 4 (.bool false) (by kernel_rfl) (by kernel_rfl) ?_; clear ha a; intro a ha
            refine endl ?_
            refine thenN (hK2796 _ _ ?_); clear hK2796
            refine wp_ret ?_
            refine blkR ?_
            refine thenR ?_
            refine thenR ?_
            refine blkR ?_
            refine thenR ?_
            obtain rfl := Option.some.inj h
            exact finv ha _ _ rfl (.tmp (v := .bool false) (by kernel_rfl) .nil) (.bool false) rfl ⟨rfl, HW.pick [] [] (by decide) (by decide) rfl (by kernel_rfl)⟩
      · skip
        replace h := ite_neg' h hp2787
        refine condF ha (by kernel_rfl) (by kernel_rfl) (t := decide (x2779 < 6)) (decide_eq_false hp2787) ?_
        refine wp_exit ?_
        refine thenE ?_
        refine thenE ?_
        refine inBlk ?_
        refine thenN (hK2746 _ _ ?_); clear hK2746
        refine wp_seq_k (fun K2797 hK2798 => ?_)
        refine wp_region_lit ?_
        refine stepp ha 19 (.pointer (some ⟨b2741, 0, none⟩)) (by kernel_rfl) (by kernel_rfl) ?_; clear ha a; intro a ha
        refine stepl ha 20 (HW.ca (i := 1) (b := b2741) (C := #[.int .i64 a0.f0, .int .i64 a0.f1, .int .i64 a0.f2, .int .u32 a0.f3, .int .i64 a0.f4, .int .u32 a0.f5.f0, .int .u32 a0.f5.f1, .int .u32 a0.f5.f2, .int .u32 a0.f5.f3, .int .u32 a0.f5.f4, .int .u32 a0.f5.f5]) (T := 25) (fr := (0, 0)) (by kernel_rfl)) 3 0 (.tmp 19) (.int .i64 a0.f0) rfl (by kernel_rfl) (by kernel_rfl) (by kernel_rfl) ?_; clear ha a; intro a ha
        refine stepp ha 21 (.pointer (some ⟨b2743, 0, none⟩)) (by kernel_rfl) (by kernel_rfl) ?_; clear ha a; intro a ha
        refine stepl ha 22 (HW.ca (i := 0) (b := b2743) (C := #[.int .i64 a1.f0, .int .i64 a1.f1, .int .i64 a1.f2, .int .u32 a1.f3, .int .i64 a1.f4, .int .u32 a1.f5.f0, .int .u32 a1.f5.f1, .int .u32 a1.f5.f2, .int .u32 a1.f5.f3, .int .u32 a1.f5.f4, .int .u32 a1.f5.f5]) (T := 25) (fr := (0, 0)) (by kernel_rfl)) 3 0 (.tmp 21) (.int .i64 a1.f0) rfl (by kernel_rfl) (by kernel_rfl) (by kernel_rfl) ?_; clear ha a; intro a ha
        refine stepp ha 23 (.bool (a0.f0 == a1.f0)) (by kernel_rfl) (by kernel_rfl) ?_; clear ha a; intro a ha
        refine stepp ha 24 (.bool (a0.f0 == a1.f0)) (by kernel_rfl) (by kernel_rfl) ?_; clear ha a; intro a ha
        by_cases hp2799 : a0.f0 = a1.f0
        · skip
          replace h := ite_pos' h hp2799
          replace ha := ha.bool 24 (by kernel_rfl) (ieq_t hp2799)
          refine stepp ha 25 (.pointer (some ⟨b2741, 1, none⟩)) (by kernel_rfl) (by kernel_rfl) ?_; clear ha a; intro a ha
          refine stepl ha 26 (HW.ca (i := 1) (b := b2741) (C := #[.int .i64 a0.f0, .int .i64 a0.f1, .int .i64 a0.f2, .int .u32 a0.f3, .int .i64 a0.f4, .int .u32 a0.f5.f0, .int .u32 a0.f5.f1, .int .u32 a0.f5.f2, .int .u32 a0.f5.f3, .int .u32 a0.f5.f4, .int .u32 a0.f5.f5]) (T := 25) (fr := (0, 0)) (by kernel_rfl)) 3 1 (.tmp 25) (.int .i64 a0.f1) rfl (by kernel_rfl) (by kernel_rfl) (by kernel_rfl) ?_; clear ha a; intro a ha
          refine stepp ha 27 (.pointer (some ⟨b2743, 1, none⟩)) (by kernel_rfl) (by kernel_rfl) ?_; clear ha a; intro a ha
          refine stepl ha 28 (HW.ca (i := 0) (b := b2743) (C := #[.int .i64 a1.f0, .int .i64 a1.f1, .int .i64 a1.f2, .int .u32 a1.f3, .int .i64 a1.f4, .int .u32 a1.f5.f0, .int .u32 a1.f5.f1, .int .u32 a1.f5.f2, .int .u32 a1.f5.f3, .int .u32 a1.f5.f4, .int .u32 a1.f5.f5]) (T := 25) (fr := (0, 0)) (by kernel_rfl)) 3 1 (.tmp 27) (.int .i64 a1.f1) rfl (by kernel_rfl) (by kernel_rfl) (by kernel_rfl) ?_; clear ha a; intro a ha
          refine stepp ha 29 (.bool (a0.f1 == a1.f1)) (by kernel_rfl) (by kernel_rfl) ?_; clear ha a; intro a ha
          refine stepp ha 30 (.bool (a0.f1 == a1.f1)) (by kernel_rfl) (by kernel_rfl) ?_; clear ha a; intro a ha
          refine stepp ha 31 (.bool (a0.f1 == a1.f1)) (by kernel_rfl) (by kernel_rfl) ?_; clear ha a; intro a ha
          by_cases hp2800 : a0.f1 = a1.f1
          · skip
            replace h := ite_pos' h hp2800
            replace ha := ha.bool 31 (by kernel_rfl) (ieq_t hp2800)
            refine stepp ha 32 (.pointer (some ⟨b2741, 2, none⟩)) (by kernel_rfl) (by kernel_rfl) ?_; clear ha a; intro a ha
            refine stepl ha 33 (HW.ca (i := 1) (b := b2741) (C := #[.int .i64 a0.f0, .int .i64 a0.f1, .int .i64 a0.f2, .int .u32 a0.f3, .int .i64 a0.f4, .int .u32 a0.f5.f0, .int .u32 a0.f5.f1, .int .u32 a0.f5.f2, .int .u32 a0.f5.f3, .int .u32 a0.f5.f4, .int .u32 a0.f5.f5]) (T := 25) (fr := (0, 0)) (by kernel_rfl)) 3 2 (.tmp 32) (.int .i64 a0.f2) rfl (by kernel_rfl) (by kernel_rfl) (by kernel_rfl) ?_; clear ha a; intro a ha
            refine stepp ha 34 (.pointer (some ⟨b2743, 2, none⟩)) (by kernel_rfl) (by kernel_rfl) ?_; clear ha a; intro a ha
            refine stepl ha 35 (HW.ca (i := 0) (b := b2743) (C := #[.int .i64 a1.f0, .int .i64 a1.f1, .int .i64 a1.f2, .int .u32 a1.f3, .int .i64 a1.f4, .int .u32 a1.f5.f0, .int .u32 a1.f5.f1, .int .u32 a1.f5.f2, .int .u32 a1.f5.f3, .int .u32 a1.f5.f4, .int .u32 a1.f5.f5]) (T := 25) (fr := (0, 0)) (by kernel_rfl)) 3 2 (.tmp 34) (.int .i64 a1.f2) rfl (by kernel_rfl) (by kernel_rfl) (by kernel_rfl) ?_; clear ha a; intro a ha
            refine stepp ha 36 (.bool (a0.f2 == a1.f2)) (by kernel_rfl) (by kernel_rfl) ?_; clear ha a; intro a ha
            refine stepp ha 37 (.bool (a0.f2 == a1.f2)) (by kernel_rfl) (by kernel_rfl) ?_; clear ha a; intro a ha
            refine stepp ha 38 (.bool (a0.f2 == a1.f2)) (by kernel_rfl) (by kernel_rfl) ?_; clear ha a; intro a ha
            by_cases hp2801 : a0.f2 = a1.f2
            · skip
              replace h := ite_pos' h hp2801
              replace ha := ha.bool 38 (by kernel_rfl) (ieq_t hp2801)
              refine stepp ha 39 (.pointer (some ⟨b2741, 3, none⟩)) (by kernel_rfl) (by kernel_rfl) ?_; clear ha a; intro a ha
              refine stepl ha 40 (HW.ca (i := 1) (b := b2741) (C := #[.int .i64 a0.f0, .int .i64 a0.f1, .int .i64 a0.f2, .int .u32 a0.f3, .int .i64 a0.f4, .int .u32 a0.f5.f0, .int .u32 a0.f5.f1, .int .u32 a0.f5.f2, .int .u32 a0.f5.f3, .int .u32 a0.f5.f4, .int .u32 a0.f5.f5]) (T := 25) (fr := (0, 0)) (by kernel_rfl)) 22 3 (.tmp 39) (.int .u32 a0.f3) rfl (by kernel_rfl) (by kernel_rfl) (by kernel_rfl) ?_; clear ha a; intro a ha
              refine stepp ha 41 (.pointer (some ⟨b2743, 3, none⟩)) (by kernel_rfl) (by kernel_rfl) ?_; clear ha a; intro a ha
              refine stepl ha 42 (HW.ca (i := 0) (b := b2743) (C := #[.int .i64 a1.f0, .int .i64 a1.f1, .int .i64 a1.f2, .int .u32 a1.f3, .int .i64 a1.f4, .int .u32 a1.f5.f0, .int .u32 a1.f5.f1, .int .u32 a1.f5.f2, .int .u32 a1.f5.f3, .int .u32 a1.f5.f4, .int .u32 a1.f5.f5]) (T := 25) (fr := (0, 0)) (by kernel_rfl)) 22 3 (.tmp 41) (.int .u32 a1.f3) rfl (by kernel_rfl) (by kernel_rfl) (by kernel_rfl) ?_; clear ha a; intro a ha
              refine stepp ha 43 (.bool (a0.f3 == a1.f3)) (by kernel_rfl) (by kernel_rfl) ?_; clear ha a; intro a ha
              refine stepp ha 44 (.bool (a0.f3 == a1.f3)) (by kernel_rfl) (by kernel_rfl) ?_; clear ha a; intro a ha
              refine stepp ha 45 (.bool (a0.f3 == a1.f3)) (by kernel_rfl) (by kernel_rfl) ?_; clear ha a; intro a ha
              by_cases hp2802 : a0.f3 = a1.f3
              · skip
                replace h := ite_pos' h hp2802
                replace ha := ha.bool 45 (by kernel_rfl) (ieq_t hp2802)
                refine stepp ha 46 (.pointer (some ⟨b2741, 4, none⟩)) (by kernel_rfl) (by kernel_rfl) ?_; clear ha a; intro a ha
                refine stepl ha 47 (HW.ca (i := 1) (b := b2741) (C := #[.int .i64 a0.f0, .int .i64 a0.f1, .int .i64 a0.f2, .int .u32 a0.f3, .int .i64 a0.f4, .int .u32 a0.f5.f0, .int .u32 a0.f5.f1, .int .u32 a0.f5.f2, .int .u32 a0.f5.f3, .int .u32 a0.f5.f4, .int .u32 a0.f5.f5]) (T := 25) (fr := (0, 0)) (by kernel_rfl)) 3 4 (.tmp 46) (.int .i64 a0.f4) rfl (by kernel_rfl) (by kernel_rfl) (by kernel_rfl) ?_; clear ha a; intro a ha
                refine stepp ha 48 (.pointer (some ⟨b2743, 4, none⟩)) (by kernel_rfl) (by kernel_rfl) ?_; clear ha a; intro a ha
                refine stepl ha 49 (HW.ca (i := 0) (b := b2743) (C := #[.int .i64 a1.f0, .int .i64 a1.f1, .int .i64 a1.f2, .int .u32 a1.f3, .int .i64 a1.f4, .int .u32 a1.f5.f0, .int .u32 a1.f5.f1, .int .u32 a1.f5.f2, .int .u32 a1.f5.f3, .int .u32 a1.f5.f4, .int .u32 a1.f5.f5]) (T := 25) (fr := (0, 0)) (by kernel_rfl)) 3 4 (.tmp 48) (.int .i64 a1.f4) rfl (by kernel_rfl) (by kernel_rfl) (by kernel_rfl) ?_; clear ha a; intro a ha
                refine stepp ha 50 (.bool (a0.f4 == a1.f4)) (by kernel_rfl) (by kernel_rfl) ?_; clear ha a; intro a ha
                refine stepp ha 51 (.bool (a0.f4 == a1.f4)) (by kernel_rfl) (by kernel_rfl) ?_; clear ha a; intro a ha
                refine stepp ha 4 (.bool (a0.f4 == a1.f4)) (by kernel_rfl) (by kernel_rfl) ?_; clear ha a; intro a ha
                refine endl ?_
                refine thenN (hK2798 _ _ ?_); clear hK2798
                refine wp_ret ?_
                obtain rfl := Option.some.inj h
                exact finv ha _ _ rfl (.tmp (v := .bool (a0.f4 == a1.f4)) (by kernel_rfl) .nil) (.bool (a0.f4 == a1.f4)) rfl ⟨rfl, HW.pick [] [] (by decide) (by decide) rfl (by kernel_rfl)⟩
              · skip
                replace h := ite_neg' h hp2802
                replace ha := ha.bool 45 (by kernel_rfl) (ieq_f hp2802)
                refine stepo ha 46 (by kernel_rfl) ?_; clear ha a; intro a ha
                refine stepo ha 47 (by kernel_rfl) ?_; clear ha a; intro a ha
                refine stepo ha 48 (by kernel_rfl) ?_; clear ha a; intro a ha
                refine stepo ha 49 (by kernel_rfl) ?_; clear ha a; intro a ha
                refine stepo ha 50 (by kernel_rfl) ?_; clear ha a; intro a ha
                refine stepp ha 51 (.bool false) (by kernel_rfl) (by kernel_rfl) ?_; clear ha a; intro a ha
                refine stepp ha 4 (.bool false) (by kernel_rfl) (by kernel_rfl) ?_; clear ha a; intro a ha
                refine endl ?_
                refine thenN (hK2798 _ _ ?_); clear hK2798
                refine wp_ret ?_
                obtain rfl := Option.some.inj h
                exact finv ha _ _ rfl (.tmp (v := .bool false) (by kernel_rfl) .nil) (.bool false) rfl ⟨rfl, HW.pick [] [] (by decide) (by decide) rfl (by kernel_rfl)⟩
            · skip
              replace h := ite_neg' h hp2801
              replace ha := ha.bool 38 (by kernel_rfl) (ieq_f hp2801)
              refine stepo ha 39 (by kernel_rfl) ?_; clear ha a; intro a ha
              refine stepo ha 40 (by kernel_rfl) ?_; clear ha a; intro a ha
              refine stepo ha 41 (by kernel_rfl) ?_; clear ha a; intro a ha
              refine stepo ha 42 (by kernel_rfl) ?_; clear ha a; intro a ha
              refine stepo ha 43 (by kernel_rfl) ?_; clear ha a; intro a ha
              refine stepp ha 44 (.bool false) (by kernel_rfl) (by kernel_rfl) ?_; clear ha a; intro a ha
              refine stepp ha 45 (.bool false) (by kernel_rfl) (by kernel_rfl) ?_; clear ha a; intro a ha
              refine stepo ha 46 (by kernel_rfl) ?_; clear ha a; intro a ha
              refine stepo ha 47 (by kernel_rfl) ?_; clear ha a; intro a ha
              refine stepo ha 48 (by kernel_rfl) ?_; clear ha a; intro a ha
              refine stepo ha 49 (by kernel_rfl) ?_; clear ha a; intro a ha
              refine stepo ha 50 (by kernel_rfl) ?_; clear ha a; intro a ha
              refine stepp ha 51 (.bool false) (by kernel_rfl) (by kernel_rfl) ?_; clear ha a; intro a ha
              refine stepp ha 4 (.bool false) (by kernel_rfl) (by kernel_rfl) ?_; clear ha a; intro a ha
              refine endl ?_
              refine thenN (hK2798 _ _ ?_); clear hK2798
              refine wp_ret ?_
              obtain rfl := Option.some.inj h
              exact finv ha _ _ rfl (.tmp (v := .bool false) (by kernel_rfl) .nil) (.bool false) rfl ⟨rfl, HW.pick [] [] (by decide) (by decide) rfl (by kernel_rfl)⟩
          · skip
            replace h := ite_neg' h hp2800
            replace ha := ha.bool 31 (by kernel_rfl) (ieq_f hp2800)
            refine stepo ha 32 (by kernel_rfl) ?_; clear ha a; intro a ha
            refine stepo ha 33 (by kernel_rfl) ?_; clear ha a; intro a ha
            refine stepo ha 34 (by kernel_rfl) ?_; clear ha a; intro a ha
            refine stepo ha 35 (by kernel_rfl) ?_; clear ha a; intro a ha
            refine stepo ha 36 (by kernel_rfl) ?_; clear ha a; intro a ha
            refine stepp ha 37 (.bool false) (by kernel_rfl) (by kernel_rfl) ?_; clear ha a; intro a ha
            refine stepp ha 38 (.bool false) (by kernel_rfl) (by kernel_rfl) ?_; clear ha a; intro a ha
            refine stepo ha 39 (by kernel_rfl) ?_; clear ha a; intro a ha
            refine stepo ha 40 (by kernel_rfl) ?_; clear ha a; intro a ha
            refine stepo ha 41 (by kernel_rfl) ?_; clear ha a; intro a ha
            refine stepo ha 42 (by kernel_rfl) ?_; clear ha a; intro a ha
            refine stepo ha 43 (by kernel_rfl) ?_; clear ha a; intro a ha
            refine stepp ha 44 (.bool false) (by kernel_rfl) (by kernel_rfl) ?_; clear ha a; intro a ha
            refine stepp ha 45 (.bool false) (by kernel_rfl) (by kernel_rfl) ?_; clear ha a; intro a ha
            refine stepo ha 46 (by kernel_rfl) ?_; clear ha a; intro a ha
            refine stepo ha 47 (by kernel_rfl) ?_; clear ha a; intro a ha
            refine stepo ha 48 (by kernel_rfl) ?_; clear ha a; intro a ha
            refine stepo ha 49 (by kernel_rfl) ?_; clear ha a; intro a ha
            refine stepo ha 50 (by kernel_rfl) ?_; clear ha a; intro a ha
            refine stepp ha 51 (.bool false) (by kernel_rfl) (by kernel_rfl) ?_; clear ha a; intro a ha
            refine stepp ha 4 (.bool false) (by kernel_rfl) (by kernel_rfl) ?_; clear ha a; intro a ha
            refine endl ?_
            refine thenN (hK2798 _ _ ?_); clear hK2798
            refine wp_ret ?_
            obtain rfl := Option.some.inj h
            exact finv ha _ _ rfl (.tmp (v := .bool false) (by kernel_rfl) .nil) (.bool false) rfl ⟨rfl, HW.pick [] [] (by decide) (by decide) rfl (by kernel_rfl)⟩
        · skip
          replace h := ite_neg' h hp2799
          replace ha := ha.bool 24 (by kernel_rfl) (ieq_f hp2799)
          refine stepo ha 25 (by kernel_rfl) ?_; clear ha a; intro a ha
          refine stepo ha 26 (by kernel_rfl) ?_; clear ha a; intro a ha
          refine stepo ha 27 (by kernel_rfl) ?_; clear ha a; intro a ha
          refine stepo ha 28 (by kernel_rfl) ?_; clear ha a; intro a ha
          refine stepo ha 29 (by kernel_rfl) ?_; clear ha a; intro a ha
          refine stepp ha 30 (.bool false) (by kernel_rfl) (by kernel_rfl) ?_; clear ha a; intro a ha
          refine stepp ha 31 (.bool false) (by kernel_rfl) (by kernel_rfl) ?_; clear ha a; intro a ha
          refine stepo ha 32 (by kernel_rfl) ?_; clear ha a; intro a ha
          refine stepo ha 33 (by kernel_rfl) ?_; clear ha a; intro a ha
          refine stepo ha 34 (by kernel_rfl) ?_; clear ha a; intro a ha
          refine stepo ha 35 (by kernel_rfl) ?_; clear ha a; intro a ha
          refine stepo ha 36 (by kernel_rfl) ?_; clear ha a; intro a ha
          refine stepp ha 37 (.bool false) (by kernel_rfl) (by kernel_rfl) ?_; clear ha a; intro a ha
          refine stepp ha 38 (.bool false) (by kernel_rfl) (by kernel_rfl) ?_; clear ha a; intro a ha
          refine stepo ha 39 (by kernel_rfl) ?_; clear ha a; intro a ha
          refine stepo ha 40 (by kernel_rfl) ?_; clear ha a; intro a ha
          refine stepo ha 41 (by kernel_rfl) ?_; clear ha a; intro a ha
          refine stepo ha 42 (by kernel_rfl) ?_; clear ha a; intro a ha
          refine stepo ha 43 (by kernel_rfl) ?_; clear ha a; intro a ha
          refine stepp ha 44 (.bool false) (by kernel_rfl) (by kernel_rfl) ?_; clear ha a; intro a ha
          refine stepp ha 45 (.bool false) (by kernel_rfl) (by kernel_rfl) ?_; clear ha a; intro a ha
          refine stepo ha 46 (by kernel_rfl) ?_; clear ha a; intro a ha
          refine stepo ha 47 (by kernel_rfl) ?_; clear ha a; intro a ha
          refine stepo ha 48 (by kernel_rfl) ?_; clear ha a; intro a ha
          refine stepo ha 49 (by kernel_rfl) ?_; clear ha a; intro a ha
          refine stepo ha 50 (by kernel_rfl) ?_; clear ha a; intro a ha
          refine stepp ha 51 (.bool false) (by kernel_rfl) (by kernel_rfl) ?_; clear ha a; intro a ha
          refine stepp ha 4 (.bool false) (by kernel_rfl) (by kernel_rfl) ?_; clear ha a; intro a ha
          refine endl ?_
          refine thenN (hK2798 _ _ ?_); clear hK2798
          refine wp_ret ?_
          obtain rfl := Option.some.inj h
          exact finv ha _ _ rfl (.tmp (v := .bool false) (by kernel_rfl) .nil) (.bool false) rfl ⟨rfl, HW.pick [] [] (by decide) (by decide) rfl (by kernel_rfl)⟩
end Go.Proofs.YtceagilmillgfaaDoor.F
