/- headgate/cdb.formOf, headgate/cdb.Length, headgate/cdb.Parse$1, headgate/cdb.known, headgate/cdb.typed, headgate/cdb.Type: plain functions, and that the calls come to what they say. No condition. -/
import Derived.Test.YteilejfncdacfaaGreatDoorFT
import Derived.Test.YteilejfncdacfaaGreatDoorF243
namespace Go.Proofs.YteilejfncdacfaaGreatDoor.F
open Go Go.RowKit Go.Proofs.YteilejfncdacfaaGreatDoor.X
set_option linter.unusedVariables false
set_option linter.unusedSimpArgs false
/-! ### headgate/cdb.formOf: function 118 -/
def cdb_formOf.b0 (K : Nat) (a0 : Int) (again2705 : Int → Option (Option T_cdb_form)) (x2706 : Int) : Option (Option T_cdb_form) :=
  if x2706 < 14 then (asrt (0 ≤ x2706) (if ((rdL T_cdb_form.z G_cdb_forms x2706).f0) = a0 then (some (some (⟨(rdL T_cdb_form.z G_cdb_forms x2706).f0, (rdL T_cdb_form.z G_cdb_forms x2706).f1, (⟨(rdL T_cdb_form.z G_cdb_forms x2706).f2.f0, (rdL T_cdb_form.z G_cdb_forms x2706).f2.f1⟩ : T_cdb_span), (⟨(rdL T_cdb_form.z G_cdb_forms x2706).f3.f0, (rdL T_cdb_form.z G_cdb_forms x2706).f3.f1⟩ : T_cdb_span), (⟨(rdL T_cdb_form.z G_cdb_forms x2706).f4.f0, (rdL T_cdb_form.z G_cdb_forms x2706).f4.f1⟩ : T_cdb_span)⟩ : T_cdb_form) : Option T_cdb_form)) else (again2705 (IntKind.wrap .i64 (x2706 + 1))))) else (some (none : Option T_cdb_form))
def cdb_formOf.l0 (K : Nat) (a0 : Int) : Nat → Int → Option (Option T_cdb_form)
  | 0, _ => none
  | k_ + 1, x2706 => cdb_formOf.b0 K a0 (cdb_formOf.l0 K a0 k_) x2706
def cdb_formOf.f (K : Nat) (a0 : Int) : Option (Option T_cdb_form) :=
  cdb_formOf.l0 K a0 K 0
set_option maxRecDepth 100000 in
set_option maxHeartbeats 4000000 in
theorem cdb_formOf.calls (K : Nat) (a0 : Int)  (r : Option T_cdb_form) (w : World) (hG2 : CA w 2 0 (encs T_cdb_form.enc G_cdb_forms).toArray) (h : cdb_formOf.f K a0 = some r) :
    Calls Tryz.prog 118 #[.int .i64 a0] w (fun e W' => ∃ b_, e = .returned (pv r b_) ∧ Wd w W' (pb T_cdb_form.enc 216 r b_) []) := by
  refine sxstart (n := 14) (l := [(0, .int .i64 a0)]) Tryz.func118 rfl rfl (Nat.le_of_ble_eq_true KR) (subsA_cons rfl (subsA_nil _)) ?_
  intro a ha
  have HW := Wd.refl w
  unfold cdb_formOf.f at h
  refine wp_seq_k (fun K2662 hK2663 => ?_)
  refine wp_region_lit ?_
  refine stepp ha 2 (.pointer none) KR KR ?_; clear ha a; intro a ha
  refine endl ?_
  refine thenN (hK2663 _ _ ?_); clear hK2663
  refine wp_seq_k (fun K2664 hK2665 => ?_)
  refine wp_seq_k (fun K2666 hK2667 => ?_)
  refine wp_region_lit ?_
  refine stepl ha 5 (HW.ca0 hG2) 314 0 (.global 2) (.agg (encs T_cdb_form.enc G_cdb_forms).toArray) rfl KR KR KR ?_; clear ha a; intro a ha
  refine stepp ha 6 (.int .i64 0) KR KR ?_; clear ha a; intro a ha
  refine endl ?_
  refine thenN (hK2667 _ _ ?_); clear hK2667
  refine wp_block ?_
  refine loopk (fun k => fun a W2707 => ∃ (x2706 : Int), cdb_formOf.l0 K a0 k x2706 = some r ∧ Has 14 [(0, .int .i64 a0), (5, .agg (encs T_cdb_form.enc G_cdb_forms).toArray), (6, .int .i64 x2706)] a ∧ Wd w W2707 [] []) K ?_ ?_
  · skip
    exact ⟨0, h, ha.sub (subs_cons KR (subs_cons KR (subs_cons KR (subs_nil _)))), HW.pick [] [] (by decide) (by decide) KR KR⟩
  · skip
    intro k a W2707 hI
    obtain ⟨x2706, h, ha, HW⟩ := hI
    cases k with
    | zero => exact (none_some (show none = some r from h)).elim
    | succ k2708 =>
      replace h : cdb_formOf.b0 K a0 (cdb_formOf.l0 K a0 k2708) x2706 = some r := h
      obtain ⟨again2705, hag2709⟩ : ∃ g_, g_ = cdb_formOf.l0 K a0 k2708 := ⟨_, rfl⟩
      rw [← hag2709] at h
      unfold cdb_formOf.b0 at h
      refine wp_seq_k (fun K2710 hK2711 => ?_)
      refine wp_region_lit ?_
      refine stepp ha 7 (.bool (decide (x2706 < 14))) KR KR ?_; clear ha a; intro a ha
      refine endl ?_
      refine thenN (hK2711 _ _ ?_); clear hK2711
      refine wp_seq_k (fun K2712 hK2713 => ?_)
      by_cases hp2714 : x2706 < 14
      · skip
        replace h := ite_pos' h hp2714
        refine condT ha KR KR (t := decide (x2706 < 14)) (decide_eq_true hp2714) ?_
        refine wp_skip ?_
        refine thenN (hK2713 _ _ ?_); clear hK2713
        refine wp_seq_k (fun K2715 hK2716 => ?_)
        refine wp_block ?_
        refine wp_seq_k (fun K2717 hK2718 => ?_)
        refine wp_region_lit ?_
        obtain ⟨hA2719, h_⟩ := asrt_some h; clear h; have h := h_; clear h_
        refine stepag T_cdb_form.enc T_cdb_form.z ha 8 314 14 216 (.tmp 5) (.tmp 6) .i64 x2706 G_cdb_forms (.agg #[.int .i64 ((rdL T_cdb_form.z G_cdb_forms x2706).f0), .int .i64 ((rdL T_cdb_form.z G_cdb_forms x2706).f1), .int .i64 ((rdL T_cdb_form.z G_cdb_forms x2706).f2.f0), .int .i64 ((rdL T_cdb_form.z G_cdb_forms x2706).f2.f1), .int .i64 ((rdL T_cdb_form.z G_cdb_forms x2706).f3.f0), .int .i64 ((rdL T_cdb_form.z G_cdb_forms x2706).f3.f1), .int .i64 ((rdL T_cdb_form.z G_cdb_forms x2706).f4.f0), .int .i64 ((rdL T_cdb_form.z G_cdb_forms x2706).f4.f1)]) rfl KR KR KR KR (fun _ => rfl) hA2719 hp2714 KR rfl ?_; clear ha a; intro a ha
        refine stepnew ha HW 4 #[.int .i64 0, .int .i64 0, .int .i64 0, .int .i64 0, .int .i64 0, .int .i64 0, .int .i64 0, .int .i64 0] 216 KR KR ?_; clear ha HW a; intro b2720 a W2721 HW ha
        refine stepst ha HW 0 (b := b2720) (C := #[.int .i64 0, .int .i64 0, .int .i64 0, .int .i64 0, .int .i64 0, .int .i64 0, .int .i64 0, .int .i64 0]) (T := 216) KR 216 0 (.tmp 4) (.tmp 8) (.agg #[.int .i64 ((rdL T_cdb_form.z G_cdb_forms x2706).f0), .int .i64 ((rdL T_cdb_form.z G_cdb_forms x2706).f1), .int .i64 ((rdL T_cdb_form.z G_cdb_forms x2706).f2.f0), .int .i64 ((rdL T_cdb_form.z G_cdb_forms x2706).f2.f1), .int .i64 ((rdL T_cdb_form.z G_cdb_forms x2706).f3.f0), .int .i64 ((rdL T_cdb_form.z G_cdb_forms x2706).f3.f1), .int .i64 ((rdL T_cdb_form.z G_cdb_forms x2706).f4.f0), .int .i64 ((rdL T_cdb_form.z G_cdb_forms x2706).f4.f1)]) #[.int .i64 ((rdL T_cdb_form.z G_cdb_forms x2706).f0), .int .i64 ((rdL T_cdb_form.z G_cdb_forms x2706).f1), .int .i64 ((rdL T_cdb_form.z G_cdb_forms x2706).f2.f0), .int .i64 ((rdL T_cdb_form.z G_cdb_forms x2706).f2.f1), .int .i64 ((rdL T_cdb_form.z G_cdb_forms x2706).f3.f0), .int .i64 ((rdL T_cdb_form.z G_cdb_forms x2706).f3.f1), .int .i64 ((rdL T_cdb_form.z G_cdb_forms x2706).f4.f0), .int .i64 ((rdL T_cdb_form.z G_cdb_forms x2706).f4.f1)] rfl KR KR KR KR KR KR KR ?_; clear ha HW a; intro a W2722 HW ha
        refine endl ?_
        refine thenN (hK2718 _ _ ?_); clear hK2718
        refine wp_seq_k (fun K2723 hK2724 => ?_)
        refine wp_region_lit ?_
        refine stepp ha 9 (.pointer (some ⟨b2720, 0, none⟩)) KR KR ?_; clear ha a; intro a ha
        refine stepl ha 10 (HW.ca (i := 0) (b := b2720) (C := #[.int .i64 ((rdL T_cdb_form.z G_cdb_forms x2706).f0), .int .i64 ((rdL T_cdb_form.z G_cdb_forms x2706).f1), .int .i64 ((rdL T_cdb_form.z G_cdb_forms x2706).f2.f0), .int .i64 ((rdL T_cdb_form.z G_cdb_forms x2706).f2.f1), .int .i64 ((rdL T_cdb_form.z G_cdb_forms x2706).f3.f0), .int .i64 ((rdL T_cdb_form.z G_cdb_forms x2706).f3.f1), .int .i64 ((rdL T_cdb_form.z G_cdb_forms x2706).f4.f0), .int .i64 ((rdL T_cdb_form.z G_cdb_forms x2706).f4.f1)]) (T := 216) (fr := (0, 0)) KR) 3 0 (.tmp 9) (.int .i64 ((rdL T_cdb_form.z G_cdb_forms x2706).f0)) rfl KR KR KR ?_; clear ha a; intro a ha
        refine stepp ha 11 (.int .i64 a0) KR KR ?_; clear ha a; intro a ha
        refine stepp ha 12 (.bool (((rdL T_cdb_form.z G_cdb_forms x2706).f0) == a0)) KR KR ?_; clear ha a; intro a ha
        refine endl ?_
        refine thenN (hK2724 _ _ ?_); clear hK2724
        by_cases hp2725 : ((rdL T_cdb_form.z G_cdb_forms x2706).f0) = a0
        · skip
          replace h := ite_pos' h hp2725
          refine condT ha KR KR (t := (((rdL T_cdb_form.z G_cdb_forms x2706).f0) == a0)) (ieq_t hp2725) ?_
          refine wp_seq_k (fun K2726 hK2727 => ?_)
          refine wp_region_lit ?_
          refine stepp ha 2 (.pointer (some ⟨b2720, 0, none⟩)) KR KR ?_; clear ha a; intro a ha
          refine endl ?_
          refine thenN (hK2727 _ _ ?_); clear hK2727
          refine wp_ret ?_
          refine blkR ?_
          refine thenR ?_
          refine thenR ?_
          refine blkR ?_
          refine thenR ?_
          obtain rfl := Option.some.inj h
          exact finv ha _ _ rfl (.tmp (v := .pointer (some ⟨b2720, 0, none⟩)) KR .nil) (.pointer (some ⟨b2720, 0, none⟩)) rfl ⟨b2720, rfl, HW.pick [0] [] (by decide) (by decide) KR rfl⟩
        · skip
          replace h := ite_neg' h hp2725
          refine condF ha KR KR (t := (((rdL T_cdb_form.z G_cdb_forms x2706).f0) == a0)) (ieq_f hp2725) ?_
          refine wp_skip ?_
          refine blkN ?_
          refine thenN (hK2716 _ _ ?_); clear hK2716
          refine wp_region_lit ?_
          refine stepp ha 13 (.int .i64 (IntKind.wrap .i64 (x2706 + 1))) KR KR ?_; clear ha a; intro a ha
          refine stepp ha 6 (.int .i64 (IntKind.wrap .i64 (x2706 + 1))) KR KR ?_; clear ha a; intro a ha
          refine endl ?_
          exact thenN ⟨k2708, Nat.lt_succ_self k2708, IntKind.wrap .i64 (x2706 + 1), (by rw [← hag2709]; exact h), ha.sub (subs_cons KR (subs_cons KR (subs_cons KR (subs_nil _)))), HW.pick [] [] (by decide) (by decide) KR KR⟩
      · skip
        replace h := ite_neg' h hp2714
        refine condF ha KR KR (t := decide (x2706 < 14)) (decide_eq_false hp2714) ?_
        refine wp_exit ?_
        refine thenE ?_
        refine thenE ?_
        refine inBlk ?_
        refine thenN (hK2665 _ _ ?_); clear hK2665
        refine wp_seq_k (fun K2728 hK2729 => ?_)
        refine wp_region_lit ?_
        refine stepp ha 2 (.pointer none) KR KR ?_; clear ha a; intro a ha
        refine endl ?_
        refine thenN (hK2729 _ _ ?_); clear hK2729
        refine wp_ret ?_
        obtain rfl := Option.some.inj h
        exact finv ha _ _ rfl (.tmp (v := .pointer none) KR .nil) (.pointer none) rfl ⟨0, rfl, HW.pick [] [] (by decide) (by decide) rfl rfl⟩
/-! ### headgate/cdb.Length: function 117 -/
def cdb_Length.f (K : Nat) (a0 : ByteArray) : Option Int :=
  if a0 = (⟨#[]⟩ : ByteArray) then (some 0) else (asrt (0 < (a0.size : Int)) ((cdb_formOf.f K (IntKind.wrap .i64 (bt a0 0))).bind fun t2744 => (optc t2744 (some 0) (fun x2749 => (some x2749.f1)))))
set_option maxRecDepth 100000 in
set_option maxHeartbeats 4000000 in
theorem cdb_Length.calls (K : Nat) (a0 : ByteArray)  (r : Int) (w : World) (hG2 : CA w 2 0 (encs T_cdb_form.enc G_cdb_forms).toArray) (h : cdb_Length.f K a0 = some r) :
    Calls Tryz.prog 117 #[.string a0] w (fun e W' => e = .returned (.int .i64 r) ∧ Wd w W' [] [] ) := by
  refine sxstart (n := 16) (l := [(0, .string a0)]) Tryz.func117 rfl rfl (Nat.le_of_ble_eq_true KR) (subsA_cons rfl (subsA_nil _)) ?_
  intro a ha
  have HW := Wd.refl w
  unfold cdb_Length.f at h
  refine wp_seq_k (fun K2730 hK2731 => ?_)
  refine wp_region_lit ?_
  refine stepp ha 2 (.int .i64 0) KR KR ?_; clear ha a; intro a ha
  refine endl ?_
  refine thenN (hK2731 _ _ ?_); clear hK2731
  refine wp_seq_k (fun K2732 hK2733 => ?_)
  refine wp_seq_k (fun K2734 hK2735 => ?_)
  refine wp_region_lit ?_
  refine stepp ha 4 (.string a0) KR KR ?_; clear ha a; intro a ha
  refine stepp ha 5 (.bool (a0.toList == (⟨#[]⟩ : ByteArray).toList)) KR KR ?_; clear ha a; intro a ha
  refine endl ?_
  refine thenN (hK2735 _ _ ?_); clear hK2735
  by_cases hp2736 : a0 = (⟨#[]⟩ : ByteArray)
  · skip
    replace h := ite_pos' h hp2736
    refine condT ha KR KR (t := (a0.toList == (⟨#[]⟩ : ByteArray).toList)) (str_eq_t hp2736) ?_
    refine wp_seq_k (fun K2737 hK2738 => ?_)
    refine wp_region_lit ?_
    refine stepp ha 2 (.int .i64 0) KR KR ?_; clear ha a; intro a ha
    refine endl ?_
    refine thenN (hK2738 _ _ ?_); clear hK2738
    refine wp_ret ?_
    refine thenR ?_
    obtain rfl := Option.some.inj h
    exact finv ha _ _ rfl (.tmp (v := .int .i64 0) KR .nil) (.int .i64 0) rfl ⟨rfl, HW.pick [] [] (by decide) (by decide) rfl KR⟩
  · skip
    replace h := ite_neg' h hp2736
    refine condF ha KR KR (t := (a0.toList == (⟨#[]⟩ : ByteArray).toList)) (str_eq_f hp2736) ?_
    refine wp_skip ?_
    refine thenN (hK2733 _ _ ?_); clear hK2733
    refine wp_seq_k (fun K2739 hK2740 => ?_)
    refine wp_seq_k (fun K2741 hK2742 => ?_)
    refine wp_region_lit ?_
    refine stepp ha 6 (.string a0) KR KR ?_; clear ha a; intro a ha
    obtain ⟨hA2743, h_⟩ := asrt_some h; clear h; have h := h_; clear h_
    refine stepsi ha 7 9 (.tmp 6) (.const (.int .i64 0)) a0 .i64 0 rfl KR KR KR (by decide) (show (0 : Int) < ((a0).size : Int) from hA2743) KR ?_; clear ha a; intro a ha
    refine stepp ha 8 (.int .i64 (IntKind.wrap .i64 (bt a0 0))) KR KR ?_; clear ha a; intro a ha
    obtain ⟨t2744, ht2745, h_⟩ := bind_some' h; clear h; have h := h_; clear h_
    refine stepc ha 9 KR KR (cdb_formOf.calls K (IntKind.wrap .i64 (bt a0 0)) t2744 _ (HW.ca0 hG2) ht2745) ?_; clear ha a; rintro e W2747 ⟨b2746, rfl, HX2748⟩
    refine ⟨_, rfl, ?_⟩; intro a ha; replace HW := HW.callw HX2748; clear HX2748
    rcases t2744 with _ | x2749
    · skip
      replace h := optc_n h
      replace HW : Wd w W2747 [] [] := HW
      replace ha := ha.turn 9 (v := .pointer none) KR rfl
      refine stepp ha 3 (.pointer none) KR KR ?_; clear ha a; intro a ha
      refine endl ?_
      refine thenN (hK2742 _ _ ?_); clear hK2742
      refine wp_seq_k (fun K2750 hK2751 => ?_)
      refine wp_region_lit ?_
      refine stepp ha 10 (.pointer none) KR KR ?_; clear ha a; intro a ha
      refine stepp ha 11 (.bool false) KR KR ?_; clear ha a; intro a ha
      refine endl ?_
      refine thenN (hK2751 _ _ ?_); clear hK2751
      refine condF ha KR KR (t := false) (rfl) ?_
      refine wp_skip ?_
      refine thenN (hK2740 _ _ ?_); clear hK2740
      refine wp_seq_k (fun K2756 hK2757 => ?_)
      refine wp_region_lit ?_
      refine stepp ha 2 (.int .i64 0) KR KR ?_; clear ha a; intro a ha
      refine endl ?_
      refine thenN (hK2757 _ _ ?_); clear hK2757
      refine wp_ret ?_
      obtain rfl := Option.some.inj h
      exact finv ha _ _ rfl (.tmp (v := .int .i64 0) KR .nil) (.int .i64 0) rfl ⟨rfl, HW.pick [] [] (by decide) (by decide) rfl KR⟩
    · skip
      replace h := optc_s h
      replace HW : Wd w W2747 [(b2746, .cells #[.int .i64 x2749.f0, .int .i64 x2749.f1, .int .i64 x2749.f2.f0, .int .i64 x2749.f2.f1, .int .i64 x2749.f3.f0, .int .i64 x2749.f3.f1, .int .i64 x2749.f4.f0, .int .i64 x2749.f4.f1] 216 (0, 0))] [] := HW
      replace ha := ha.turn 9 (v := .pointer (some ⟨b2746, 0, none⟩)) KR rfl
      refine stepp ha 3 (.pointer (some ⟨b2746, 0, none⟩)) KR KR ?_; clear ha a; intro a ha
      refine endl ?_
      refine thenN (hK2742 _ _ ?_); clear hK2742
      refine wp_seq_k (fun K2752 hK2753 => ?_)
      refine wp_region_lit ?_
      refine stepp ha 10 (.pointer (some ⟨b2746, 0, none⟩)) KR KR ?_; clear ha a; intro a ha
      refine stepp ha 11 (.bool true) KR KR ?_; clear ha a; intro a ha
      refine endl ?_
      refine thenN (hK2753 _ _ ?_); clear hK2753
      refine condT ha KR KR (t := true) (rfl) ?_
      refine wp_seq_k (fun K2754 hK2755 => ?_)
      refine wp_region_lit ?_
      refine stepp ha 12 (.pointer (some ⟨b2746, 0, none⟩)) KR KR ?_; clear ha a; intro a ha
      refine stepp ha 13 (.pointer (some ⟨b2746, 0, none⟩)) KR KR ?_; clear ha a; intro a ha
      refine stepp ha 14 (.pointer (some ⟨b2746, 1, none⟩)) KR KR ?_; clear ha a; intro a ha
      refine stepl ha 15 (HW.ca (i := 0) (b := b2746) (C := #[.int .i64 x2749.f0, .int .i64 x2749.f1, .int .i64 x2749.f2.f0, .int .i64 x2749.f2.f1, .int .i64 x2749.f3.f0, .int .i64 x2749.f3.f1, .int .i64 x2749.f4.f0, .int .i64 x2749.f4.f1]) (T := 216) (fr := (0, 0)) KR) 3 1 (.tmp 14) (.int .i64 x2749.f1) rfl KR KR KR ?_; clear ha a; intro a ha
      refine stepp ha 2 (.int .i64 x2749.f1) KR KR ?_; clear ha a; intro a ha
      refine endl ?_
      refine thenN (hK2755 _ _ ?_); clear hK2755
      refine wp_ret ?_
      refine thenR ?_
      obtain rfl := Option.some.inj h
      exact finv ha _ _ rfl (.tmp (v := .int .i64 x2749.f1) KR .nil) (.int .i64 x2749.f1) rfl ⟨rfl, HW.pick [] [] (by decide) (by decide) rfl KR⟩
/-! ### headgate/cdb.Parse$1: function 119 -/
def cdb_Parse_1.f (K : Nat) (a0 : T_cdb_span) (k0 : ByteArray) : Option Int :=
  (fields_Big.f K k0 a0.f0 a0.f1).bind fun t2764 => (some (IntKind.wrap .i64 (mn t2764.1 4611686018427387904)))
set_option maxRecDepth 100000 in
set_option maxHeartbeats 4000000 in
theorem cdb_Parse_1.calls (K : Nat) (a0 : T_cdb_span) (k0 : ByteArray) (cb0 : Nat) (r : Int) (w : World) (hc0 : CA w cb0 0 #[.string k0]) (h : cdb_Parse_1.f K a0 k0 = some r) :
    Calls Tryz.prog 119 #[.agg #[.int .i64 a0.f0, .int .i64 a0.f1], .pointer (some ⟨cb0, 0, none⟩)] w (fun e W' => e = .returned (.int .i64 r) ∧ Wd w W' [] [] ) := by
  refine sxstart (n := 18) (l := [(0, .agg #[.int .i64 a0.f0, .int .i64 a0.f1]), (1, .pointer (some ⟨cb0, 0, none⟩))]) Tryz.func119 rfl rfl (Nat.le_of_ble_eq_true KR) (subsA_cons rfl (subsA_cons rfl (subsA_nil _))) ?_
  intro a ha
  have HW := Wd.refl w
  unfold cdb_Parse_1.f at h
  refine wp_seq_k (fun K2758 hK2759 => ?_)
  refine wp_region_lit ?_
  refine stepnew ha HW 2 #[.int .i64 a0.f0, .int .i64 a0.f1] 214 KR KR ?_; clear ha HW a; intro b2760 a W2761 HW ha
  refine stepp ha 3 (.int .i64 0) KR KR ?_; clear ha a; intro a ha
  refine endl ?_
  refine thenN (hK2759 _ _ ?_); clear hK2759
  refine wp_seq_k (fun K2762 hK2763 => ?_)
  refine wp_region_lit ?_
  refine stepl ha 7 (HW.ca0 hc0) 9 0 (.tmp 1) (.string k0) rfl KR KR KR ?_; clear ha a; intro a ha
  refine stepp ha 8 (.pointer (some ⟨b2760, 0, none⟩)) KR KR ?_; clear ha a; intro a ha
  refine stepl ha 9 (HW.ca (i := 0) (b := b2760) (C := #[.int .i64 a0.f0, .int .i64 a0.f1]) (T := 214) (fr := (0, 0)) KR) 3 0 (.tmp 8) (.int .i64 a0.f0) rfl KR KR KR ?_; clear ha a; intro a ha
  refine stepp ha 10 (.pointer (some ⟨b2760, 1, none⟩)) KR KR ?_; clear ha a; intro a ha
  refine stepl ha 11 (HW.ca (i := 0) (b := b2760) (C := #[.int .i64 a0.f0, .int .i64 a0.f1]) (T := 214) (fr := (0, 0)) KR) 3 1 (.tmp 10) (.int .i64 a0.f1) rfl KR KR KR ?_; clear ha a; intro a ha
  obtain ⟨t2764, ht2765, h_⟩ := bind_some' h; clear h; have h := h_; clear h_
  refine stepc ha 12 KR KR (fields_Big.calls K k0 a0.f0 a0.f1 t2764 _ ht2765) ?_; clear ha a; rintro e W2766 ⟨rfl, HX2767⟩
  refine ⟨_, rfl, ?_⟩; intro a ha; replace HW := HW.callw HX2767; clear HX2767
  refine stepp ha 6 (.tuple #[.int .u64 t2764.1, .bool t2764.2]) KR KR ?_; clear ha a; intro a ha
  refine stepp ha 13 (.int .u64 t2764.1) KR KR ?_; clear ha a; intro a ha
  refine stepp ha 14 (.bool t2764.2) KR KR ?_; clear ha a; intro a ha
  refine stepp ha 4 (.int .u64 t2764.1) KR KR ?_; clear ha a; intro a ha
  refine stepp ha 5 (.bool t2764.2) KR KR ?_; clear ha a; intro a ha
  refine endl ?_
  refine thenN (hK2763 _ _ ?_); clear hK2763
  refine wp_seq_k (fun K2768 hK2769 => ?_)
  refine wp_region_lit ?_
  refine stepp ha 15 (.int .u64 t2764.1) KR KR ?_; clear ha a; intro a ha
  refine stepmn ha 16 #[58, 58] (.tmp 15) (.const (.int .u64 4611686018427387904)) .u64 t2764.1 4611686018427387904 rfl KR KR KR ?_; clear ha a; intro a ha
  refine stepp ha 17 (.int .i64 (IntKind.wrap .i64 (mn t2764.1 4611686018427387904))) KR KR ?_; clear ha a; intro a ha
  refine stepp ha 3 (.int .i64 (IntKind.wrap .i64 (mn t2764.1 4611686018427387904))) KR KR ?_; clear ha a; intro a ha
  refine endl ?_
  refine thenN (hK2769 _ _ ?_); clear hK2769
  refine wp_ret ?_
  obtain rfl := Option.some.inj h
  exact finv ha _ _ rfl (.tmp (v := .int .i64 (IntKind.wrap .i64 (mn t2764.1 4611686018427387904))) KR .nil) (.int .i64 (IntKind.wrap .i64 (mn t2764.1 4611686018427387904))) rfl ⟨rfl, HW.pick [] [] (by decide) (by decide) rfl KR⟩
/-! ### headgate/cdb.known: function 120 -/
def cdb_known.f (a0 : Int) (a1 : Int) : Option Bool :=
  if a0 = 94 then (some (decide (a1 ≤ 1))) else (if a1 ≤ 4 then (some true) else (some (a1 == 6)))
set_option maxRecDepth 100000 in
set_option maxHeartbeats 4000000 in
theorem cdb_known.calls (a0 : Int) (a1 : Int)  (r : Bool) (w : World)  (h : cdb_known.f a0 a1 = some r) :
    Calls Tryz.prog 120 #[.int .i64 a0, .int .i64 a1] w (fun e W' => e = .returned (.bool r) ∧ Wd w W' [] [] ) := by
  refine sxstart (n := 15) (l := [(0, .int .i64 a0), (1, .int .i64 a1)]) Tryz.func120 rfl rfl (Nat.le_of_ble_eq_true KR) (subsA_cons rfl (subsA_cons rfl (subsA_nil _))) ?_
  intro a ha
  have HW := Wd.refl w
  unfold cdb_known.f at h
  refine wp_seq_k (fun K2770 hK2771 => ?_)
  refine wp_region_lit ?_
  refine stepp ha 4 (.bool false) KR KR ?_; clear ha a; intro a ha
  refine endl ?_
  refine thenN (hK2771 _ _ ?_); clear hK2771
  refine wp_seq_k (fun K2772 hK2773 => ?_)
  refine wp_seq_k (fun K2774 hK2775 => ?_)
  refine wp_region_lit ?_
  refine stepp ha 5 (.int .i64 a0) KR KR ?_; clear ha a; intro a ha
  refine stepp ha 6 (.bool (a0 == 94)) KR KR ?_; clear ha a; intro a ha
  refine endl ?_
  refine thenN (hK2775 _ _ ?_); clear hK2775
  by_cases hp2776 : a0 = 94
  · skip
    replace h := ite_pos' h hp2776
    refine condT ha KR KR (t := (a0 == 94)) (ieq_t hp2776) ?_
    refine wp_seq_k (fun K2777 hK2778 => ?_)
    refine wp_region_lit ?_
    refine stepp ha 7 (.int .i64 a1) KR KR ?_; clear ha a; intro a ha
    refine stepp ha 8 (.bool (decide (a1 ≤ 1))) KR KR ?_; clear ha a; intro a ha
    refine stepp ha 4 (.bool (decide (a1 ≤ 1))) KR KR ?_; clear ha a; intro a ha
    refine endl ?_
    refine thenN (hK2778 _ _ ?_); clear hK2778
    refine wp_ret ?_
    refine thenR ?_
    obtain rfl := Option.some.inj h
    exact finv ha _ _ rfl (.tmp (v := .bool (decide (a1 ≤ 1))) KR .nil) (.bool (decide (a1 ≤ 1))) rfl ⟨rfl, HW.pick [] [] (by decide) (by decide) rfl KR⟩
  · skip
    replace h := ite_neg' h hp2776
    refine condF ha KR KR (t := (a0 == 94)) (ieq_f hp2776) ?_
    refine wp_skip ?_
    refine thenN (hK2773 _ _ ?_); clear hK2773
    refine wp_seq_k (fun K2779 hK2780 => ?_)
    refine wp_region_lit ?_
    refine stepp ha 9 (.int .i64 a1) KR KR ?_; clear ha a; intro a ha
    refine stepp ha 10 (.bool (decide (a1 ≤ 4))) KR KR ?_; clear ha a; intro a ha
    refine stepp ha 11 (.bool (decide (a1 ≤ 4))) KR KR ?_; clear ha a; intro a ha
    by_cases hp2781 : a1 ≤ 4
    · skip
      replace h := ite_pos' h hp2781
      replace ha := ha.bool 11 KR (decide_eq_true hp2781)
      refine stepo ha 12 KR ?_; clear ha a; intro a ha
      refine stepo ha 13 KR ?_; clear ha a; intro a ha
      refine stepp ha 14 (.bool true) KR KR ?_; clear ha a; intro a ha
      refine stepp ha 4 (.bool true) KR KR ?_; clear ha a; intro a ha
      refine endl ?_
      refine thenN (hK2780 _ _ ?_); clear hK2780
      refine wp_ret ?_
      obtain rfl := Option.some.inj h
      exact finv ha _ _ rfl (.tmp (v := .bool true) KR .nil) (.bool true) rfl ⟨rfl, HW.pick [] [] (by decide) (by decide) rfl KR⟩
    · skip
      replace h := ite_neg' h hp2781
      replace ha := ha.bool 11 KR (decide_eq_false hp2781)
      refine stepp ha 12 (.int .i64 a1) KR KR ?_; clear ha a; intro a ha
      refine stepp ha 13 (.bool (a1 == 6)) KR KR ?_; clear ha a; intro a ha
      refine stepp ha 14 (.bool (a1 == 6)) KR KR ?_; clear ha a; intro a ha
      refine stepp ha 4 (.bool (a1 == 6)) KR KR ?_; clear ha a; intro a ha
      refine endl ?_
      refine thenN (hK2780 _ _ ?_); clear hK2780
      refine wp_ret ?_
      obtain rfl := Option.some.inj h
      exact finv ha _ _ rfl (.tmp (v := .bool (a1 == 6)) KR .nil) (.bool (a1 == 6)) rfl ⟨rfl, HW.pick [] [] (by decide) (by decide) rfl KR⟩
/-! ### headgate/cdb.typed: function 121 -/
def cdb_typed.f (a0 : Int) : Option Bool :=
  if a0 = 1 then (some true) else (if a0 = 2 then (some true) else (some (a0 == 4)))
set_option maxRecDepth 100000 in
set_option maxHeartbeats 4000000 in
theorem cdb_typed.calls (a0 : Int)  (r : Bool) (w : World)  (h : cdb_typed.f a0 = some r) :
    Calls Tryz.prog 121 #[.int .i64 a0] w (fun e W' => e = .returned (.bool r) ∧ Wd w W' [] [] ) := by
  refine sxstart (n := 13) (l := [(0, .int .i64 a0)]) Tryz.func121 rfl rfl (Nat.le_of_ble_eq_true KR) (subsA_cons rfl (subsA_nil _)) ?_
  intro a ha
  have HW := Wd.refl w
  unfold cdb_typed.f at h
  refine wp_seq_k (fun K2782 hK2783 => ?_)
  refine wp_region_lit ?_
  refine stepp ha 2 (.bool false) KR KR ?_; clear ha a; intro a ha
  refine endl ?_
  refine thenN (hK2783 _ _ ?_); clear hK2783
  refine wp_seq_k (fun K2784 hK2785 => ?_)
  refine wp_region_lit ?_
  refine stepp ha 3 (.int .i64 a0) KR KR ?_; clear ha a; intro a ha
  refine stepp ha 4 (.bool (a0 == 1)) KR KR ?_; clear ha a; intro a ha
  refine stepp ha 5 (.bool (a0 == 1)) KR KR ?_; clear ha a; intro a ha
  by_cases hp2786 : a0 = 1
  · skip
    replace h := ite_pos' h hp2786
    replace ha := ha.bool 5 KR (ieq_t hp2786)
    refine stepo ha 6 KR ?_; clear ha a; intro a ha
    refine stepo ha 7 KR ?_; clear ha a; intro a ha
    refine stepp ha 8 (.bool true) KR KR ?_; clear ha a; intro a ha
    refine stepp ha 9 (.bool true) KR KR ?_; clear ha a; intro a ha
    refine stepo ha 10 KR ?_; clear ha a; intro a ha
    refine stepo ha 11 KR ?_; clear ha a; intro a ha
    refine stepp ha 12 (.bool true) KR KR ?_; clear ha a; intro a ha
    refine stepp ha 2 (.bool true) KR KR ?_; clear ha a; intro a ha
    refine endl ?_
    refine thenN (hK2785 _ _ ?_); clear hK2785
    refine wp_ret ?_
    obtain rfl := Option.some.inj h
    exact finv ha _ _ rfl (.tmp (v := .bool true) KR .nil) (.bool true) rfl ⟨rfl, HW.pick [] [] (by decide) (by decide) rfl KR⟩
  · skip
    replace h := ite_neg' h hp2786
    replace ha := ha.bool 5 KR (ieq_f hp2786)
    refine stepp ha 6 (.int .i64 a0) KR KR ?_; clear ha a; intro a ha
    refine stepp ha 7 (.bool (a0 == 2)) KR KR ?_; clear ha a; intro a ha
    refine stepp ha 8 (.bool (a0 == 2)) KR KR ?_; clear ha a; intro a ha
    refine stepp ha 9 (.bool (a0 == 2)) KR KR ?_; clear ha a; intro a ha
    by_cases hp2787 : a0 = 2
    · skip
      replace h := ite_pos' h hp2787
      replace ha := ha.bool 9 KR (ieq_t hp2787)
      refine stepo ha 10 KR ?_; clear ha a; intro a ha
      refine stepo ha 11 KR ?_; clear ha a; intro a ha
      refine stepp ha 12 (.bool true) KR KR ?_; clear ha a; intro a ha
      refine stepp ha 2 (.bool true) KR KR ?_; clear ha a; intro a ha
      refine endl ?_
      refine thenN (hK2785 _ _ ?_); clear hK2785
      refine wp_ret ?_
      obtain rfl := Option.some.inj h
      exact finv ha _ _ rfl (.tmp (v := .bool true) KR .nil) (.bool true) rfl ⟨rfl, HW.pick [] [] (by decide) (by decide) rfl KR⟩
    · skip
      replace h := ite_neg' h hp2787
      replace ha := ha.bool 9 KR (ieq_f hp2787)
      refine stepp ha 10 (.int .i64 a0) KR KR ?_; clear ha a; intro a ha
      refine stepp ha 11 (.bool (a0 == 4)) KR KR ?_; clear ha a; intro a ha
      refine stepp ha 12 (.bool (a0 == 4)) KR KR ?_; clear ha a; intro a ha
      refine stepp ha 2 (.bool (a0 == 4)) KR KR ?_; clear ha a; intro a ha
      refine endl ?_
      refine thenN (hK2785 _ _ ?_); clear hK2785
      refine wp_ret ?_
      obtain rfl := Option.some.inj h
      exact finv ha _ _ rfl (.tmp (v := .bool (a0 == 4)) KR .nil) (.bool (a0 == 4)) rfl ⟨rfl, HW.pick [] [] (by decide) (by decide) rfl KR⟩
/-! ### headgate/cdb.Type: function 122 -/
def cdb_Type.b0 (K : Nat) (a0 : Int) (again2827 : Int → Option Int) (x2828 : Int) : Option Int :=
  if x2828 < 7 then (asrt (0 ≤ x2828) (if (rdL (0 : Int) G_cdb_numbers x2828) = a0 then (if a0 = 0 then (again2827 (IntKind.wrap .i64 (x2828 + 1))) else (some x2828)) else (again2827 (IntKind.wrap .i64 (x2828 + 1))))) else (some 0)
def cdb_Type.l0 (K : Nat) (a0 : Int) : Nat → Int → Option Int
  | 0, _ => none
  | k_ + 1, x2828 => cdb_Type.b0 K a0 (cdb_Type.l0 K a0 k_) x2828
def cdb_Type.f (K : Nat) (a0 : Int) : Option Int :=
  cdb_Type.l0 K a0 K 0
set_option maxRecDepth 100000 in
set_option maxHeartbeats 4000000 in
theorem cdb_Type.calls (K : Nat) (a0 : Int)  (r : Int) (w : World) (hG3 : CA w 3 0 (encs (encIK .i64) G_cdb_numbers).toArray) (h : cdb_Type.f K a0 = some r) :
    Calls Tryz.prog 122 #[.int .i64 a0] w (fun e W' => e = .returned (.int .i64 r) ∧ Wd w W' [] [] ) := by
  refine sxstart (n := 19) (l := [(0, .int .i64 a0)]) Tryz.func122 rfl rfl (Nat.le_of_ble_eq_true KR) (subsA_cons rfl (subsA_nil _)) ?_
  intro a ha
  have HW := Wd.refl w
  unfold cdb_Type.f at h
  refine wp_seq_k (fun K2788 hK2789 => ?_)
  refine wp_region_lit ?_
  refine stepp ha 2 (.int .i64 0) KR KR ?_; clear ha a; intro a ha
  refine endl ?_
  refine thenN (hK2789 _ _ ?_); clear hK2789
  refine wp_seq_k (fun K2790 hK2791 => ?_)
  refine wp_seq_k (fun K2792 hK2793 => ?_)
  refine wp_region_lit ?_
  refine stepl ha 5 (HW.ca0 hG3) 270 0 (.global 3) (.agg (encs (encIK .i64) G_cdb_numbers).toArray) rfl KR KR KR ?_; clear ha a; intro a ha
  refine stepp ha 6 (.int .i64 0) KR KR ?_; clear ha a; intro a ha
  refine endl ?_
  refine thenN (hK2793 _ _ ?_); clear hK2793
  refine wp_block ?_
  refine loopk (fun k => fun a W2829 => ∃ (x2828 : Int), cdb_Type.l0 K a0 k x2828 = some r ∧ Has 19 [(0, .int .i64 a0), (5, .agg (encs (encIK .i64) G_cdb_numbers).toArray), (6, .int .i64 x2828)] a ∧ Wd w W2829 [] []) K ?_ ?_
  · skip
    exact ⟨0, h, ha.sub (subs_cons KR (subs_cons KR (subs_cons KR (subs_nil _)))), HW.pick [] [] (by decide) (by decide) KR KR⟩
  · skip
    intro k a W2829 hI
    obtain ⟨x2828, h, ha, HW⟩ := hI
    cases k with
    | zero => exact (none_some (show none = some r from h)).elim
    | succ k2830 =>
      replace h : cdb_Type.b0 K a0 (cdb_Type.l0 K a0 k2830) x2828 = some r := h
      obtain ⟨again2827, hag2831⟩ : ∃ g_, g_ = cdb_Type.l0 K a0 k2830 := ⟨_, rfl⟩
      rw [← hag2831] at h
      unfold cdb_Type.b0 at h
      refine wp_seq_k (fun K2832 hK2833 => ?_)
      refine wp_region_lit ?_
      refine stepp ha 7 (.bool (decide (x2828 < 7))) KR KR ?_; clear ha a; intro a ha
      refine endl ?_
      refine thenN (hK2833 _ _ ?_); clear hK2833
      refine wp_seq_k (fun K2834 hK2835 => ?_)
      by_cases hp2836 : x2828 < 7
      · skip
        replace h := ite_pos' h hp2836
        refine condT ha KR KR (t := decide (x2828 < 7)) (decide_eq_true hp2836) ?_
        refine wp_skip ?_
        refine thenN (hK2835 _ _ ?_); clear hK2835
        refine wp_seq_k (fun K2837 hK2838 => ?_)
        refine wp_block ?_
        refine wp_seq_k (fun K2839 hK2840 => ?_)
        refine wp_region_lit ?_
        refine stepp ha 8 (.int .i64 x2828) KR KR ?_; clear ha a; intro a ha
        obtain ⟨hA2841, h_⟩ := asrt_some h; clear h; have h := h_; clear h_
        refine stepai (Value.int .i64) (0 : Int) ha 9 270 7 3 (.tmp 5) (.tmp 6) .i64 x2828 G_cdb_numbers rfl KR KR KR KR hA2841 hp2836 KR ?_; clear ha a; intro a ha
        refine stepp ha 3 (.int .i64 x2828) KR KR ?_; clear ha a; intro a ha
        refine stepp ha 4 (.int .i64 (rdL (0 : Int) G_cdb_numbers x2828)) KR KR ?_; clear ha a; intro a ha
        refine endl ?_
        refine thenN (hK2840 _ _ ?_); clear hK2840
        refine wp_seq_k (fun K2842 hK2843 => ?_)
        refine wp_region_lit ?_
        refine stepp ha 10 (.int .i64 (rdL (0 : Int) G_cdb_numbers x2828)) KR KR ?_; clear ha a; intro a ha
        refine stepp ha 11 (.int .i64 a0) KR KR ?_; clear ha a; intro a ha
        refine stepp ha 12 (.bool ((rdL (0 : Int) G_cdb_numbers x2828) == a0)) KR KR ?_; clear ha a; intro a ha
        refine stepp ha 13 (.bool ((rdL (0 : Int) G_cdb_numbers x2828) == a0)) KR KR ?_; clear ha a; intro a ha
        by_cases hp2844 : (rdL (0 : Int) G_cdb_numbers x2828) = a0
        · skip
          replace h := ite_pos' h hp2844
          replace ha := ha.bool 13 KR (ieq_t hp2844)
          refine stepp ha 14 (.int .i64 a0) KR KR ?_; clear ha a; intro a ha
          refine stepp ha 15 (.bool (a0 != 0)) KR KR ?_; clear ha a; intro a ha
          refine stepp ha 16 (.bool (a0 != 0)) KR KR ?_; clear ha a; intro a ha
          refine endl ?_
          refine thenN (hK2843 _ _ ?_); clear hK2843
          by_cases hp2845 : a0 = 0
          · skip
            replace h := ite_pos' h hp2845
            refine condF ha KR KR (t := (a0 != 0)) (ineq_f hp2845) ?_
            refine wp_skip ?_
            refine blkN ?_
            refine thenN (hK2838 _ _ ?_); clear hK2838
            refine wp_region_lit ?_
            refine stepp ha 18 (.int .i64 (IntKind.wrap .i64 (x2828 + 1))) KR KR ?_; clear ha a; intro a ha
            refine stepp ha 6 (.int .i64 (IntKind.wrap .i64 (x2828 + 1))) KR KR ?_; clear ha a; intro a ha
            refine endl ?_
            exact thenN ⟨k2830, Nat.lt_succ_self k2830, IntKind.wrap .i64 (x2828 + 1), (by rw [← hag2831]; exact h), ha.sub (subs_cons KR (subs_cons KR (subs_cons KR (subs_nil _)))), HW.pick [] [] (by decide) (by decide) KR KR⟩
          · skip
            replace h := ite_neg' h hp2845
            refine condT ha KR KR (t := (a0 != 0)) (ineq_t hp2845) ?_
            refine wp_seq_k (fun K2846 hK2847 => ?_)
            refine wp_region_lit ?_
            refine stepp ha 17 (.int .i64 x2828) KR KR ?_; clear ha a; intro a ha
            refine stepp ha 2 (.int .i64 x2828) KR KR ?_; clear ha a; intro a ha
            refine endl ?_
            refine thenN (hK2847 _ _ ?_); clear hK2847
            refine wp_ret ?_
            refine blkR ?_
            refine thenR ?_
            refine thenR ?_
            refine blkR ?_
            refine thenR ?_
            obtain rfl := Option.some.inj h
            exact finv ha _ _ rfl (.tmp (v := .int .i64 x2828) KR .nil) (.int .i64 x2828) rfl ⟨rfl, HW.pick [] [] (by decide) (by decide) rfl KR⟩
        · skip
          replace h := ite_neg' h hp2844
          replace ha := ha.bool 13 KR (ieq_f hp2844)
          refine stepo ha 14 KR ?_; clear ha a; intro a ha
          refine stepo ha 15 KR ?_; clear ha a; intro a ha
          refine stepp ha 16 (.bool false) KR KR ?_; clear ha a; intro a ha
          refine endl ?_
          refine thenN (hK2843 _ _ ?_); clear hK2843
          refine condF ha KR KR (t := false) (rfl) ?_
          refine wp_skip ?_
          refine blkN ?_
          refine thenN (hK2838 _ _ ?_); clear hK2838
          refine wp_region_lit ?_
          refine stepp ha 18 (.int .i64 (IntKind.wrap .i64 (x2828 + 1))) KR KR ?_; clear ha a; intro a ha
          refine stepp ha 6 (.int .i64 (IntKind.wrap .i64 (x2828 + 1))) KR KR ?_; clear ha a; intro a ha
          refine endl ?_
          exact thenN ⟨k2830, Nat.lt_succ_self k2830, IntKind.wrap .i64 (x2828 + 1), (by rw [← hag2831]; exact h), ha.sub (subs_cons KR (subs_cons KR (subs_cons KR (subs_nil _)))), HW.pick [] [] (by decide) (by decide) KR KR⟩
      · skip
        replace h := ite_neg' h hp2836
        refine condF ha KR KR (t := decide (x2828 < 7)) (decide_eq_false hp2836) ?_
        refine wp_exit ?_
        refine thenE ?_
        refine thenE ?_
        refine inBlk ?_
        refine thenN (hK2791 _ _ ?_); clear hK2791
        refine wp_seq_k (fun K2848 hK2849 => ?_)
        refine wp_region_lit ?_
        refine stepp ha 2 (.int .i64 0) KR KR ?_; clear ha a; intro a ha
        refine endl ?_
        refine thenN (hK2849 _ _ ?_); clear hK2849
        refine wp_ret ?_
        obtain rfl := Option.some.inj h
        exact finv ha _ _ rfl (.tmp (v := .int .i64 0) KR .nil) (.int .i64 0) rfl ⟨rfl, HW.pick [] [] (by decide) (by decide) rfl KR⟩
end Go.Proofs.YteilejfncdacfaaGreatDoor.F
