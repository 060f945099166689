/- headgate/headgatelaw19.ScsiNone: plain functions, and that the calls come to what they say. No condition. -/
import Derived.Test.YteilejfncdacfaaGreatDoorFT
import Derived.Test.YteilejfncdacfaaGreatDoorF10
import Derived.Test.YteilejfncdacfaaGreatDoorF11
namespace Go.Proofs.YteilejfncdacfaaGreatDoor.F
open Go Go.RowKit Go.Proofs.YteilejfncdacfaaGreatDoor.X
set_option linter.unusedVariables false
set_option linter.unusedSimpArgs false
/-! ### headgate/headgatelaw19.ScsiNone: function 5 -/
def headgatelaw19_ScsiNone.f (K : Nat) (a0 : T_headgatelaw19_Ask) : Option Bool :=
  (headgatelaw19_Ask_Fair.f a0).bind fun t10745 => (if t10745 = true then ((scsi_Do_nil.f K a0.f0 a0.f1 a0.f2 a0.f3).bind fun t10758 => (if t10758.f0 = 2 then (if t10758.f1.f0 = 5 then (if t10758.f1.f1 = 36 then (if t10758.f2 = (⟨#[]⟩ : ByteArray) then ((headgatelaw19_wakes.f).bind fun t10771 => (some t10771)) else (some false)) else (some false)) else (some false)) else (some false))) else ((headgatelaw19_wakes.f).bind fun t10752 => (some t10752)))
set_option maxRecDepth 100000 in
set_option maxHeartbeats 4000000 in
theorem headgatelaw19_ScsiNone.calls (K : Nat) (a0 : T_headgatelaw19_Ask)  (r : Bool) (w : World) (hG0 : CA w 0 0 (encs (encIK .i64) G_access_lets).toArray) (hG1 : CA w 1 0 (encs T_sense_row.enc G_sense_rows).toArray) (hG2 : CA w 2 0 (encs T_cdb_form.enc G_cdb_forms).toArray) (hG3 : CA w 3 0 (encs (encIK .i64) G_cdb_numbers).toArray) (hG4 : CA w 4 0 (encs (encIK .u32) G_crc_steps).toArray) (h : headgatelaw19_ScsiNone.f K a0 = some r) :
    Calls Tryz.prog 5 #[.agg #[.string a0.f0, .int .i64 a0.f1, .string a0.f2, .string a0.f3]] w (fun e W' => e = .returned (.bool r) ∧ Wd w W' [] [] ) := by
  refine sxstart (n := 40) (l := [(0, .agg #[.string a0.f0, .int .i64 a0.f1, .string a0.f2, .string a0.f3])]) Tryz.func5 rfl rfl (Nat.le_of_ble_eq_true KR) (subsA_cons rfl (subsA_nil _)) ?_
  intro a ha
  have HW := Wd.refl w
  unfold headgatelaw19_ScsiNone.f at h
  refine wp_seq_k (fun K10737 hK10738 => ?_)
  refine wp_region_lit ?_
  refine stepnew ha HW 1 #[.string a0.f0, .int .i64 a0.f1, .string a0.f2, .string a0.f3] 23 KR KR ?_; clear ha HW a; intro b10739 a W10740 HW ha
  refine stepp ha 2 (.bool false) KR KR ?_; clear ha a; intro a ha
  refine endl ?_
  refine thenN (hK10738 _ _ ?_); clear hK10738
  refine wp_seq_k (fun K10741 hK10742 => ?_)
  refine wp_seq_k (fun K10743 hK10744 => ?_)
  refine wp_region_lit ?_
  refine stepl ha 4 (HW.ca (i := 0) (b := b10739) (C := #[.string a0.f0, .int .i64 a0.f1, .string a0.f2, .string a0.f3]) (T := 23) (fr := (0, 0)) KR) 23 0 (.tmp 1) (.agg #[.string a0.f0, .int .i64 a0.f1, .string a0.f2, .string a0.f3]) rfl KR KR KR ?_; clear ha a; intro a ha
  obtain ⟨t10745, ht10746, h_⟩ := bind_some' h; clear h; have h := h_; clear h_
  refine stepc ha 5 KR KR (headgatelaw19_Ask_Fair.calls a0 t10745 _ ht10746) ?_; clear ha a; rintro e W10747 ⟨rfl, HX10748⟩
  refine ⟨_, rfl, ?_⟩; intro a ha; replace HW := HW.callw HX10748; clear HX10748
  refine stepp ha 6 (.bool (!t10745)) KR KR ?_; clear ha a; intro a ha
  refine endl ?_
  refine thenN (hK10744 _ _ ?_); clear hK10744
  by_cases hp10749 : t10745 = true
  · skip
    replace h := ite_pos' h hp10749
    refine condF ha KR KR (t := (!t10745)) (not_f (hp10749)) ?_
    refine wp_skip ?_
    refine thenN (hK10742 _ _ ?_); clear hK10742
    refine wp_seq_k (fun K10756 hK10757 => ?_)
    refine wp_region_lit ?_
    refine stepp ha 8 (.pointer (some ⟨b10739, 0, none⟩)) KR KR ?_; clear ha a; intro a ha
    refine stepl ha 9 (HW.ca (i := 0) (b := b10739) (C := #[.string a0.f0, .int .i64 a0.f1, .string a0.f2, .string a0.f3]) (T := 23) (fr := (0, 0)) KR) 9 0 (.tmp 8) (.string a0.f0) rfl KR KR KR ?_; clear ha a; intro a ha
    refine stepp ha 10 (.pointer (some ⟨b10739, 1, none⟩)) KR KR ?_; clear ha a; intro a ha
    refine stepl ha 11 (HW.ca (i := 0) (b := b10739) (C := #[.string a0.f0, .int .i64 a0.f1, .string a0.f2, .string a0.f3]) (T := 23) (fr := (0, 0)) KR) 3 1 (.tmp 10) (.int .i64 a0.f1) rfl KR KR KR ?_; clear ha a; intro a ha
    refine stepp ha 12 (.pointer (some ⟨b10739, 2, none⟩)) KR KR ?_; clear ha a; intro a ha
    refine stepl ha 13 (HW.ca (i := 0) (b := b10739) (C := #[.string a0.f0, .int .i64 a0.f1, .string a0.f2, .string a0.f3]) (T := 23) (fr := (0, 0)) KR) 9 2 (.tmp 12) (.string a0.f2) rfl KR KR KR ?_; clear ha a; intro a ha
    refine stepp ha 14 (.pointer (some ⟨b10739, 3, none⟩)) KR KR ?_; clear ha a; intro a ha
    refine stepl ha 15 (HW.ca (i := 0) (b := b10739) (C := #[.string a0.f0, .int .i64 a0.f1, .string a0.f2, .string a0.f3]) (T := 23) (fr := (0, 0)) KR) 9 3 (.tmp 14) (.string a0.f3) rfl KR KR KR ?_; clear ha a; intro a ha
    obtain ⟨t10758, ht10759, h_⟩ := bind_some' h; clear h; have h := h_; clear h_
    refine stepc ha 16 KR KR (scsi_Do_nil.calls K a0.f0 a0.f1 a0.f2 a0.f3 t10758 _ (HW.ca0 hG1) (HW.ca0 hG2) (HW.ca0 hG3) ht10759) ?_; clear ha a; rintro e W10760 ⟨rfl, HX10761⟩
    refine ⟨_, rfl, ?_⟩; intro a ha; replace HW := HW.callw HX10761; clear HX10761
    refine stepnew ha HW 3 #[.int .i64 0, .int .i64 0, .int .i64 0, .int .i64 0, .int .i64 0, .string (⟨#[]⟩ : ByteArray)] 42 KR KR ?_; clear ha HW a; intro b10762 a W10763 HW ha
    refine stepst ha HW 0 (b := b10762) (C := #[.int .i64 0, .int .i64 0, .int .i64 0, .int .i64 0, .int .i64 0, .string (⟨#[]⟩ : ByteArray)]) (T := 42) KR 42 0 (.tmp 3) (.tmp 16) (.agg #[.int .i64 t10758.f0, .int .i64 t10758.f1.f0, .int .i64 t10758.f1.f1, .int .i64 t10758.f1.f2, .int .i64 t10758.f1.f3, .string t10758.f2]) #[.int .i64 t10758.f0, .int .i64 t10758.f1.f0, .int .i64 t10758.f1.f1, .int .i64 t10758.f1.f2, .int .i64 t10758.f1.f3, .string t10758.f2] rfl KR KR KR KR KR KR KR ?_; clear ha HW a; intro a W10764 HW ha
    refine endl ?_
    refine thenN (hK10757 _ _ ?_); clear hK10757
    refine wp_seq_k (fun K10765 hK10766 => ?_)
    refine wp_region_lit ?_
    refine stepp ha 17 (.pointer (some ⟨b10762, 0, none⟩)) KR KR ?_; clear ha a; intro a ha
    refine stepl ha 18 (HW.ca (i := 0) (b := b10762) (C := #[.int .i64 t10758.f0, .int .i64 t10758.f1.f0, .int .i64 t10758.f1.f1, .int .i64 t10758.f1.f2, .int .i64 t10758.f1.f3, .string t10758.f2]) (T := 42) (fr := (0, 0)) KR) 3 0 (.tmp 17) (.int .i64 t10758.f0) rfl KR KR KR ?_; clear ha a; intro a ha
    refine stepp ha 19 (.bool (t10758.f0 == 2)) KR KR ?_; clear ha a; intro a ha
    refine stepp ha 20 (.bool (t10758.f0 == 2)) KR KR ?_; clear ha a; intro a ha
    by_cases hp10767 : t10758.f0 = 2
    · skip
      replace h := ite_pos' h hp10767
      replace ha := ha.bool 20 KR (ieq_t hp10767)
      refine stepp ha 21 (.pointer (some ⟨b10762, 1, none⟩)) KR KR ?_; clear ha a; intro a ha
      refine stepp ha 22 (.pointer (some ⟨b10762, 1, none⟩)) KR KR ?_; clear ha a; intro a ha
      refine stepl ha 23 (HW.ca (i := 0) (b := b10762) (C := #[.int .i64 t10758.f0, .int .i64 t10758.f1.f0, .int .i64 t10758.f1.f1, .int .i64 t10758.f1.f2, .int .i64 t10758.f1.f3, .string t10758.f2]) (T := 42) (fr := (0, 0)) KR) 3 1 (.tmp 22) (.int .i64 t10758.f1.f0) rfl KR KR KR ?_; clear ha a; intro a ha
      refine stepp ha 24 (.bool (t10758.f1.f0 == 5)) KR KR ?_; clear ha a; intro a ha
      refine stepp ha 25 (.bool (t10758.f1.f0 == 5)) KR KR ?_; clear ha a; intro a ha
      refine stepp ha 26 (.bool (t10758.f1.f0 == 5)) KR KR ?_; clear ha a; intro a ha
      by_cases hp10768 : t10758.f1.f0 = 5
      · skip
        replace h := ite_pos' h hp10768
        replace ha := ha.bool 26 KR (ieq_t hp10768)
        refine stepp ha 27 (.pointer (some ⟨b10762, 1, none⟩)) KR KR ?_; clear ha a; intro a ha
        refine stepp ha 28 (.pointer (some ⟨b10762, 2, none⟩)) KR KR ?_; clear ha a; intro a ha
        refine stepl ha 29 (HW.ca (i := 0) (b := b10762) (C := #[.int .i64 t10758.f0, .int .i64 t10758.f1.f0, .int .i64 t10758.f1.f1, .int .i64 t10758.f1.f2, .int .i64 t10758.f1.f3, .string t10758.f2]) (T := 42) (fr := (0, 0)) KR) 3 2 (.tmp 28) (.int .i64 t10758.f1.f1) rfl KR KR KR ?_; clear ha a; intro a ha
        refine stepp ha 30 (.bool (t10758.f1.f1 == 36)) KR KR ?_; clear ha a; intro a ha
        refine stepp ha 31 (.bool (t10758.f1.f1 == 36)) KR KR ?_; clear ha a; intro a ha
        refine stepp ha 32 (.bool (t10758.f1.f1 == 36)) KR KR ?_; clear ha a; intro a ha
        by_cases hp10769 : t10758.f1.f1 = 36
        · skip
          replace h := ite_pos' h hp10769
          replace ha := ha.bool 32 KR (ieq_t hp10769)
          refine stepp ha 33 (.pointer (some ⟨b10762, 5, none⟩)) KR KR ?_; clear ha a; intro a ha
          refine stepl ha 34 (HW.ca (i := 0) (b := b10762) (C := #[.int .i64 t10758.f0, .int .i64 t10758.f1.f0, .int .i64 t10758.f1.f1, .int .i64 t10758.f1.f2, .int .i64 t10758.f1.f3, .string t10758.f2]) (T := 42) (fr := (0, 0)) KR) 9 5 (.tmp 33) (.string t10758.f2) rfl KR KR KR ?_; clear ha a; intro a ha
          refine stepp ha 35 (.bool (t10758.f2.toList == (⟨#[]⟩ : ByteArray).toList)) KR KR ?_; clear ha a; intro a ha
          refine stepp ha 36 (.bool (t10758.f2.toList == (⟨#[]⟩ : ByteArray).toList)) KR KR ?_; clear ha a; intro a ha
          refine stepp ha 37 (.bool (t10758.f2.toList == (⟨#[]⟩ : ByteArray).toList)) KR KR ?_; clear ha a; intro a ha
          by_cases hp10770 : t10758.f2 = (⟨#[]⟩ : ByteArray)
          · skip
            replace h := ite_pos' h hp10770
            replace ha := ha.bool 37 KR (str_eq_t hp10770)
            obtain ⟨t10771, ht10772, h_⟩ := bind_some' h; clear h; have h := h_; clear h_
            refine stepc ha 38 KR KR (headgatelaw19_wakes.calls t10771 _ (HW.ca0 hG0) (HW.ca0 hG1) (HW.ca0 hG2) (HW.ca0 hG3) (HW.ca0 hG4) ht10772) ?_; clear ha a; rintro e W10773 ⟨rfl, HX10774⟩
            refine ⟨_, rfl, ?_⟩; intro a ha; replace HW := HW.callw HX10774; clear HX10774
            refine stepp ha 39 (.bool t10771) KR KR ?_; clear ha a; intro a ha
            refine stepp ha 2 (.bool t10771) KR KR ?_; clear ha a; intro a ha
            refine endl ?_
            refine thenN (hK10766 _ _ ?_); clear hK10766
            refine wp_ret ?_
            obtain rfl := Option.some.inj h
            exact finv ha _ _ rfl (.tmp (v := .bool t10771) KR .nil) (.bool t10771) rfl ⟨rfl, HW.pick [] [] (by decide) (by decide) rfl KR⟩
          · skip
            replace h := ite_neg' h hp10770
            replace ha := ha.bool 37 KR (str_eq_f hp10770)
            refine stepo ha 38 KR ?_; clear ha a; intro a ha
            refine stepp ha 39 (.bool false) KR KR ?_; clear ha a; intro a ha
            refine stepp ha 2 (.bool false) KR KR ?_; clear ha a; intro a ha
            refine endl ?_
            refine thenN (hK10766 _ _ ?_); clear hK10766
            refine wp_ret ?_
            obtain rfl := Option.some.inj h
            exact finv ha _ _ rfl (.tmp (v := .bool false) KR .nil) (.bool false) rfl ⟨rfl, HW.pick [] [] (by decide) (by decide) rfl KR⟩
        · skip
          replace h := ite_neg' h hp10769
          replace ha := ha.bool 32 KR (ieq_f hp10769)
          refine stepo ha 33 KR ?_; clear ha a; intro a ha
          refine stepo ha 34 KR ?_; clear ha a; intro a ha
          refine stepo ha 35 KR ?_; clear ha a; intro a ha
          refine stepp ha 36 (.bool false) KR KR ?_; clear ha a; intro a ha
          refine stepp ha 37 (.bool false) KR KR ?_; clear ha a; intro a ha
          refine stepo ha 38 KR ?_; clear ha a; intro a ha
          refine stepp ha 39 (.bool false) KR KR ?_; clear ha a; intro a ha
          refine stepp ha 2 (.bool false) KR KR ?_; clear ha a; intro a ha
          refine endl ?_
          refine thenN (hK10766 _ _ ?_); clear hK10766
          refine wp_ret ?_
          obtain rfl := Option.some.inj h
          exact finv ha _ _ rfl (.tmp (v := .bool false) KR .nil) (.bool false) rfl ⟨rfl, HW.pick [] [] (by decide) (by decide) rfl KR⟩
      · skip
        replace h := ite_neg' h hp10768
        replace ha := ha.bool 26 KR (ieq_f hp10768)
        refine stepo ha 27 KR ?_; clear ha a; intro a ha
        refine stepo ha 28 KR ?_; clear ha a; intro a ha
        refine stepo ha 29 KR ?_; clear ha a; intro a ha
        refine stepo ha 30 KR ?_; clear ha a; intro a ha
        refine stepp ha 31 (.bool false) KR KR ?_; clear ha a; intro a ha
        refine stepp ha 32 (.bool false) KR KR ?_; clear ha a; intro a ha
        refine stepo ha 33 KR ?_; clear ha a; intro a ha
        refine stepo ha 34 KR ?_; clear ha a; intro a ha
        refine stepo ha 35 KR ?_; clear ha a; intro a ha
        refine stepp ha 36 (.bool false) KR KR ?_; clear ha a; intro a ha
        refine stepp ha 37 (.bool false) KR KR ?_; clear ha a; intro a ha
        refine stepo ha 38 KR ?_; clear ha a; intro a ha
        refine stepp ha 39 (.bool false) KR KR ?_; clear ha a; intro a ha
        refine stepp ha 2 (.bool false) KR KR ?_; clear ha a; intro a ha
        refine endl ?_
        refine thenN (hK10766 _ _ ?_); clear hK10766
        refine wp_ret ?_
        obtain rfl := Option.some.inj h
        exact finv ha _ _ rfl (.tmp (v := .bool false) KR .nil) (.bool false) rfl ⟨rfl, HW.pick [] [] (by decide) (by decide) rfl KR⟩
    · skip
      replace h := ite_neg' h hp10767
      replace ha := ha.bool 20 KR (ieq_f hp10767)
      refine stepo ha 21 KR ?_; clear ha a; intro a ha
      refine stepo ha 22 KR ?_; clear ha a; intro a ha
      refine stepo ha 23 KR ?_; clear ha a; intro a ha
      refine stepo ha 24 KR ?_; clear ha a; intro a ha
      refine stepp ha 25 (.bool false) KR KR ?_; clear ha a; intro a ha
      refine stepp ha 26 (.bool false) KR KR ?_; clear ha a; intro a ha
      refine stepo ha 27 KR ?_; clear ha a; intro a ha
      refine stepo ha 28 KR ?_; clear ha a; intro a ha
      refine stepo ha 29 KR ?_; clear ha a; intro a ha
      refine stepo ha 30 KR ?_; clear ha a; intro a ha
      refine stepp ha 31 (.bool false) KR KR ?_; clear ha a; intro a ha
      refine stepp ha 32 (.bool false) KR KR ?_; clear ha a; intro a ha
      refine stepo ha 33 KR ?_; clear ha a; intro a ha
      refine stepo ha 34 KR ?_; clear ha a; intro a ha
      refine stepo ha 35 KR ?_; clear ha a; intro a ha
      refine stepp ha 36 (.bool false) KR KR ?_; clear ha a; intro a ha
      refine stepp ha 37 (.bool false) KR KR ?_; clear ha a; intro a ha
      refine stepo ha 38 KR ?_; clear ha a; intro a ha
      refine stepp ha 39 (.bool false) KR KR ?_; clear ha a; intro a ha
      refine stepp ha 2 (.bool false) KR KR ?_; clear ha a; intro a ha
      refine endl ?_
      refine thenN (hK10766 _ _ ?_); clear hK10766
      refine wp_ret ?_
      obtain rfl := Option.some.inj h
      exact finv ha _ _ rfl (.tmp (v := .bool false) KR .nil) (.bool false) rfl ⟨rfl, HW.pick [] [] (by decide) (by decide) rfl KR⟩
  · skip
    replace h := ite_neg' h hp10749
    refine condT ha KR KR (t := (!t10745)) (not_t (bool_f hp10749)) ?_
    refine wp_seq_k (fun K10750 hK10751 => ?_)
    refine wp_region_lit ?_
    obtain ⟨t10752, ht10753, h_⟩ := bind_some' h; clear h; have h := h_; clear h_
    refine stepc ha 7 KR KR (headgatelaw19_wakes.calls t10752 _ (HW.ca0 hG0) (HW.ca0 hG1) (HW.ca0 hG2) (HW.ca0 hG3) (HW.ca0 hG4) ht10753) ?_; clear ha a; rintro e W10754 ⟨rfl, HX10755⟩
    refine ⟨_, rfl, ?_⟩; intro a ha; replace HW := HW.callw HX10755; clear HX10755
    refine stepp ha 2 (.bool t10752) KR KR ?_; clear ha a; intro a ha
    refine endl ?_
    refine thenN (hK10751 _ _ ?_); clear hK10751
    refine wp_ret ?_
    refine thenR ?_
    obtain rfl := Option.some.inj h
    exact finv ha _ _ rfl (.tmp (v := .bool t10752) KR .nil) (.bool t10752) rfl ⟨rfl, HW.pick [] [] (by decide) (by decide) rfl KR⟩
end Go.Proofs.YteilejfncdacfaaGreatDoor.F
