/- headgate/headgatelaw19.ScsiNeeds: plain functions, and that the calls come to what they say. No condition. -/
import Derived.Test.YteilejfncdacfaaGreatDoorFT
import Derived.Test.YteilejfncdacfaaGreatDoorF11
import Derived.Test.YteilejfncdacfaaGreatDoorF42
import Derived.Test.YteilejfncdacfaaGreatDoorF62
namespace Go.Proofs.YteilejfncdacfaaGreatDoor.F
open Go Go.RowKit Go.Proofs.YteilejfncdacfaaGreatDoor.X
set_option linter.unusedVariables false
set_option linter.unusedSimpArgs false
/-! ### headgate/headgatelaw19.ScsiNeeds: function 4 -/
def headgatelaw19_ScsiNeeds.f (K : Nat) (a0 : ByteArray) : Option Bool :=
  if (a0.size : Int) > 5000 then ((headgatelaw19_wakes.f).bind fun t10713 => (some t10713)) else ((scsi_Need.f K a0).bind fun t10719 => ((headgateref19_Need.f K a0).bind fun t10725 => (if t10719.1 = t10725.1 then (if t10719.2 = t10725.2 then ((headgatelaw19_wakes.f).bind fun t10733 => (some t10733)) else (some false)) else (some false))))
set_option maxRecDepth 100000 in
set_option maxHeartbeats 4000000 in
theorem headgatelaw19_ScsiNeeds.calls (K : Nat) (a0 : ByteArray)  (r : Bool) (w : World) (hG0 : CA w 0 0 (encs (encIK .i64) G_access_lets).toArray) (hG1 : CA w 1 0 (encs T_sense_row.enc G_sense_rows).toArray) (hG2 : CA w 2 0 (encs T_cdb_form.enc G_cdb_forms).toArray) (hG3 : CA w 3 0 (encs (encIK .i64) G_cdb_numbers).toArray) (hG4 : CA w 4 0 (encs (encIK .u32) G_crc_steps).toArray) (h : headgatelaw19_ScsiNeeds.f K a0 = some r) :
    Calls Tryz.prog 4 #[.string a0] w (fun e W' => e = .returned (.bool r) ∧ Wd w W' [] [] ) := by
  refine sxstart (n := 32) (l := [(0, .string a0)]) Tryz.func4 rfl rfl (Nat.le_of_ble_eq_true KR) (subsA_cons rfl (subsA_nil _)) ?_
  intro a ha
  have HW := Wd.refl w
  unfold headgatelaw19_ScsiNeeds.f at h
  refine wp_seq_k (fun K10704 hK10705 => ?_)
  refine wp_region_lit ?_
  refine stepp ha 2 (.bool false) KR KR ?_; clear ha a; intro a ha
  refine endl ?_
  refine thenN (hK10705 _ _ ?_); clear hK10705
  refine wp_seq_k (fun K10706 hK10707 => ?_)
  refine wp_seq_k (fun K10708 hK10709 => ?_)
  refine wp_region_lit ?_
  refine stepp ha 7 (.string a0) KR KR ?_; clear ha a; intro a ha
  refine stepp ha 8 (.int .i64 (a0.size : Int)) KR KR ?_; clear ha a; intro a ha
  refine stepp ha 9 (.bool (decide ((a0.size : Int) > 5000))) KR KR ?_; clear ha a; intro a ha
  refine endl ?_
  refine thenN (hK10709 _ _ ?_); clear hK10709
  by_cases hp10710 : (a0.size : Int) > 5000
  · skip
    replace h := ite_pos' h hp10710
    refine condT ha KR KR (t := decide ((a0.size : Int) > 5000)) (decide_eq_true hp10710) ?_
    refine wp_seq_k (fun K10711 hK10712 => ?_)
    refine wp_region_lit ?_
    obtain ⟨t10713, ht10714, h_⟩ := bind_some' h; clear h; have h := h_; clear h_
    refine stepc ha 10 KR KR (headgatelaw19_wakes.calls t10713 _ (HW.ca0 hG0) (HW.ca0 hG1) (HW.ca0 hG2) (HW.ca0 hG3) (HW.ca0 hG4) ht10714) ?_; clear ha a; rintro e W10715 ⟨rfl, HX10716⟩
    refine ⟨_, rfl, ?_⟩; intro a ha; replace HW := HW.callw HX10716; clear HX10716
    refine stepp ha 2 (.bool t10713) KR KR ?_; clear ha a; intro a ha
    refine endl ?_
    refine thenN (hK10712 _ _ ?_); clear hK10712
    refine wp_ret ?_
    refine thenR ?_
    obtain rfl := Option.some.inj h
    exact finv ha _ _ rfl (.tmp (v := .bool t10713) KR .nil) (.bool t10713) rfl ⟨rfl, HW.pick [] [] (by decide) (by decide) rfl KR⟩
  · skip
    replace h := ite_neg' h hp10710
    refine condF ha KR KR (t := decide ((a0.size : Int) > 5000)) (decide_eq_false hp10710) ?_
    refine wp_skip ?_
    refine thenN (hK10707 _ _ ?_); clear hK10707
    refine wp_seq_k (fun K10717 hK10718 => ?_)
    refine wp_region_lit ?_
    refine stepp ha 12 (.string a0) KR KR ?_; clear ha a; intro a ha
    obtain ⟨t10719, ht10720, h_⟩ := bind_some' h; clear h; have h := h_; clear h_
    refine stepc ha 13 KR KR (scsi_Need.calls K a0 t10719 _ (HW.ca0 hG2) (HW.ca0 hG3) ht10720) ?_; clear ha a; rintro e W10721 ⟨rfl, HX10722⟩
    refine ⟨_, rfl, ?_⟩; intro a ha; replace HW := HW.callw HX10722; clear HX10722
    refine stepp ha 11 (.tuple #[.int .i64 t10719.1, .int .i64 t10719.2]) KR KR ?_; clear ha a; intro a ha
    refine stepp ha 14 (.int .i64 t10719.1) KR KR ?_; clear ha a; intro a ha
    refine stepp ha 15 (.int .i64 t10719.2) KR KR ?_; clear ha a; intro a ha
    refine stepp ha 3 (.int .i64 t10719.1) KR KR ?_; clear ha a; intro a ha
    refine stepp ha 4 (.int .i64 t10719.2) KR KR ?_; clear ha a; intro a ha
    refine endl ?_
    refine thenN (hK10718 _ _ ?_); clear hK10718
    refine wp_seq_k (fun K10723 hK10724 => ?_)
    refine wp_region_lit ?_
    refine stepp ha 17 (.string a0) KR KR ?_; clear ha a; intro a ha
    obtain ⟨t10725, ht10726, h_⟩ := bind_some' h; clear h; have h := h_; clear h_
    refine stepc ha 18 KR KR (headgateref19_Need.calls K a0 t10725 _ ht10726) ?_; clear ha a; rintro e W10727 ⟨rfl, HX10728⟩
    refine ⟨_, rfl, ?_⟩; intro a ha; replace HW := HW.callw HX10728; clear HX10728
    refine stepp ha 16 (.tuple #[.int .i64 t10725.1, .int .i64 t10725.2]) KR KR ?_; clear ha a; intro a ha
    refine stepp ha 19 (.int .i64 t10725.1) KR KR ?_; clear ha a; intro a ha
    refine stepp ha 20 (.int .i64 t10725.2) KR KR ?_; clear ha a; intro a ha
    refine stepp ha 5 (.int .i64 t10725.1) KR KR ?_; clear ha a; intro a ha
    refine stepp ha 6 (.int .i64 t10725.2) KR KR ?_; clear ha a; intro a ha
    refine endl ?_
    refine thenN (hK10724 _ _ ?_); clear hK10724
    refine wp_seq_k (fun K10729 hK10730 => ?_)
    refine wp_region_lit ?_
    refine stepp ha 21 (.int .i64 t10719.1) KR KR ?_; clear ha a; intro a ha
    refine stepp ha 22 (.int .i64 t10725.1) KR KR ?_; clear ha a; intro a ha
    refine stepp ha 23 (.bool (t10719.1 == t10725.1)) KR KR ?_; clear ha a; intro a ha
    refine stepp ha 24 (.bool (t10719.1 == t10725.1)) KR KR ?_; clear ha a; intro a ha
    by_cases hp10731 : t10719.1 = t10725.1
    · skip
      replace h := ite_pos' h hp10731
      replace ha := ha.bool 24 KR (ieq_t hp10731)
      refine stepp ha 25 (.int .i64 t10719.2) KR KR ?_; clear ha a; intro a ha
      refine stepp ha 26 (.int .i64 t10725.2) KR KR ?_; clear ha a; intro a ha
      refine stepp ha 27 (.bool (t10719.2 == t10725.2)) KR KR ?_; clear ha a; intro a ha
      refine stepp ha 28 (.bool (t10719.2 == t10725.2)) KR KR ?_; clear ha a; intro a ha
      refine stepp ha 29 (.bool (t10719.2 == t10725.2)) KR KR ?_; clear ha a; intro a ha
      by_cases hp10732 : t10719.2 = t10725.2
      · skip
        replace h := ite_pos' h hp10732
        replace ha := ha.bool 29 KR (ieq_t hp10732)
        obtain ⟨t10733, ht10734, h_⟩ := bind_some' h; clear h; have h := h_; clear h_
        refine stepc ha 30 KR KR (headgatelaw19_wakes.calls t10733 _ (HW.ca0 hG0) (HW.ca0 hG1) (HW.ca0 hG2) (HW.ca0 hG3) (HW.ca0 hG4) ht10734) ?_; clear ha a; rintro e W10735 ⟨rfl, HX10736⟩
        refine ⟨_, rfl, ?_⟩; intro a ha; replace HW := HW.callw HX10736; clear HX10736
        refine stepp ha 31 (.bool t10733) KR KR ?_; clear ha a; intro a ha
        refine stepp ha 2 (.bool t10733) KR KR ?_; clear ha a; intro a ha
        refine endl ?_
        refine thenN (hK10730 _ _ ?_); clear hK10730
        refine wp_ret ?_
        obtain rfl := Option.some.inj h
        exact finv ha _ _ rfl (.tmp (v := .bool t10733) KR .nil) (.bool t10733) rfl ⟨rfl, HW.pick [] [] (by decide) (by decide) rfl KR⟩
      · skip
        replace h := ite_neg' h hp10732
        replace ha := ha.bool 29 KR (ieq_f hp10732)
        refine stepo ha 30 KR ?_; clear ha a; intro a ha
        refine stepp ha 31 (.bool false) KR KR ?_; clear ha a; intro a ha
        refine stepp ha 2 (.bool false) KR KR ?_; clear ha a; intro a ha
        refine endl ?_
        refine thenN (hK10730 _ _ ?_); clear hK10730
        refine wp_ret ?_
        obtain rfl := Option.some.inj h
        exact finv ha _ _ rfl (.tmp (v := .bool false) KR .nil) (.bool false) rfl ⟨rfl, HW.pick [] [] (by decide) (by decide) rfl KR⟩
    · skip
      replace h := ite_neg' h hp10731
      replace ha := ha.bool 24 KR (ieq_f hp10731)
      refine stepo ha 25 KR ?_; clear ha a; intro a ha
      refine stepo ha 26 KR ?_; clear ha a; intro a ha
      refine stepo ha 27 KR ?_; clear ha a; intro a ha
      refine stepp ha 28 (.bool false) KR KR ?_; clear ha a; intro a ha
      refine stepp ha 29 (.bool false) KR KR ?_; clear ha a; intro a ha
      refine stepo ha 30 KR ?_; clear ha a; intro a ha
      refine stepp ha 31 (.bool false) KR KR ?_; clear ha a; intro a ha
      refine stepp ha 2 (.bool false) KR KR ?_; clear ha a; intro a ha
      refine endl ?_
      refine thenN (hK10730 _ _ ?_); clear hK10730
      refine wp_ret ?_
      obtain rfl := Option.some.inj h
      exact finv ha _ _ rfl (.tmp (v := .bool false) KR .nil) (.bool false) rfl ⟨rfl, HW.pick [] [] (by decide) (by decide) rfl KR⟩
end Go.Proofs.YteilejfncdacfaaGreatDoor.F
