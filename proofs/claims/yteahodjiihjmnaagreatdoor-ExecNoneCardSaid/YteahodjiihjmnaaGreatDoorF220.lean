/- headgate/frame.Sectors, headgate/fields.Pad, headgate/frame.Put, headgate/extents.alone, headgate/extents.Good, headgate/headgatekeep.Zeros, headgate/headgateref10.Registered, headgate/headgateref10.Type, headgate/headgateref03.letter, headgate/headgateref03.digit, headgate/headgateref03.Name, headgate/headgateref11.alone: plain functions, and that the calls come to what they say. No condition. -/
import Derived.Test.YteahodjiihjmnaaGreatDoorFT
import Derived.Test.YteahodjiihjmnaaGreatDoorF55
namespace Go.Proofs.YteahodjiihjmnaaGreatDoor.F
open Go Go.RowKit Go.Proofs.YteahodjiihjmnaaGreatDoor.X
set_option linter.unusedVariables false
set_option linter.unusedSimpArgs false
/-! ### headgate/frame.Sectors: function 220 -/
def frame_Sectors.f (a0 : Int) : Option Int :=
  if a0 < 0 then (some 0) else (if a0 > 65536 then (some 0) else (some (IntKind.wrap .i64 (Int.tdiv (IntKind.wrap .i64 ((IntKind.wrap .i64 ((IntKind.wrap .i64 (a0 + 24)) + 512)) - 1)) 512))))
set_option maxRecDepth 100000 in
set_option maxHeartbeats 4000000 in
theorem frame_Sectors.calls (a0 : Int)  (r : Int) (w : World)  (h : frame_Sectors.f a0 = some r) :
    Calls Tryz.prog 220 #[.int .i64 a0] w (fun e W' => e = .returned (.int .i64 r) ∧ Wd w W' [] [] ) := by
  refine sxstart (n := 14) (l := [(0, .int .i64 a0)]) Tryz.func220 rfl rfl (Nat.le_of_ble_eq_true KR) (subsA_cons rfl (subsA_nil _)) ?_
  intro a ha
  have HW := Wd.refl w
  unfold frame_Sectors.f at h
  refine wp_seq_k (fun K811 hK812 => ?_)
  refine wp_region_lit ?_
  refine stepp ha 2 (.int .i64 0) KR KR ?_; clear ha a; intro a ha
  refine endl ?_
  refine thenN (hK812 _ _ ?_); clear hK812
  refine wp_seq_k (fun K813 hK814 => ?_)
  refine wp_seq_k (fun K815 hK816 => ?_)
  refine wp_region_lit ?_
  refine stepp ha 3 (.int .i64 a0) KR KR ?_; clear ha a; intro a ha
  refine stepp ha 4 (.bool (decide (a0 < 0))) KR KR ?_; clear ha a; intro a ha
  refine stepp ha 5 (.bool (decide (a0 < 0))) KR KR ?_; clear ha a; intro a ha
  by_cases hp817 : a0 < 0
  · skip
    replace h := ite_pos' h hp817
    replace ha := ha.bool 5 KR (decide_eq_true hp817)
    refine stepo ha 6 KR ?_; clear ha a; intro a ha
    refine stepo ha 7 KR ?_; clear ha a; intro a ha
    refine stepp ha 8 (.bool true) KR KR ?_; clear ha a; intro a ha
    refine endl ?_
    refine thenN (hK816 _ _ ?_); clear hK816
    refine condT ha KR KR (t := true) (rfl) ?_
    refine wp_seq_k (fun K818 hK819 => ?_)
    refine wp_region_lit ?_
    refine stepp ha 2 (.int .i64 0) KR KR ?_; clear ha a; intro a ha
    refine endl ?_
    refine thenN (hK819 _ _ ?_); clear hK819
    refine wp_ret ?_
    refine thenR ?_
    obtain rfl := Option.some.inj h
    exact finv ha _ _ rfl (.tmp (v := .int .i64 0) KR .nil) (.int .i64 0) rfl ⟨rfl, HW.pick [] [] (by decide) (by decide) rfl KR⟩
  · skip
    replace h := ite_neg' h hp817
    replace ha := ha.bool 5 KR (decide_eq_false hp817)
    refine stepp ha 6 (.int .i64 a0) KR KR ?_; clear ha a; intro a ha
    refine stepp ha 7 (.bool (decide (a0 > 65536))) KR KR ?_; clear ha a; intro a ha
    refine stepp ha 8 (.bool (decide (a0 > 65536))) KR KR ?_; clear ha a; intro a ha
    refine endl ?_
    refine thenN (hK816 _ _ ?_); clear hK816
    by_cases hp820 : a0 > 65536
    · skip
      replace h := ite_pos' h hp820
      refine condT ha KR KR (t := decide (a0 > 65536)) (decide_eq_true hp820) ?_
      refine wp_seq_k (fun K821 hK822 => ?_)
      refine wp_region_lit ?_
      refine stepp ha 2 (.int .i64 0) KR KR ?_; clear ha a; intro a ha
      refine endl ?_
      refine thenN (hK822 _ _ ?_); clear hK822
      refine wp_ret ?_
      refine thenR ?_
      obtain rfl := Option.some.inj h
      exact finv ha _ _ rfl (.tmp (v := .int .i64 0) KR .nil) (.int .i64 0) rfl ⟨rfl, HW.pick [] [] (by decide) (by decide) rfl KR⟩
    · skip
      replace h := ite_neg' h hp820
      refine condF ha KR KR (t := decide (a0 > 65536)) (decide_eq_false hp820) ?_
      refine wp_skip ?_
      refine thenN (hK814 _ _ ?_); clear hK814
      refine wp_seq_k (fun K823 hK824 => ?_)
      refine wp_region_lit ?_
      refine stepp ha 9 (.int .i64 a0) KR KR ?_; clear ha a; intro a ha
      refine stepp ha 10 (.int .i64 (IntKind.wrap .i64 (a0 + 24))) KR KR ?_; clear ha a; intro a ha
      refine stepp ha 11 (.int .i64 (IntKind.wrap .i64 ((IntKind.wrap .i64 (a0 + 24)) + 512))) KR KR ?_; clear ha a; intro a ha
      refine stepp ha 12 (.int .i64 (IntKind.wrap .i64 ((IntKind.wrap .i64 ((IntKind.wrap .i64 (a0 + 24)) + 512)) - 1))) KR KR ?_; clear ha a; intro a ha
      refine stepp ha 13 (.int .i64 (IntKind.wrap .i64 (Int.tdiv (IntKind.wrap .i64 ((IntKind.wrap .i64 ((IntKind.wrap .i64 (a0 + 24)) + 512)) - 1)) 512))) KR KR ?_; clear ha a; intro a ha
      refine stepp ha 2 (.int .i64 (IntKind.wrap .i64 (Int.tdiv (IntKind.wrap .i64 ((IntKind.wrap .i64 ((IntKind.wrap .i64 (a0 + 24)) + 512)) - 1)) 512))) KR KR ?_; clear ha a; intro a ha
      refine endl ?_
      refine thenN (hK824 _ _ ?_); clear hK824
      refine wp_ret ?_
      obtain rfl := Option.some.inj h
      exact finv ha _ _ rfl (.tmp (v := .int .i64 (IntKind.wrap .i64 (Int.tdiv (IntKind.wrap .i64 ((IntKind.wrap .i64 ((IntKind.wrap .i64 (a0 + 24)) + 512)) - 1)) 512))) KR .nil) (.int .i64 (IntKind.wrap .i64 (Int.tdiv (IntKind.wrap .i64 ((IntKind.wrap .i64 ((IntKind.wrap .i64 (a0 + 24)) + 512)) - 1)) 512))) rfl ⟨rfl, HW.pick [] [] (by decide) (by decide) rfl KR⟩
/-! ### headgate/fields.Pad: function 294 -/
def fields_Pad.f (a0 : ByteArray) (a1 : Int) : Option ByteArray :=
  if a1 < 1 then (some a0) else (if a1 > 4096 then (some a0) else (asrt (¬ a1 = 0) (if (Int.tmod (a0.size : Int) a1) = 0 then (some a0) else (asrt (0 ≤ (IntKind.wrap .i64 (a1 - (Int.tmod (a0.size : Int) a1)))) (asrt ((IntKind.wrap .i64 (a1 - (Int.tmod (a0.size : Int) a1))) ≤ 281474976710656) (asrt (a0.size + (strOfNums (List.replicate (IntKind.wrap .i64 (a1 - (Int.tmod (a0.size : Int) a1)) : Int).toNat (0 : Int))).size ≤ 9223372036854775807) (some (a0 ++ (strOfNums (List.replicate (IntKind.wrap .i64 (a1 - (Int.tmod (a0.size : Int) a1)) : Int).toNat (0 : Int)))))))))))
set_option maxRecDepth 100000 in
set_option maxHeartbeats 4000000 in
theorem fields_Pad.calls (a0 : ByteArray) (a1 : Int)  (r : ByteArray) (w : World)  (h : fields_Pad.f a0 a1 = some r) :
    Calls Tryz.prog 294 #[.string a0, .int .i64 a1] w (fun e W' => e = .returned (.string r) ∧ Wd w W' [] [] ) := by
  refine sxstart (n := 29) (l := [(0, .string a0), (1, .int .i64 a1)]) Tryz.func294 rfl rfl (Nat.le_of_ble_eq_true KR) (subsA_cons rfl (subsA_cons rfl (subsA_nil _))) ?_
  intro a ha
  have HW := Wd.refl w
  unfold fields_Pad.f at h
  refine wp_seq_k (fun K833 hK834 => ?_)
  refine wp_region_lit ?_
  refine stepp ha 4 (.string (⟨#[]⟩ : ByteArray)) KR KR ?_; clear ha a; intro a ha
  refine endl ?_
  refine thenN (hK834 _ _ ?_); clear hK834
  refine wp_seq_k (fun K835 hK836 => ?_)
  refine wp_seq_k (fun K837 hK838 => ?_)
  refine wp_region_lit ?_
  refine stepp ha 5 (.int .i64 a1) KR KR ?_; clear ha a; intro a ha
  refine stepp ha 6 (.bool (decide (a1 < 1))) KR KR ?_; clear ha a; intro a ha
  refine stepp ha 7 (.bool (decide (a1 < 1))) KR KR ?_; clear ha a; intro a ha
  by_cases hp839 : a1 < 1
  · skip
    replace h := ite_pos' h hp839
    replace ha := ha.bool 7 KR (decide_eq_true hp839)
    refine stepo ha 8 KR ?_; clear ha a; intro a ha
    refine stepo ha 9 KR ?_; clear ha a; intro a ha
    refine stepp ha 10 (.bool true) KR KR ?_; clear ha a; intro a ha
    refine stepp ha 11 (.bool true) KR KR ?_; clear ha a; intro a ha
    refine stepo ha 12 KR ?_; clear ha a; intro a ha
    refine stepo ha 13 KR ?_; clear ha a; intro a ha
    refine stepo ha 14 KR ?_; clear ha a; intro a ha
    refine stepo ha 15 KR ?_; clear ha a; intro a ha
    refine stepo ha 16 KR ?_; clear ha a; intro a ha
    refine stepp ha 17 (.bool true) KR KR ?_; clear ha a; intro a ha
    refine endl ?_
    refine thenN (hK838 _ _ ?_); clear hK838
    refine condT ha KR KR (t := true) (rfl) ?_
    refine wp_seq_k (fun K842 hK843 => ?_)
    refine wp_region_lit ?_
    refine stepp ha 18 (.string a0) KR KR ?_; clear ha a; intro a ha
    refine stepp ha 4 (.string a0) KR KR ?_; clear ha a; intro a ha
    refine endl ?_
    refine thenN (hK843 _ _ ?_); clear hK843
    refine wp_ret ?_
    refine thenR ?_
    obtain rfl := Option.some.inj h
    exact finv ha _ _ rfl (.tmp (v := .string a0) KR .nil) (.string a0) rfl ⟨rfl, HW.pick [] [] (by decide) (by decide) rfl KR⟩
  · skip
    replace h := ite_neg' h hp839
    replace ha := ha.bool 7 KR (decide_eq_false hp839)
    refine stepp ha 8 (.int .i64 a1) KR KR ?_; clear ha a; intro a ha
    refine stepp ha 9 (.bool (decide (a1 > 4096))) KR KR ?_; clear ha a; intro a ha
    refine stepp ha 10 (.bool (decide (a1 > 4096))) KR KR ?_; clear ha a; intro a ha
    refine stepp ha 11 (.bool (decide (a1 > 4096))) KR KR ?_; clear ha a; intro a ha
    by_cases hp840 : a1 > 4096
    · skip
      replace h := ite_pos' h hp840
      replace ha := ha.bool 11 KR (decide_eq_true hp840)
      refine stepo ha 12 KR ?_; clear ha a; intro a ha
      refine stepo ha 13 KR ?_; clear ha a; intro a ha
      refine stepo ha 14 KR ?_; clear ha a; intro a ha
      refine stepo ha 15 KR ?_; clear ha a; intro a ha
      refine stepo ha 16 KR ?_; clear ha a; intro a ha
      refine stepp ha 17 (.bool true) KR KR ?_; clear ha a; intro a ha
      refine endl ?_
      refine thenN (hK838 _ _ ?_); clear hK838
      refine condT ha KR KR (t := true) (rfl) ?_
      refine wp_seq_k (fun K844 hK845 => ?_)
      refine wp_region_lit ?_
      refine stepp ha 18 (.string a0) KR KR ?_; clear ha a; intro a ha
      refine stepp ha 4 (.string a0) KR KR ?_; clear ha a; intro a ha
      refine endl ?_
      refine thenN (hK845 _ _ ?_); clear hK845
      refine wp_ret ?_
      refine thenR ?_
      obtain rfl := Option.some.inj h
      exact finv ha _ _ rfl (.tmp (v := .string a0) KR .nil) (.string a0) rfl ⟨rfl, HW.pick [] [] (by decide) (by decide) rfl KR⟩
    · skip
      replace h := ite_neg' h hp840
      replace ha := ha.bool 11 KR (decide_eq_false hp840)
      refine stepp ha 12 (.string a0) KR KR ?_; clear ha a; intro a ha
      refine stepp ha 13 (.int .i64 (a0.size : Int)) KR KR ?_; clear ha a; intro a ha
      refine stepp ha 14 (.int .i64 a1) KR KR ?_; clear ha a; intro a ha
      obtain ⟨hA841, h_⟩ := asrt_some h; clear h; have h := h_; clear h_
      refine steprem ha 15 3 3 (.tmp 13) (.tmp 14) .i64 (a0.size : Int) a1 rfl KR KR hA841 KR ?_; clear ha a; intro a ha
      refine stepp ha 16 (.bool ((Int.tmod (a0.size : Int) a1) == 0)) KR KR ?_; clear ha a; intro a ha
      refine stepp ha 17 (.bool ((Int.tmod (a0.size : Int) a1) == 0)) KR KR ?_; clear ha a; intro a ha
      refine endl ?_
      refine thenN (hK838 _ _ ?_); clear hK838
      by_cases hp846 : (Int.tmod (a0.size : Int) a1) = 0
      · skip
        replace h := ite_pos' h hp846
        refine condT ha KR KR (t := ((Int.tmod (a0.size : Int) a1) == 0)) (ieq_t hp846) ?_
        refine wp_seq_k (fun K847 hK848 => ?_)
        refine wp_region_lit ?_
        refine stepp ha 18 (.string a0) KR KR ?_; clear ha a; intro a ha
        refine stepp ha 4 (.string a0) KR KR ?_; clear ha a; intro a ha
        refine endl ?_
        refine thenN (hK848 _ _ ?_); clear hK848
        refine wp_ret ?_
        refine thenR ?_
        obtain rfl := Option.some.inj h
        exact finv ha _ _ rfl (.tmp (v := .string a0) KR .nil) (.string a0) rfl ⟨rfl, HW.pick [] [] (by decide) (by decide) rfl KR⟩
      · skip
        replace h := ite_neg' h hp846
        refine condF ha KR KR (t := ((Int.tmod (a0.size : Int) a1) == 0)) (ieq_f hp846) ?_
        refine wp_skip ?_
        refine thenN (hK836 _ _ ?_); clear hK836
        refine wp_seq_k (fun K849 hK850 => ?_)
        refine wp_region_lit ?_
        refine stepp ha 19 (.string a0) KR KR ?_; clear ha a; intro a ha
        refine stepp ha 20 (.int .i64 a1) KR KR ?_; clear ha a; intro a ha
        refine stepp ha 21 (.string a0) KR KR ?_; clear ha a; intro a ha
        refine stepp ha 22 (.int .i64 (a0.size : Int)) KR KR ?_; clear ha a; intro a ha
        refine stepp ha 23 (.int .i64 a1) KR KR ?_; clear ha a; intro a ha
        refine steprem ha 24 3 3 (.tmp 22) (.tmp 23) .i64 (a0.size : Int) a1 rfl KR KR hA841 KR ?_; clear ha a; intro a ha
        refine stepp ha 25 (.int .i64 (IntKind.wrap .i64 (a1 - (Int.tmod (a0.size : Int) a1)))) KR KR ?_; clear ha a; intro a ha
        obtain ⟨hA851, h_⟩ := asrt_some h; clear h; have h := h_; clear h_
        obtain ⟨hA852, h_⟩ := asrt_some h; clear h; have h := h_; clear h_
        refine stepmk (encIK .u8) (0 : Int) ha HW 26 79 5 (.tmp 25) (.tmp 25) .i64 .i64 (IntKind.wrap .i64 (a1 - (Int.tmod (a0.size : Int) a1))) (.int .u8 0) 1 rfl KR KR KR KR rfl rfl hA851 (by have := hA852; omega) (by have := hA852; omega) KR ?_; clear ha HW a; intro b853 a W854 HW ha
        refine stepbt ha 27 79 9 5 (.tmp 26) (v := .slice (some ⟨b853, 0, none⟩) (List.replicate (IntKind.wrap .i64 (a1 - (Int.tmod (a0.size : Int) a1)) : Int).toNat (0 : Int)).length ((IntKind.wrap .i64 (a1 - (Int.tmod (a0.size : Int) a1)) : Int).toNat)) (xs := List.replicate (IntKind.wrap .i64 (a1 - (Int.tmod (a0.size : Int) a1)) : Int).toNat (0 : Int)) (HW.rdo (i := 0) (q := ⟨5, 1, .slice (some ⟨b853, 0, none⟩) (List.replicate (IntKind.wrap .i64 (a1 - (Int.tmod (a0.size : Int) a1)) : Int).toNat (0 : Int)).length ((IntKind.wrap .i64 (a1 - (Int.tmod (a0.size : Int) a1)) : Int).toNat), (List.replicate (IntKind.wrap .i64 (a1 - (Int.tmod (a0.size : Int) a1)) : Int).toNat (0 : Int)).length, encs (encIK .u8) (List.replicate (IntKind.wrap .i64 (a1 - (Int.tmod (a0.size : Int) a1)) : Int).toNat (0 : Int))⟩) KR) rfl KR KR KR KR KR ?_; clear ha a; intro a ha
        obtain ⟨hA856, h_⟩ := asrt_some h; clear h; have h := h_; clear h_
        refine stepsa ha 28 9 9 (.tmp 19) (.tmp 27) a0 (strOfNums (List.replicate (IntKind.wrap .i64 (a1 - (Int.tmod (a0.size : Int) a1)) : Int).toNat (0 : Int))) rfl KR KR (show (a0).size + (strOfNums (List.replicate (IntKind.wrap .i64 (a1 - (Int.tmod (a0.size : Int) a1)) : Int).toNat (0 : Int))).size ≤ 9223372036854775807 from hA856) KR ?_; clear ha a; intro a ha
        refine stepp ha 4 (.string (a0 ++ (strOfNums (List.replicate (IntKind.wrap .i64 (a1 - (Int.tmod (a0.size : Int) a1)) : Int).toNat (0 : Int))))) KR KR ?_; clear ha a; intro a ha
        refine endl ?_
        refine thenN (hK850 _ _ ?_); clear hK850
        refine wp_ret ?_
        obtain rfl := Option.some.inj h
        exact finv ha _ _ rfl (.tmp (v := .string (a0 ++ (strOfNums (List.replicate (IntKind.wrap .i64 (a1 - (Int.tmod (a0.size : Int) a1)) : Int).toNat (0 : Int))))) KR .nil) (.string (a0 ++ (strOfNums (List.replicate (IntKind.wrap .i64 (a1 - (Int.tmod (a0.size : Int) a1)) : Int).toNat (0 : Int))))) rfl ⟨rfl, HW.pick [] [] (by decide) (by decide) rfl KR⟩
/-! ### headgate/frame.Put: function 263 -/
def frame_Put.f (K : Nat) (a0 : Int) (a1 : ByteArray) : Option (ByteArray × Int) :=
  if (a1.size : Int) > 65536 then (some ((⟨#[]⟩ : ByteArray), 2)) else ((fields_PutBig.f K a0 8).bind fun t868 => (asrt (4 + t868.size ≤ 9223372036854775807) ((fields_PutBig.f K (IntKind.wrap .u64 (a1.size : Int)) 4).bind fun t873 => (asrt (((⟨#[72, 71, 70, 82]⟩ : ByteArray) ++ t868).size + t873.size ≤ 9223372036854775807) ((crc_Digest.f K (((⟨#[72, 71, 70, 82]⟩ : ByteArray) ++ t868) ++ t873)).bind fun t880 => (asrt ((((⟨#[72, 71, 70, 82]⟩ : ByteArray) ++ t868) ++ t873).size + t880.size ≤ 9223372036854775807) (asrt (((((⟨#[72, 71, 70, 82]⟩ : ByteArray) ++ t868) ++ t873) ++ t880).size + a1.size ≤ 9223372036854775807) ((crc_Digest.f K a1).bind fun t886 => (asrt ((((((⟨#[72, 71, 70, 82]⟩ : ByteArray) ++ t868) ++ t873) ++ t880) ++ a1).size + t886.size ≤ 9223372036854775807) ((fields_Pad.f ((((((⟨#[72, 71, 70, 82]⟩ : ByteArray) ++ t868) ++ t873) ++ t880) ++ a1) ++ t886) 512).bind fun t891 => (some (t891, 0))))))))))))
set_option maxRecDepth 100000 in
set_option maxHeartbeats 4000000 in
theorem frame_Put.calls (K : Nat) (a0 : Int) (a1 : ByteArray)  (r : ByteArray × Int) (w : World) (hG2 : CA w 2 0 (encs (encIK .u32) G_crc_steps).toArray) (h : frame_Put.f K a0 a1 = some r) :
    Calls Tryz.prog 263 #[.int .u64 a0, .string a1] w (fun e W' => e = .returned (.tuple #[.string r.1, .int .i64 r.2]) ∧ Wd w W' [] [] ) := by
  refine sxstart (n := 28) (l := [(0, .int .u64 a0), (1, .string a1)]) Tryz.func263 rfl rfl (Nat.le_of_ble_eq_true KR) (subsA_cons rfl (subsA_cons rfl (subsA_nil _))) ?_
  intro a ha
  have HW := Wd.refl w
  unfold frame_Put.f at h
  refine wp_seq_k (fun K857 hK858 => ?_)
  refine wp_region_lit ?_
  refine stepp ha 4 (.string (⟨#[]⟩ : ByteArray)) KR KR ?_; clear ha a; intro a ha
  refine stepp ha 5 (.int .i64 0) KR KR ?_; clear ha a; intro a ha
  refine endl ?_
  refine thenN (hK858 _ _ ?_); clear hK858
  refine wp_seq_k (fun K859 hK860 => ?_)
  refine wp_seq_k (fun K861 hK862 => ?_)
  refine wp_region_lit ?_
  refine stepp ha 7 (.string a1) KR KR ?_; clear ha a; intro a ha
  refine stepp ha 8 (.int .i64 (a1.size : Int)) KR KR ?_; clear ha a; intro a ha
  refine stepp ha 9 (.bool (decide ((a1.size : Int) > 65536))) KR KR ?_; clear ha a; intro a ha
  refine endl ?_
  refine thenN (hK862 _ _ ?_); clear hK862
  by_cases hp863 : (a1.size : Int) > 65536
  · skip
    replace h := ite_pos' h hp863
    refine condT ha KR KR (t := decide ((a1.size : Int) > 65536)) (decide_eq_true hp863) ?_
    refine wp_seq_k (fun K864 hK865 => ?_)
    refine wp_region_lit ?_
    refine stepp ha 4 (.string (⟨#[]⟩ : ByteArray)) KR KR ?_; clear ha a; intro a ha
    refine stepp ha 5 (.int .i64 2) KR KR ?_; clear ha a; intro a ha
    refine endl ?_
    refine thenN (hK865 _ _ ?_); clear hK865
    refine wp_ret ?_
    refine thenR ?_
    obtain rfl := Option.some.inj h
    exact finv ha _ _ rfl (.tmp (v := .string (⟨#[]⟩ : ByteArray)) KR (.tmp (v := .int .i64 2) KR .nil)) (.tuple #[.string (⟨#[]⟩ : ByteArray), .int .i64 2]) rfl ⟨rfl, HW.pick [] [] (by decide) (by decide) rfl KR⟩
  · skip
    replace h := ite_neg' h hp863
    refine condF ha KR KR (t := decide ((a1.size : Int) > 65536)) (decide_eq_false hp863) ?_
    refine wp_skip ?_
    refine thenN (hK860 _ _ ?_); clear hK860
    refine wp_seq_k (fun K866 hK867 => ?_)
    refine wp_region_lit ?_
    refine stepp ha 10 (.int .u64 a0) KR KR ?_; clear ha a; intro a ha
    obtain ⟨t868, ht869, h_⟩ := bind_some' h; clear h; have h := h_; clear h_
    refine stepc ha 11 KR KR (fields_PutBig.calls K a0 8 t868 _ ht869) ?_; clear ha a; rintro e W870 ⟨rfl, HX871⟩
    refine ⟨_, rfl, ?_⟩; intro a ha; replace HW := HW.callw HX871; clear HX871
    obtain ⟨hA872, h_⟩ := asrt_some h; clear h; have h := h_; clear h_
    refine stepsa ha 12 9 9 (.const (.string (⟨#[72, 71, 70, 82]⟩ : ByteArray))) (.tmp 11) (⟨#[72, 71, 70, 82]⟩ : ByteArray) t868 rfl KR KR (show ((⟨#[72, 71, 70, 82]⟩ : ByteArray)).size + (t868).size ≤ 9223372036854775807 from hA872) KR ?_; clear ha a; intro a ha
    refine stepp ha 13 (.string a1) KR KR ?_; clear ha a; intro a ha
    refine stepp ha 14 (.int .i64 (a1.size : Int)) KR KR ?_; clear ha a; intro a ha
    refine stepp ha 15 (.int .u64 (IntKind.wrap .u64 (a1.size : Int))) KR KR ?_; clear ha a; intro a ha
    obtain ⟨t873, ht874, h_⟩ := bind_some' h; clear h; have h := h_; clear h_
    refine stepc ha 16 KR KR (fields_PutBig.calls K (IntKind.wrap .u64 (a1.size : Int)) 4 t873 _ ht874) ?_; clear ha a; rintro e W875 ⟨rfl, HX876⟩
    refine ⟨_, rfl, ?_⟩; intro a ha; replace HW := HW.callw HX876; clear HX876
    obtain ⟨hA877, h_⟩ := asrt_some h; clear h; have h := h_; clear h_
    refine stepsa ha 17 9 9 (.tmp 12) (.tmp 16) ((⟨#[72, 71, 70, 82]⟩ : ByteArray) ++ t868) t873 rfl KR KR (show ((⟨#[72, 71, 70, 82]⟩ : ByteArray) ++ t868).size + (t873).size ≤ 9223372036854775807 from hA877) KR ?_; clear ha a; intro a ha
    refine stepp ha 6 (.string (((⟨#[72, 71, 70, 82]⟩ : ByteArray) ++ t868) ++ t873)) KR KR ?_; clear ha a; intro a ha
    refine endl ?_
    refine thenN (hK867 _ _ ?_); clear hK867
    refine wp_seq_k (fun K878 hK879 => ?_)
    refine wp_region_lit ?_
    refine stepp ha 18 (.string (((⟨#[72, 71, 70, 82]⟩ : ByteArray) ++ t868) ++ t873)) KR KR ?_; clear ha a; intro a ha
    refine stepp ha 19 (.string (((⟨#[72, 71, 70, 82]⟩ : ByteArray) ++ t868) ++ t873)) KR KR ?_; clear ha a; intro a ha
    obtain ⟨t880, ht881, h_⟩ := bind_some' h; clear h; have h := h_; clear h_
    refine stepc ha 20 KR KR (crc_Digest.calls K (((⟨#[72, 71, 70, 82]⟩ : ByteArray) ++ t868) ++ t873) t880 _ (HW.ca0 hG2) ht881) ?_; clear ha a; rintro e W882 ⟨rfl, HX883⟩
    refine ⟨_, rfl, ?_⟩; intro a ha; replace HW := HW.callw HX883; clear HX883
    obtain ⟨hA884, h_⟩ := asrt_some h; clear h; have h := h_; clear h_
    refine stepsa ha 21 9 9 (.tmp 18) (.tmp 20) (((⟨#[72, 71, 70, 82]⟩ : ByteArray) ++ t868) ++ t873) t880 rfl KR KR (show (((⟨#[72, 71, 70, 82]⟩ : ByteArray) ++ t868) ++ t873).size + (t880).size ≤ 9223372036854775807 from hA884) KR ?_; clear ha a; intro a ha
    refine stepp ha 22 (.string a1) KR KR ?_; clear ha a; intro a ha
    obtain ⟨hA885, h_⟩ := asrt_some h; clear h; have h := h_; clear h_
    refine stepsa ha 23 9 9 (.tmp 21) (.tmp 22) ((((⟨#[72, 71, 70, 82]⟩ : ByteArray) ++ t868) ++ t873) ++ t880) a1 rfl KR KR (show ((((⟨#[72, 71, 70, 82]⟩ : ByteArray) ++ t868) ++ t873) ++ t880).size + (a1).size ≤ 9223372036854775807 from hA885) KR ?_; clear ha a; intro a ha
    refine stepp ha 24 (.string a1) KR KR ?_; clear ha a; intro a ha
    obtain ⟨t886, ht887, h_⟩ := bind_some' h; clear h; have h := h_; clear h_
    refine stepc ha 25 KR KR (crc_Digest.calls K a1 t886 _ (HW.ca0 hG2) ht887) ?_; clear ha a; rintro e W888 ⟨rfl, HX889⟩
    refine ⟨_, rfl, ?_⟩; intro a ha; replace HW := HW.callw HX889; clear HX889
    obtain ⟨hA890, h_⟩ := asrt_some h; clear h; have h := h_; clear h_
    refine stepsa ha 26 9 9 (.tmp 23) (.tmp 25) (((((⟨#[72, 71, 70, 82]⟩ : ByteArray) ++ t868) ++ t873) ++ t880) ++ a1) t886 rfl KR KR (show (((((⟨#[72, 71, 70, 82]⟩ : ByteArray) ++ t868) ++ t873) ++ t880) ++ a1).size + (t886).size ≤ 9223372036854775807 from hA890) KR ?_; clear ha a; intro a ha
    obtain ⟨t891, ht892, h_⟩ := bind_some' h; clear h; have h := h_; clear h_
    refine stepc ha 27 KR KR (fields_Pad.calls ((((((⟨#[72, 71, 70, 82]⟩ : ByteArray) ++ t868) ++ t873) ++ t880) ++ a1) ++ t886) 512 t891 _ ht892) ?_; clear ha a; rintro e W893 ⟨rfl, HX894⟩
    refine ⟨_, rfl, ?_⟩; intro a ha; replace HW := HW.callw HX894; clear HX894
    refine stepp ha 4 (.string t891) KR KR ?_; clear ha a; intro a ha
    refine stepp ha 5 (.int .i64 0) KR KR ?_; clear ha a; intro a ha
    refine endl ?_
    refine thenN (hK879 _ _ ?_); clear hK879
    refine wp_ret ?_
    obtain rfl := Option.some.inj h
    exact finv ha _ _ rfl (.tmp (v := .string t891) KR (.tmp (v := .int .i64 0) KR .nil)) (.tuple #[.string t891, .int .i64 0]) rfl ⟨rfl, HW.pick [] [] (by decide) (by decide) rfl KR⟩
/-! ### headgate/extents.alone: function 248 -/
def extents_alone.f (a0 : T_api_Extent) : Option Bool :=
  if a0.f0 ≥ 0 then (if a0.f2 ≥ 0 then (if a0.f1 ≥ 1 then (if a0.f1 ≤ 4096 then (if a0.f0 ≤ (IntKind.wrap .i64 (4096 - a0.f1)) then (some (decide (a0.f2 ≤ (IntKind.wrap .i64 (8192 - a0.f1))))) else (some false)) else (some false)) else (some false)) else (some false)) else (some false)
set_option maxRecDepth 100000 in
set_option maxHeartbeats 4000000 in
theorem extents_alone.calls (a0 : T_api_Extent)  (r : Bool) (w : World)  (h : extents_alone.f a0 = some r) :
    Calls Tryz.prog 248 #[.agg #[.int .i64 a0.f0, .int .i64 a0.f1, .int .i64 a0.f2]] w (fun e W' => e = .returned (.bool r) ∧ Wd w W' [] [] ) := by
  refine sxstart (n := 37) (l := [(0, .agg #[.int .i64 a0.f0, .int .i64 a0.f1, .int .i64 a0.f2])]) Tryz.func248 rfl rfl (Nat.le_of_ble_eq_true KR) (subsA_cons rfl (subsA_nil _)) ?_
  intro a ha
  have HW := Wd.refl w
  unfold extents_alone.f at h
  refine wp_seq_k (fun K913 hK914 => ?_)
  refine wp_region_lit ?_
  refine stepnew ha HW 1 #[.int .i64 a0.f0, .int .i64 a0.f1, .int .i64 a0.f2] 232 KR KR ?_; clear ha HW a; intro b915 a W916 HW ha
  refine stepp ha 2 (.bool false) KR KR ?_; clear ha a; intro a ha
  refine endl ?_
  refine thenN (hK914 _ _ ?_); clear hK914
  refine wp_seq_k (fun K917 hK918 => ?_)
  refine wp_region_lit ?_
  refine stepp ha 3 (.pointer (some ⟨b915, 0, none⟩)) KR KR ?_; clear ha a; intro a ha
  refine stepl ha 4 (HW.ca (i := 0) (b := b915) (C := #[.int .i64 a0.f0, .int .i64 a0.f1, .int .i64 a0.f2]) (T := 232) (fr := (0, 0)) KR) 3 0 (.tmp 3) (.int .i64 a0.f0) rfl KR KR KR ?_; clear ha a; intro a ha
  refine stepp ha 5 (.bool (decide (a0.f0 ≥ 0))) KR KR ?_; clear ha a; intro a ha
  refine stepp ha 6 (.bool (decide (a0.f0 ≥ 0))) KR KR ?_; clear ha a; intro a ha
  by_cases hp919 : a0.f0 ≥ 0
  · skip
    replace h := ite_pos' h hp919
    replace ha := ha.bool 6 KR (decide_eq_true hp919)
    refine stepp ha 7 (.pointer (some ⟨b915, 2, none⟩)) KR KR ?_; clear ha a; intro a ha
    refine stepl ha 8 (HW.ca (i := 0) (b := b915) (C := #[.int .i64 a0.f0, .int .i64 a0.f1, .int .i64 a0.f2]) (T := 232) (fr := (0, 0)) KR) 3 2 (.tmp 7) (.int .i64 a0.f2) rfl KR KR KR ?_; clear ha a; intro a ha
    refine stepp ha 9 (.bool (decide (a0.f2 ≥ 0))) KR KR ?_; clear ha a; intro a ha
    refine stepp ha 10 (.bool (decide (a0.f2 ≥ 0))) KR KR ?_; clear ha a; intro a ha
    refine stepp ha 11 (.bool (decide (a0.f2 ≥ 0))) KR KR ?_; clear ha a; intro a ha
    by_cases hp920 : a0.f2 ≥ 0
    · skip
      replace h := ite_pos' h hp920
      replace ha := ha.bool 11 KR (decide_eq_true hp920)
      refine stepp ha 12 (.pointer (some ⟨b915, 1, none⟩)) KR KR ?_; clear ha a; intro a ha
      refine stepl ha 13 (HW.ca (i := 0) (b := b915) (C := #[.int .i64 a0.f0, .int .i64 a0.f1, .int .i64 a0.f2]) (T := 232) (fr := (0, 0)) KR) 3 1 (.tmp 12) (.int .i64 a0.f1) rfl KR KR KR ?_; clear ha a; intro a ha
      refine stepp ha 14 (.bool (decide (a0.f1 ≥ 1))) KR KR ?_; clear ha a; intro a ha
      refine stepp ha 15 (.bool (decide (a0.f1 ≥ 1))) KR KR ?_; clear ha a; intro a ha
      refine stepp ha 16 (.bool (decide (a0.f1 ≥ 1))) KR KR ?_; clear ha a; intro a ha
      by_cases hp921 : a0.f1 ≥ 1
      · skip
        replace h := ite_pos' h hp921
        replace ha := ha.bool 16 KR (decide_eq_true hp921)
        refine stepp ha 17 (.pointer (some ⟨b915, 1, none⟩)) KR KR ?_; clear ha a; intro a ha
        refine stepl ha 18 (HW.ca (i := 0) (b := b915) (C := #[.int .i64 a0.f0, .int .i64 a0.f1, .int .i64 a0.f2]) (T := 232) (fr := (0, 0)) KR) 3 1 (.tmp 17) (.int .i64 a0.f1) rfl KR KR KR ?_; clear ha a; intro a ha
        refine stepp ha 19 (.bool (decide (a0.f1 ≤ 4096))) KR KR ?_; clear ha a; intro a ha
        refine stepp ha 20 (.bool (decide (a0.f1 ≤ 4096))) KR KR ?_; clear ha a; intro a ha
        refine stepp ha 21 (.bool (decide (a0.f1 ≤ 4096))) KR KR ?_; clear ha a; intro a ha
        by_cases hp922 : a0.f1 ≤ 4096
        · skip
          replace h := ite_pos' h hp922
          replace ha := ha.bool 21 KR (decide_eq_true hp922)
          refine stepp ha 22 (.pointer (some ⟨b915, 0, none⟩)) KR KR ?_; clear ha a; intro a ha
          refine stepl ha 23 (HW.ca (i := 0) (b := b915) (C := #[.int .i64 a0.f0, .int .i64 a0.f1, .int .i64 a0.f2]) (T := 232) (fr := (0, 0)) KR) 3 0 (.tmp 22) (.int .i64 a0.f0) rfl KR KR KR ?_; clear ha a; intro a ha
          refine stepp ha 24 (.pointer (some ⟨b915, 1, none⟩)) KR KR ?_; clear ha a; intro a ha
          refine stepl ha 25 (HW.ca (i := 0) (b := b915) (C := #[.int .i64 a0.f0, .int .i64 a0.f1, .int .i64 a0.f2]) (T := 232) (fr := (0, 0)) KR) 3 1 (.tmp 24) (.int .i64 a0.f1) rfl KR KR KR ?_; clear ha a; intro a ha
          refine stepp ha 26 (.int .i64 (IntKind.wrap .i64 (4096 - a0.f1))) KR KR ?_; clear ha a; intro a ha
          refine stepp ha 27 (.bool (decide (a0.f0 ≤ (IntKind.wrap .i64 (4096 - a0.f1))))) KR KR ?_; clear ha a; intro a ha
          refine stepp ha 28 (.bool (decide (a0.f0 ≤ (IntKind.wrap .i64 (4096 - a0.f1))))) KR KR ?_; clear ha a; intro a ha
          refine stepp ha 29 (.bool (decide (a0.f0 ≤ (IntKind.wrap .i64 (4096 - a0.f1))))) KR KR ?_; clear ha a; intro a ha
          by_cases hp923 : a0.f0 ≤ (IntKind.wrap .i64 (4096 - a0.f1))
          · skip
            replace h := ite_pos' h hp923
            replace ha := ha.bool 29 KR (decide_eq_true hp923)
            refine stepp ha 30 (.pointer (some ⟨b915, 2, none⟩)) KR KR ?_; clear ha a; intro a ha
            refine stepl ha 31 (HW.ca (i := 0) (b := b915) (C := #[.int .i64 a0.f0, .int .i64 a0.f1, .int .i64 a0.f2]) (T := 232) (fr := (0, 0)) KR) 3 2 (.tmp 30) (.int .i64 a0.f2) rfl KR KR KR ?_; clear ha a; intro a ha
            refine stepp ha 32 (.pointer (some ⟨b915, 1, none⟩)) KR KR ?_; clear ha a; intro a ha
            refine stepl ha 33 (HW.ca (i := 0) (b := b915) (C := #[.int .i64 a0.f0, .int .i64 a0.f1, .int .i64 a0.f2]) (T := 232) (fr := (0, 0)) KR) 3 1 (.tmp 32) (.int .i64 a0.f1) rfl KR KR KR ?_; clear ha a; intro a ha
            refine stepp ha 34 (.int .i64 (IntKind.wrap .i64 (8192 - a0.f1))) KR KR ?_; clear ha a; intro a ha
            refine stepp ha 35 (.bool (decide (a0.f2 ≤ (IntKind.wrap .i64 (8192 - a0.f1))))) KR KR ?_; clear ha a; intro a ha
            refine stepp ha 36 (.bool (decide (a0.f2 ≤ (IntKind.wrap .i64 (8192 - a0.f1))))) KR KR ?_; clear ha a; intro a ha
            refine stepp ha 2 (.bool (decide (a0.f2 ≤ (IntKind.wrap .i64 (8192 - a0.f1))))) KR KR ?_; clear ha a; intro a ha
            refine endl ?_
            refine thenN (hK918 _ _ ?_); clear hK918
            refine wp_ret ?_
            obtain rfl := Option.some.inj h
            exact finv ha _ _ rfl (.tmp (v := .bool (decide (a0.f2 ≤ (IntKind.wrap .i64 (8192 - a0.f1))))) KR .nil) (.bool (decide (a0.f2 ≤ (IntKind.wrap .i64 (8192 - a0.f1))))) rfl ⟨rfl, HW.pick [] [] (by decide) (by decide) rfl KR⟩
          · skip
            replace h := ite_neg' h hp923
            replace ha := ha.bool 29 KR (decide_eq_false hp923)
            refine stepo ha 30 KR ?_; clear ha a; intro a ha
            refine stepo ha 31 KR ?_; clear ha a; intro a ha
            refine stepo ha 32 KR ?_; clear ha a; intro a ha
            refine stepo ha 33 KR ?_; clear ha a; intro a ha
            refine stepo ha 34 KR ?_; clear ha a; intro a ha
            refine stepo ha 35 KR ?_; clear ha a; intro a ha
            refine stepp ha 36 (.bool false) KR KR ?_; clear ha a; intro a ha
            refine stepp ha 2 (.bool false) KR KR ?_; clear ha a; intro a ha
            refine endl ?_
            refine thenN (hK918 _ _ ?_); clear hK918
            refine wp_ret ?_
            obtain rfl := Option.some.inj h
            exact finv ha _ _ rfl (.tmp (v := .bool false) KR .nil) (.bool false) rfl ⟨rfl, HW.pick [] [] (by decide) (by decide) rfl KR⟩
        · skip
          replace h := ite_neg' h hp922
          replace ha := ha.bool 21 KR (decide_eq_false hp922)
          refine stepo ha 22 KR ?_; clear ha a; intro a ha
          refine stepo ha 23 KR ?_; clear ha a; intro a ha
          refine stepo ha 24 KR ?_; clear ha a; intro a ha
          refine stepo ha 25 KR ?_; clear ha a; intro a ha
          refine stepo ha 26 KR ?_; clear ha a; intro a ha
          refine stepo ha 27 KR ?_; clear ha a; intro a ha
          refine stepp ha 28 (.bool false) KR KR ?_; clear ha a; intro a ha
          refine stepp ha 29 (.bool false) KR KR ?_; clear ha a; intro a ha
          refine stepo ha 30 KR ?_; clear ha a; intro a ha
          refine stepo ha 31 KR ?_; clear ha a; intro a ha
          refine stepo ha 32 KR ?_; clear ha a; intro a ha
          refine stepo ha 33 KR ?_; clear ha a; intro a ha
          refine stepo ha 34 KR ?_; clear ha a; intro a ha
          refine stepo ha 35 KR ?_; clear ha a; intro a ha
          refine stepp ha 36 (.bool false) KR KR ?_; clear ha a; intro a ha
          refine stepp ha 2 (.bool false) KR KR ?_; clear ha a; intro a ha
          refine endl ?_
          refine thenN (hK918 _ _ ?_); clear hK918
          refine wp_ret ?_
          obtain rfl := Option.some.inj h
          exact finv ha _ _ rfl (.tmp (v := .bool false) KR .nil) (.bool false) rfl ⟨rfl, HW.pick [] [] (by decide) (by decide) rfl KR⟩
      · skip
        replace h := ite_neg' h hp921
        replace ha := ha.bool 16 KR (decide_eq_false hp921)
        refine stepo ha 17 KR ?_; clear ha a; intro a ha
        refine stepo ha 18 KR ?_; clear ha a; intro a ha
        refine stepo ha 19 KR ?_; clear ha a; intro a ha
        refine stepp ha 20 (.bool false) KR KR ?_; clear ha a; intro a ha
        refine stepp ha 21 (.bool false) KR KR ?_; clear ha a; intro a ha
        refine stepo ha 22 KR ?_; clear ha a; intro a ha
        refine stepo ha 23 KR ?_; clear ha a; intro a ha
        refine stepo ha 24 KR ?_; clear ha a; intro a ha
        refine stepo ha 25 KR ?_; clear ha a; intro a ha
        refine stepo ha 26 KR ?_; clear ha a; intro a ha
        refine stepo ha 27 KR ?_; clear ha a; intro a ha
        refine stepp ha 28 (.bool false) KR KR ?_; clear ha a; intro a ha
        refine stepp ha 29 (.bool false) KR KR ?_; clear ha a; intro a ha
        refine stepo ha 30 KR ?_; clear ha a; intro a ha
        refine stepo ha 31 KR ?_; clear ha a; intro a ha
        refine stepo ha 32 KR ?_; clear ha a; intro a ha
        refine stepo ha 33 KR ?_; clear ha a; intro a ha
        refine stepo ha 34 KR ?_; clear ha a; intro a ha
        refine stepo ha 35 KR ?_; clear ha a; intro a ha
        refine stepp ha 36 (.bool false) KR KR ?_; clear ha a; intro a ha
        refine stepp ha 2 (.bool false) KR KR ?_; clear ha a; intro a ha
        refine endl ?_
        refine thenN (hK918 _ _ ?_); clear hK918
        refine wp_ret ?_
        obtain rfl := Option.some.inj h
        exact finv ha _ _ rfl (.tmp (v := .bool false) KR .nil) (.bool false) rfl ⟨rfl, HW.pick [] [] (by decide) (by decide) rfl KR⟩
    · skip
      replace h := ite_neg' h hp920
      replace ha := ha.bool 11 KR (decide_eq_false hp920)
      refine stepo ha 12 KR ?_; clear ha a; intro a ha
      refine stepo ha 13 KR ?_; clear ha a; intro a ha
      refine stepo ha 14 KR ?_; clear ha a; intro a ha
      refine stepp ha 15 (.bool false) KR KR ?_; clear ha a; intro a ha
      refine stepp ha 16 (.bool false) KR KR ?_; clear ha a; intro a ha
      refine stepo ha 17 KR ?_; clear ha a; intro a ha
      refine stepo ha 18 KR ?_; clear ha a; intro a ha
      refine stepo ha 19 KR ?_; clear ha a; intro a ha
      refine stepp ha 20 (.bool false) KR KR ?_; clear ha a; intro a ha
      refine stepp ha 21 (.bool false) KR KR ?_; clear ha a; intro a ha
      refine stepo ha 22 KR ?_; clear ha a; intro a ha
      refine stepo ha 23 KR ?_; clear ha a; intro a ha
      refine stepo ha 24 KR ?_; clear ha a; intro a ha
      refine stepo ha 25 KR ?_; clear ha a; intro a ha
      refine stepo ha 26 KR ?_; clear ha a; intro a ha
      refine stepo ha 27 KR ?_; clear ha a; intro a ha
      refine stepp ha 28 (.bool false) KR KR ?_; clear ha a; intro a ha
      refine stepp ha 29 (.bool false) KR KR ?_; clear ha a; intro a ha
      refine stepo ha 30 KR ?_; clear ha a; intro a ha
      refine stepo ha 31 KR ?_; clear ha a; intro a ha
      refine stepo ha 32 KR ?_; clear ha a; intro a ha
      refine stepo ha 33 KR ?_; clear ha a; intro a ha
      refine stepo ha 34 KR ?_; clear ha a; intro a ha
      refine stepo ha 35 KR ?_; clear ha a; intro a ha
      refine stepp ha 36 (.bool false) KR KR ?_; clear ha a; intro a ha
      refine stepp ha 2 (.bool false) KR KR ?_; clear ha a; intro a ha
      refine endl ?_
      refine thenN (hK918 _ _ ?_); clear hK918
      refine wp_ret ?_
      obtain rfl := Option.some.inj h
      exact finv ha _ _ rfl (.tmp (v := .bool false) KR .nil) (.bool false) rfl ⟨rfl, HW.pick [] [] (by decide) (by decide) rfl KR⟩
  · skip
    replace h := ite_neg' h hp919
    replace ha := ha.bool 6 KR (decide_eq_false hp919)
    refine stepo ha 7 KR ?_; clear ha a; intro a ha
    refine stepo ha 8 KR ?_; clear ha a; intro a ha
    refine stepo ha 9 KR ?_; clear ha a; intro a ha
    refine stepp ha 10 (.bool false) KR KR ?_; clear ha a; intro a ha
    refine stepp ha 11 (.bool false) KR KR ?_; clear ha a; intro a ha
    refine stepo ha 12 KR ?_; clear ha a; intro a ha
    refine stepo ha 13 KR ?_; clear ha a; intro a ha
    refine stepo ha 14 KR ?_; clear ha a; intro a ha
    refine stepp ha 15 (.bool false) KR KR ?_; clear ha a; intro a ha
    refine stepp ha 16 (.bool false) KR KR ?_; clear ha a; intro a ha
    refine stepo ha 17 KR ?_; clear ha a; intro a ha
    refine stepo ha 18 KR ?_; clear ha a; intro a ha
    refine stepo ha 19 KR ?_; clear ha a; intro a ha
    refine stepp ha 20 (.bool false) KR KR ?_; clear ha a; intro a ha
    refine stepp ha 21 (.bool false) KR KR ?_; clear ha a; intro a ha
    refine stepo ha 22 KR ?_; clear ha a; intro a ha
    refine stepo ha 23 KR ?_; clear ha a; intro a ha
    refine stepo ha 24 KR ?_; clear ha a; intro a ha
    refine stepo ha 25 KR ?_; clear ha a; intro a ha
    refine stepo ha 26 KR ?_; clear ha a; intro a ha
    refine stepo ha 27 KR ?_; clear ha a; intro a ha
    refine stepp ha 28 (.bool false) KR KR ?_; clear ha a; intro a ha
    refine stepp ha 29 (.bool false) KR KR ?_; clear ha a; intro a ha
    refine stepo ha 30 KR ?_; clear ha a; intro a ha
    refine stepo ha 31 KR ?_; clear ha a; intro a ha
    refine stepo ha 32 KR ?_; clear ha a; intro a ha
    refine stepo ha 33 KR ?_; clear ha a; intro a ha
    refine stepo ha 34 KR ?_; clear ha a; intro a ha
    refine stepo ha 35 KR ?_; clear ha a; intro a ha
    refine stepp ha 36 (.bool false) KR KR ?_; clear ha a; intro a ha
    refine stepp ha 2 (.bool false) KR KR ?_; clear ha a; intro a ha
    refine endl ?_
    refine thenN (hK918 _ _ ?_); clear hK918
    refine wp_ret ?_
    obtain rfl := Option.some.inj h
    exact finv ha _ _ rfl (.tmp (v := .bool false) KR .nil) (.bool false) rfl ⟨rfl, HW.pick [] [] (by decide) (by decide) rfl KR⟩
/-! ### headgate/extents.Good: function 192 -/
def extents_Good.b0 (K : Nat) (a0 : List T_api_Extent) (again1024 : Int → Option Bool) (x1025 : Int) : Option Bool :=
  if x1025 < (a0.length : Int) then (asrt (0 ≤ x1025) ((extents_alone.f (⟨(rdL T_api_Extent.z a0 x1025).f0, (rdL T_api_Extent.z a0 x1025).f1, (rdL T_api_Extent.z a0 x1025).f2⟩ : T_api_Extent)).bind fun t1049 => (if t1049 = true then (if x1025 = 0 then (again1024 (IntKind.wrap .i64 (x1025 + 1))) else (asrt (0 ≤ (IntKind.wrap .i64 (x1025 - 1))) (asrt ((IntKind.wrap .i64 (x1025 - 1)) < (a0.length : Int)) (if ((rdL T_api_Extent.z a0 x1025).f0) < (IntKind.wrap .i64 (((rdL T_api_Extent.z a0 (IntKind.wrap .i64 (x1025 - 1))).f0) + ((rdL T_api_Extent.z a0 (IntKind.wrap .i64 (x1025 - 1))).f1))) then (some false) else (if ((rdL T_api_Extent.z a0 x1025).f0) = (IntKind.wrap .i64 (((rdL T_api_Extent.z a0 (IntKind.wrap .i64 (x1025 - 1))).f0) + ((rdL T_api_Extent.z a0 (IntKind.wrap .i64 (x1025 - 1))).f1))) then (if ((rdL T_api_Extent.z a0 x1025).f2) = (IntKind.wrap .i64 (((rdL T_api_Extent.z a0 (IntKind.wrap .i64 (x1025 - 1))).f2) + ((rdL T_api_Extent.z a0 (IntKind.wrap .i64 (x1025 - 1))).f1))) then (some false) else (again1024 (IntKind.wrap .i64 (x1025 + 1)))) else (again1024 (IntKind.wrap .i64 (x1025 + 1)))))))) else (some false)))) else (some true)
def extents_Good.l0 (K : Nat) (a0 : List T_api_Extent) : Nat → Int → Option Bool
  | 0, _ => none
  | k_ + 1, x1025 => extents_Good.b0 K a0 (extents_Good.l0 K a0 k_) x1025
def extents_Good.f (K : Nat) (a0 : List T_api_Extent) : Option Bool :=
  if (a0.length : Int) > 4096 then (some false) else (extents_Good.l0 K a0 K 0)
set_option maxRecDepth 100000 in
set_option maxHeartbeats 4000000 in
theorem extents_Good.calls (K : Nat) (a0 : List T_api_Extent) (A0_0 : Option Addr) (c0_0 : Nat) (r : Bool) (w : World) (hr0_0 : Rd 3 w (.slice A0_0 a0.length c0_0) a0.length (encs T_api_Extent.enc a0)) (h : extents_Good.f K a0 = some r) :
    Calls Tryz.prog 192 #[.slice A0_0 a0.length c0_0] w (fun e W' => e = .returned (.bool r) ∧ Wd w W' [] [] ) := by
  refine sxstart (n := 53) (l := [(0, .slice A0_0 a0.length c0_0)]) Tryz.func192 rfl rfl (Nat.le_of_ble_eq_true KR) (subsA_cons rfl (subsA_nil _)) ?_
  intro a ha
  have HW := Wd.refl w
  unfold extents_Good.f at h
  refine wp_seq_k (fun K924 hK925 => ?_)
  refine wp_region_lit ?_
  refine stepp ha 2 (.bool false) KR KR ?_; clear ha a; intro a ha
  refine endl ?_
  refine thenN (hK925 _ _ ?_); clear hK925
  refine wp_seq_k (fun K926 hK927 => ?_)
  refine wp_seq_k (fun K928 hK929 => ?_)
  refine wp_region_lit ?_
  refine stepp ha 7 (.slice A0_0 a0.length c0_0) KR KR ?_; clear ha a; intro a ha
  refine stepp ha 8 (.int .i64 (a0.length : Int)) KR KR ?_; clear ha a; intro a ha
  refine stepp ha 9 (.bool (decide ((a0.length : Int) > 4096))) KR KR ?_; clear ha a; intro a ha
  refine endl ?_
  refine thenN (hK929 _ _ ?_); clear hK929
  by_cases hp930 : (a0.length : Int) > 4096
  · skip
    replace h := ite_pos' h hp930
    refine condT ha KR KR (t := decide ((a0.length : Int) > 4096)) (decide_eq_true hp930) ?_
    refine wp_seq_k (fun K931 hK932 => ?_)
    refine wp_region_lit ?_
    refine stepp ha 2 (.bool false) KR KR ?_; clear ha a; intro a ha
    refine endl ?_
    refine thenN (hK932 _ _ ?_); clear hK932
    refine wp_ret ?_
    refine thenR ?_
    obtain rfl := Option.some.inj h
    exact finv ha _ _ rfl (.tmp (v := .bool false) KR .nil) (.bool false) rfl ⟨rfl, HW.pick [] [] (by decide) (by decide) rfl KR⟩
  · skip
    replace h := ite_neg' h hp930
    refine condF ha KR KR (t := decide ((a0.length : Int) > 4096)) (decide_eq_false hp930) ?_
    refine wp_skip ?_
    refine thenN (hK927 _ _ ?_); clear hK927
    refine wp_seq_k (fun K933 hK934 => ?_)
    refine wp_seq_k (fun K935 hK936 => ?_)
    refine wp_region_lit ?_
    refine stepp ha 10 (.slice A0_0 a0.length c0_0) KR KR ?_; clear ha a; intro a ha
    refine stepp ha 11 (.int .i64 (a0.length : Int)) KR KR ?_; clear ha a; intro a ha
    refine stepp ha 12 (.int .i64 0) KR KR ?_; clear ha a; intro a ha
    refine endl ?_
    refine thenN (hK936 _ _ ?_); clear hK936
    refine wp_block ?_
    refine loopk (fun k => fun a W1026 => ∃ (x1025 : Int), extents_Good.l0 K a0 k x1025 = some r ∧ Has 53 [(0, .slice A0_0 a0.length c0_0), (10, .slice A0_0 a0.length c0_0), (11, .int .i64 (a0.length : Int)), (12, .int .i64 x1025)] a ∧ Wd w W1026 [] []) K ?_ ?_
    · skip
      exact ⟨0, h, ha.sub (subs_cons KR (subs_cons KR (subs_cons KR (subs_cons KR (subs_nil _))))), HW.pick [] [] (by decide) (by decide) KR KR⟩
    · skip
      intro k a W1026 hI
      obtain ⟨x1025, h, ha, HW⟩ := hI
      cases k with
      | zero => exact (none_some (show none = some r from h)).elim
      | succ k1027 =>
        replace h : extents_Good.b0 K a0 (extents_Good.l0 K a0 k1027) x1025 = some r := h
        obtain ⟨again1024, hag1028⟩ : ∃ g_, g_ = extents_Good.l0 K a0 k1027 := ⟨_, rfl⟩
        rw [← hag1028] at h
        unfold extents_Good.b0 at h
        refine wp_seq_k (fun K1029 hK1030 => ?_)
        refine wp_region_lit ?_
        refine stepp ha 13 (.bool (decide (x1025 < (a0.length : Int)))) KR KR ?_; clear ha a; intro a ha
        refine endl ?_
        refine thenN (hK1030 _ _ ?_); clear hK1030
        refine wp_seq_k (fun K1031 hK1032 => ?_)
        by_cases hp1033 : x1025 < (a0.length : Int)
        · skip
          replace h := ite_pos' h hp1033
          refine condT ha KR KR (t := decide (x1025 < (a0.length : Int))) (decide_eq_true hp1033) ?_
          refine wp_skip ?_
          refine thenN (hK1032 _ _ ?_); clear hK1032
          refine wp_seq_k (fun K1034 hK1035 => ?_)
          refine wp_block ?_
          refine wp_seq_k (fun K1036 hK1037 => ?_)
          refine wp_region_lit ?_
          refine stepp ha 14 (.int .i64 x1025) KR KR ?_; clear ha a; intro a ha
          obtain ⟨hA1038, h_⟩ := asrt_some h; clear h; have h := h_; clear h_
          refine stepie T_api_Extent.enc T_api_Extent.z ha 15 (fun _ => rfl) (v := .slice A0_0 a0.length c0_0) (xs := a0) ((HW.rd0 hr0_0)) 214 232 (.tmp 10) (.tmp 12) .i64 x1025 rfl KR KR KR KR hA1038 (show (x1025 : Int) < ((a0).length : Int) from hp1033) KR ?_; clear ha a; intro b1039 off1040 a hC1041 ha
          refine stepl ha 16 hC1041 232 0 (.tmp 15) (.agg #[.int .i64 ((rdL T_api_Extent.z a0 x1025).f0), .int .i64 ((rdL T_api_Extent.z a0 x1025).f1), .int .i64 ((rdL T_api_Extent.z a0 x1025).f2)]) rfl KR KR KR ?_; clear ha a; intro a ha
          refine stepnew ha HW 4 #[.int .i64 0, .int .i64 0, .int .i64 0] 232 KR KR ?_; clear ha HW a; intro b1042 a W1043 HW ha
          refine stepp ha 3 (.int .i64 x1025) KR KR ?_; clear ha a; intro a ha
          refine stepst ha HW 0 (b := b1042) (C := #[.int .i64 0, .int .i64 0, .int .i64 0]) (T := 232) KR 232 0 (.tmp 4) (.tmp 16) (.agg #[.int .i64 ((rdL T_api_Extent.z a0 x1025).f0), .int .i64 ((rdL T_api_Extent.z a0 x1025).f1), .int .i64 ((rdL T_api_Extent.z a0 x1025).f2)]) #[.int .i64 ((rdL T_api_Extent.z a0 x1025).f0), .int .i64 ((rdL T_api_Extent.z a0 x1025).f1), .int .i64 ((rdL T_api_Extent.z a0 x1025).f2)] rfl KR KR KR KR KR KR KR ?_; clear ha HW a; intro a W1044 HW ha
          refine endl ?_
          refine thenN (hK1037 _ _ ?_); clear hK1037
          refine wp_seq_k (fun K1045 hK1046 => ?_)
          refine wp_seq_k (fun K1047 hK1048 => ?_)
          refine wp_region_lit ?_
          refine stepl ha 17 (HW.ca (i := 0) (b := b1042) (C := #[.int .i64 ((rdL T_api_Extent.z a0 x1025).f0), .int .i64 ((rdL T_api_Extent.z a0 x1025).f1), .int .i64 ((rdL T_api_Extent.z a0 x1025).f2)]) (T := 232) (fr := (0, 0)) KR) 232 0 (.tmp 4) (.agg #[.int .i64 ((rdL T_api_Extent.z a0 x1025).f0), .int .i64 ((rdL T_api_Extent.z a0 x1025).f1), .int .i64 ((rdL T_api_Extent.z a0 x1025).f2)]) rfl KR KR KR ?_; clear ha a; intro a ha
          obtain ⟨t1049, ht1050, h_⟩ := bind_some' h; clear h; have h := h_; clear h_
          refine stepc ha 18 KR KR (extents_alone.calls (⟨(rdL T_api_Extent.z a0 x1025).f0, (rdL T_api_Extent.z a0 x1025).f1, (rdL T_api_Extent.z a0 x1025).f2⟩ : T_api_Extent) t1049 _ ht1050) ?_; clear ha a; rintro e W1051 ⟨rfl, HX1052⟩
          refine ⟨_, rfl, ?_⟩; intro a ha; replace HW := HW.callw HX1052; clear HX1052
          refine stepp ha 19 (.bool (!t1049)) KR KR ?_; clear ha a; intro a ha
          refine endl ?_
          refine thenN (hK1048 _ _ ?_); clear hK1048
          by_cases hp1053 : t1049 = true
          · skip
            replace h := ite_pos' h hp1053
            refine condF ha KR KR (t := (!t1049)) (not_f (hp1053)) ?_
            refine wp_skip ?_
            refine thenN (hK1046 _ _ ?_); clear hK1046
            refine wp_seq_k (fun K1056 hK1057 => ?_)
            refine wp_seq_k (fun K1058 hK1059 => ?_)
            refine wp_region_lit ?_
            refine stepp ha 20 (.int .i64 x1025) KR KR ?_; clear ha a; intro a ha
            refine stepp ha 21 (.bool (x1025 == 0)) KR KR ?_; clear ha a; intro a ha
            refine endl ?_
            refine thenN (hK1059 _ _ ?_); clear hK1059
            by_cases hp1060 : x1025 = 0
            · skip
              replace h := ite_pos' h hp1060
              refine condT ha KR KR (t := (x1025 == 0)) (ieq_t hp1060) ?_
              refine wp_exit ?_
              refine thenE ?_
              refine inBlk ?_
              refine thenN (hK1035 _ _ ?_); clear hK1035
              refine wp_region_lit ?_
              refine stepp ha 52 (.int .i64 (IntKind.wrap .i64 (x1025 + 1))) KR KR ?_; clear ha a; intro a ha
              refine stepp ha 12 (.int .i64 (IntKind.wrap .i64 (x1025 + 1))) KR KR ?_; clear ha a; intro a ha
              refine endl ?_
              exact thenN ⟨k1027, Nat.lt_succ_self k1027, IntKind.wrap .i64 (x1025 + 1), (by rw [← hag1028]; exact h), ha.sub (subs_cons KR (subs_cons KR (subs_cons KR (subs_cons KR (subs_nil _))))), HW.pick [] [] (by decide) (by decide) KR KR⟩
            · skip
              replace h := ite_neg' h hp1060
              refine condF ha KR KR (t := (x1025 == 0)) (ieq_f hp1060) ?_
              refine wp_skip ?_
              refine thenN (hK1057 _ _ ?_); clear hK1057
              refine wp_seq_k (fun K1061 hK1062 => ?_)
              refine wp_region_lit ?_
              refine stepp ha 22 (.slice A0_0 a0.length c0_0) KR KR ?_; clear ha a; intro a ha
              refine stepp ha 23 (.int .i64 x1025) KR KR ?_; clear ha a; intro a ha
              refine stepp ha 24 (.int .i64 (IntKind.wrap .i64 (x1025 - 1))) KR KR ?_; clear ha a; intro a ha
              obtain ⟨hA1063, h_⟩ := asrt_some h; clear h; have h := h_; clear h_
              obtain ⟨hA1064, h_⟩ := asrt_some h; clear h; have h := h_; clear h_
              refine stepie T_api_Extent.enc T_api_Extent.z ha 25 (fun _ => rfl) (v := .slice A0_0 a0.length c0_0) (xs := a0) ((HW.rd0 hr0_0)) 214 232 (.tmp 22) (.tmp 24) .i64 (IntKind.wrap .i64 (x1025 - 1)) rfl KR KR KR KR hA1063 (show (IntKind.wrap .i64 (x1025 - 1) : Int) < ((a0).length : Int) from hA1064) KR ?_; clear ha a; intro b1065 off1066 a hC1067 ha
              refine stepl ha 26 hC1067 232 0 (.tmp 25) (.agg #[.int .i64 ((rdL T_api_Extent.z a0 (IntKind.wrap .i64 (x1025 - 1))).f0), .int .i64 ((rdL T_api_Extent.z a0 (IntKind.wrap .i64 (x1025 - 1))).f1), .int .i64 ((rdL T_api_Extent.z a0 (IntKind.wrap .i64 (x1025 - 1))).f2)]) rfl KR KR KR ?_; clear ha a; intro a ha
              refine stepnew ha HW 5 #[.int .i64 0, .int .i64 0, .int .i64 0] 232 KR KR ?_; clear ha HW a; intro b1068 a W1069 HW ha
              refine stepst ha HW 0 (b := b1068) (C := #[.int .i64 0, .int .i64 0, .int .i64 0]) (T := 232) KR 232 0 (.tmp 5) (.tmp 26) (.agg #[.int .i64 ((rdL T_api_Extent.z a0 (IntKind.wrap .i64 (x1025 - 1))).f0), .int .i64 ((rdL T_api_Extent.z a0 (IntKind.wrap .i64 (x1025 - 1))).f1), .int .i64 ((rdL T_api_Extent.z a0 (IntKind.wrap .i64 (x1025 - 1))).f2)]) #[.int .i64 ((rdL T_api_Extent.z a0 (IntKind.wrap .i64 (x1025 - 1))).f0), .int .i64 ((rdL T_api_Extent.z a0 (IntKind.wrap .i64 (x1025 - 1))).f1), .int .i64 ((rdL T_api_Extent.z a0 (IntKind.wrap .i64 (x1025 - 1))).f2)] rfl KR KR KR KR KR KR KR ?_; clear ha HW a; intro a W1070 HW ha
              refine endl ?_
              refine thenN (hK1062 _ _ ?_); clear hK1062
              refine wp_seq_k (fun K1071 hK1072 => ?_)
              refine wp_region_lit ?_
              refine stepp ha 27 (.pointer (some ⟨b1068, 0, none⟩)) KR KR ?_; clear ha a; intro a ha
              refine stepl ha 28 (HW.ca (i := 0) (b := b1068) (C := #[.int .i64 ((rdL T_api_Extent.z a0 (IntKind.wrap .i64 (x1025 - 1))).f0), .int .i64 ((rdL T_api_Extent.z a0 (IntKind.wrap .i64 (x1025 - 1))).f1), .int .i64 ((rdL T_api_Extent.z a0 (IntKind.wrap .i64 (x1025 - 1))).f2)]) (T := 232) (fr := (0, 0)) KR) 3 0 (.tmp 27) (.int .i64 ((rdL T_api_Extent.z a0 (IntKind.wrap .i64 (x1025 - 1))).f0)) rfl KR KR KR ?_; clear ha a; intro a ha
              refine stepp ha 29 (.pointer (some ⟨b1068, 1, none⟩)) KR KR ?_; clear ha a; intro a ha
              refine stepl ha 30 (HW.ca (i := 0) (b := b1068) (C := #[.int .i64 ((rdL T_api_Extent.z a0 (IntKind.wrap .i64 (x1025 - 1))).f0), .int .i64 ((rdL T_api_Extent.z a0 (IntKind.wrap .i64 (x1025 - 1))).f1), .int .i64 ((rdL T_api_Extent.z a0 (IntKind.wrap .i64 (x1025 - 1))).f2)]) (T := 232) (fr := (0, 0)) KR) 3 1 (.tmp 29) (.int .i64 ((rdL T_api_Extent.z a0 (IntKind.wrap .i64 (x1025 - 1))).f1)) rfl KR KR KR ?_; clear ha a; intro a ha
              refine stepp ha 31 (.int .i64 (IntKind.wrap .i64 (((rdL T_api_Extent.z a0 (IntKind.wrap .i64 (x1025 - 1))).f0) + ((rdL T_api_Extent.z a0 (IntKind.wrap .i64 (x1025 - 1))).f1)))) KR KR ?_; clear ha a; intro a ha
              refine stepp ha 6 (.int .i64 (IntKind.wrap .i64 (((rdL T_api_Extent.z a0 (IntKind.wrap .i64 (x1025 - 1))).f0) + ((rdL T_api_Extent.z a0 (IntKind.wrap .i64 (x1025 - 1))).f1)))) KR KR ?_; clear ha a; intro a ha
              refine endl ?_
              refine thenN (hK1072 _ _ ?_); clear hK1072
              refine wp_seq_k (fun K1073 hK1074 => ?_)
              refine wp_region_lit ?_
              refine stepp ha 32 (.pointer (some ⟨b1042, 0, none⟩)) KR KR ?_; clear ha a; intro a ha
              refine stepl ha 33 (HW.ca (i := 1) (b := b1042) (C := #[.int .i64 ((rdL T_api_Extent.z a0 x1025).f0), .int .i64 ((rdL T_api_Extent.z a0 x1025).f1), .int .i64 ((rdL T_api_Extent.z a0 x1025).f2)]) (T := 232) (fr := (0, 0)) KR) 3 0 (.tmp 32) (.int .i64 ((rdL T_api_Extent.z a0 x1025).f0)) rfl KR KR KR ?_; clear ha a; intro a ha
              refine stepp ha 34 (.int .i64 (IntKind.wrap .i64 (((rdL T_api_Extent.z a0 (IntKind.wrap .i64 (x1025 - 1))).f0) + ((rdL T_api_Extent.z a0 (IntKind.wrap .i64 (x1025 - 1))).f1)))) KR KR ?_; clear ha a; intro a ha
              refine stepp ha 35 (.bool (decide (((rdL T_api_Extent.z a0 x1025).f0) < (IntKind.wrap .i64 (((rdL T_api_Extent.z a0 (IntKind.wrap .i64 (x1025 - 1))).f0) + ((rdL T_api_Extent.z a0 (IntKind.wrap .i64 (x1025 - 1))).f1)))))) KR KR ?_; clear ha a; intro a ha
              refine stepp ha 36 (.bool (decide (((rdL T_api_Extent.z a0 x1025).f0) < (IntKind.wrap .i64 (((rdL T_api_Extent.z a0 (IntKind.wrap .i64 (x1025 - 1))).f0) + ((rdL T_api_Extent.z a0 (IntKind.wrap .i64 (x1025 - 1))).f1)))))) KR KR ?_; clear ha a; intro a ha
              by_cases hp1075 : ((rdL T_api_Extent.z a0 x1025).f0) < (IntKind.wrap .i64 (((rdL T_api_Extent.z a0 (IntKind.wrap .i64 (x1025 - 1))).f0) + ((rdL T_api_Extent.z a0 (IntKind.wrap .i64 (x1025 - 1))).f1)))
              · skip
                replace h := ite_pos' h hp1075
                replace ha := ha.bool 36 KR (decide_eq_true hp1075)
                refine stepo ha 37 KR ?_; clear ha a; intro a ha
                refine stepo ha 38 KR ?_; clear ha a; intro a ha
                refine stepo ha 39 KR ?_; clear ha a; intro a ha
                refine stepo ha 40 KR ?_; clear ha a; intro a ha
                refine stepo ha 41 KR ?_; clear ha a; intro a ha
                refine stepo ha 42 KR ?_; clear ha a; intro a ha
                refine stepo ha 43 KR ?_; clear ha a; intro a ha
                refine stepo ha 44 KR ?_; clear ha a; intro a ha
                refine stepo ha 45 KR ?_; clear ha a; intro a ha
                refine stepo ha 46 KR ?_; clear ha a; intro a ha
                refine stepo ha 47 KR ?_; clear ha a; intro a ha
                refine stepo ha 48 KR ?_; clear ha a; intro a ha
                refine stepo ha 49 KR ?_; clear ha a; intro a ha
                refine stepo ha 50 KR ?_; clear ha a; intro a ha
                refine stepp ha 51 (.bool true) KR KR ?_; clear ha a; intro a ha
                refine endl ?_
                refine thenN (hK1074 _ _ ?_); clear hK1074
                refine condT ha KR KR (t := true) (rfl) ?_
                refine wp_seq_k (fun K1077 hK1078 => ?_)
                refine wp_region_lit ?_
                refine stepp ha 2 (.bool false) KR KR ?_; clear ha a; intro a ha
                refine endl ?_
                refine thenN (hK1078 _ _ ?_); clear hK1078
                refine wp_ret ?_
                refine blkR ?_
                refine thenR ?_
                refine thenR ?_
                refine blkR ?_
                refine thenR ?_
                obtain rfl := Option.some.inj h
                exact finv ha _ _ rfl (.tmp (v := .bool false) KR .nil) (.bool false) rfl ⟨rfl, HW.pick [] [] (by decide) (by decide) rfl KR⟩
              · skip
                replace h := ite_neg' h hp1075
                replace ha := ha.bool 36 KR (decide_eq_false hp1075)
                refine stepp ha 37 (.pointer (some ⟨b1042, 0, none⟩)) KR KR ?_; clear ha a; intro a ha
                refine stepl ha 38 (HW.ca (i := 1) (b := b1042) (C := #[.int .i64 ((rdL T_api_Extent.z a0 x1025).f0), .int .i64 ((rdL T_api_Extent.z a0 x1025).f1), .int .i64 ((rdL T_api_Extent.z a0 x1025).f2)]) (T := 232) (fr := (0, 0)) KR) 3 0 (.tmp 37) (.int .i64 ((rdL T_api_Extent.z a0 x1025).f0)) rfl KR KR KR ?_; clear ha a; intro a ha
                refine stepp ha 39 (.int .i64 (IntKind.wrap .i64 (((rdL T_api_Extent.z a0 (IntKind.wrap .i64 (x1025 - 1))).f0) + ((rdL T_api_Extent.z a0 (IntKind.wrap .i64 (x1025 - 1))).f1)))) KR KR ?_; clear ha a; intro a ha
                refine stepp ha 40 (.bool (((rdL T_api_Extent.z a0 x1025).f0) == (IntKind.wrap .i64 (((rdL T_api_Extent.z a0 (IntKind.wrap .i64 (x1025 - 1))).f0) + ((rdL T_api_Extent.z a0 (IntKind.wrap .i64 (x1025 - 1))).f1))))) KR KR ?_; clear ha a; intro a ha
                refine stepp ha 41 (.bool (((rdL T_api_Extent.z a0 x1025).f0) == (IntKind.wrap .i64 (((rdL T_api_Extent.z a0 (IntKind.wrap .i64 (x1025 - 1))).f0) + ((rdL T_api_Extent.z a0 (IntKind.wrap .i64 (x1025 - 1))).f1))))) KR KR ?_; clear ha a; intro a ha
                by_cases hp1076 : ((rdL T_api_Extent.z a0 x1025).f0) = (IntKind.wrap .i64 (((rdL T_api_Extent.z a0 (IntKind.wrap .i64 (x1025 - 1))).f0) + ((rdL T_api_Extent.z a0 (IntKind.wrap .i64 (x1025 - 1))).f1)))
                · skip
                  replace h := ite_pos' h hp1076
                  replace ha := ha.bool 41 KR (ieq_t hp1076)
                  refine stepp ha 42 (.pointer (some ⟨b1042, 2, none⟩)) KR KR ?_; clear ha a; intro a ha
                  refine stepl ha 43 (HW.ca (i := 1) (b := b1042) (C := #[.int .i64 ((rdL T_api_Extent.z a0 x1025).f0), .int .i64 ((rdL T_api_Extent.z a0 x1025).f1), .int .i64 ((rdL T_api_Extent.z a0 x1025).f2)]) (T := 232) (fr := (0, 0)) KR) 3 2 (.tmp 42) (.int .i64 ((rdL T_api_Extent.z a0 x1025).f2)) rfl KR KR KR ?_; clear ha a; intro a ha
                  refine stepp ha 44 (.pointer (some ⟨b1068, 2, none⟩)) KR KR ?_; clear ha a; intro a ha
                  refine stepl ha 45 (HW.ca (i := 0) (b := b1068) (C := #[.int .i64 ((rdL T_api_Extent.z a0 (IntKind.wrap .i64 (x1025 - 1))).f0), .int .i64 ((rdL T_api_Extent.z a0 (IntKind.wrap .i64 (x1025 - 1))).f1), .int .i64 ((rdL T_api_Extent.z a0 (IntKind.wrap .i64 (x1025 - 1))).f2)]) (T := 232) (fr := (0, 0)) KR) 3 2 (.tmp 44) (.int .i64 ((rdL T_api_Extent.z a0 (IntKind.wrap .i64 (x1025 - 1))).f2)) rfl KR KR KR ?_; clear ha a; intro a ha
                  refine stepp ha 46 (.pointer (some ⟨b1068, 1, none⟩)) KR KR ?_; clear ha a; intro a ha
                  refine stepl ha 47 (HW.ca (i := 0) (b := b1068) (C := #[.int .i64 ((rdL T_api_Extent.z a0 (IntKind.wrap .i64 (x1025 - 1))).f0), .int .i64 ((rdL T_api_Extent.z a0 (IntKind.wrap .i64 (x1025 - 1))).f1), .int .i64 ((rdL T_api_Extent.z a0 (IntKind.wrap .i64 (x1025 - 1))).f2)]) (T := 232) (fr := (0, 0)) KR) 3 1 (.tmp 46) (.int .i64 ((rdL T_api_Extent.z a0 (IntKind.wrap .i64 (x1025 - 1))).f1)) rfl KR KR KR ?_; clear ha a; intro a ha
                  refine stepp ha 48 (.int .i64 (IntKind.wrap .i64 (((rdL T_api_Extent.z a0 (IntKind.wrap .i64 (x1025 - 1))).f2) + ((rdL T_api_Extent.z a0 (IntKind.wrap .i64 (x1025 - 1))).f1)))) KR KR ?_; clear ha a; intro a ha
                  refine stepp ha 49 (.bool (((rdL T_api_Extent.z a0 x1025).f2) == (IntKind.wrap .i64 (((rdL T_api_Extent.z a0 (IntKind.wrap .i64 (x1025 - 1))).f2) + ((rdL T_api_Extent.z a0 (IntKind.wrap .i64 (x1025 - 1))).f1))))) KR KR ?_; clear ha a; intro a ha
                  refine stepp ha 50 (.bool (((rdL T_api_Extent.z a0 x1025).f2) == (IntKind.wrap .i64 (((rdL T_api_Extent.z a0 (IntKind.wrap .i64 (x1025 - 1))).f2) + ((rdL T_api_Extent.z a0 (IntKind.wrap .i64 (x1025 - 1))).f1))))) KR KR ?_; clear ha a; intro a ha
                  refine stepp ha 51 (.bool (((rdL T_api_Extent.z a0 x1025).f2) == (IntKind.wrap .i64 (((rdL T_api_Extent.z a0 (IntKind.wrap .i64 (x1025 - 1))).f2) + ((rdL T_api_Extent.z a0 (IntKind.wrap .i64 (x1025 - 1))).f1))))) KR KR ?_; clear ha a; intro a ha
                  refine endl ?_
                  refine thenN (hK1074 _ _ ?_); clear hK1074
                  by_cases hp1079 : ((rdL T_api_Extent.z a0 x1025).f2) = (IntKind.wrap .i64 (((rdL T_api_Extent.z a0 (IntKind.wrap .i64 (x1025 - 1))).f2) + ((rdL T_api_Extent.z a0 (IntKind.wrap .i64 (x1025 - 1))).f1)))
                  · skip
                    replace h := ite_pos' h hp1079
                    refine condT ha KR KR (t := (((rdL T_api_Extent.z a0 x1025).f2) == (IntKind.wrap .i64 (((rdL T_api_Extent.z a0 (IntKind.wrap .i64 (x1025 - 1))).f2) + ((rdL T_api_Extent.z a0 (IntKind.wrap .i64 (x1025 - 1))).f1))))) (ieq_t hp1079) ?_
                    refine wp_seq_k (fun K1080 hK1081 => ?_)
                    refine wp_region_lit ?_
                    refine stepp ha 2 (.bool false) KR KR ?_; clear ha a; intro a ha
                    refine endl ?_
                    refine thenN (hK1081 _ _ ?_); clear hK1081
                    refine wp_ret ?_
                    refine blkR ?_
                    refine thenR ?_
                    refine thenR ?_
                    refine blkR ?_
                    refine thenR ?_
                    obtain rfl := Option.some.inj h
                    exact finv ha _ _ rfl (.tmp (v := .bool false) KR .nil) (.bool false) rfl ⟨rfl, HW.pick [] [] (by decide) (by decide) rfl KR⟩
                  · skip
                    replace h := ite_neg' h hp1079
                    refine condF ha KR KR (t := (((rdL T_api_Extent.z a0 x1025).f2) == (IntKind.wrap .i64 (((rdL T_api_Extent.z a0 (IntKind.wrap .i64 (x1025 - 1))).f2) + ((rdL T_api_Extent.z a0 (IntKind.wrap .i64 (x1025 - 1))).f1))))) (ieq_f hp1079) ?_
                    refine wp_skip ?_
                    refine blkN ?_
                    refine thenN (hK1035 _ _ ?_); clear hK1035
                    refine wp_region_lit ?_
                    refine stepp ha 52 (.int .i64 (IntKind.wrap .i64 (x1025 + 1))) KR KR ?_; clear ha a; intro a ha
                    refine stepp ha 12 (.int .i64 (IntKind.wrap .i64 (x1025 + 1))) KR KR ?_; clear ha a; intro a ha
                    refine endl ?_
                    exact thenN ⟨k1027, Nat.lt_succ_self k1027, IntKind.wrap .i64 (x1025 + 1), (by rw [← hag1028]; exact h), ha.sub (subs_cons KR (subs_cons KR (subs_cons KR (subs_cons KR (subs_nil _))))), HW.pick [] [] (by decide) (by decide) KR KR⟩
                · skip
                  replace h := ite_neg' h hp1076
                  replace ha := ha.bool 41 KR (ieq_f hp1076)
                  refine stepo ha 42 KR ?_; clear ha a; intro a ha
                  refine stepo ha 43 KR ?_; clear ha a; intro a ha
                  refine stepo ha 44 KR ?_; clear ha a; intro a ha
                  refine stepo ha 45 KR ?_; clear ha a; intro a ha
                  refine stepo ha 46 KR ?_; clear ha a; intro a ha
                  refine stepo ha 47 KR ?_; clear ha a; intro a ha
                  refine stepo ha 48 KR ?_; clear ha a; intro a ha
                  refine stepo ha 49 KR ?_; clear ha a; intro a ha
                  refine stepp ha 50 (.bool false) KR KR ?_; clear ha a; intro a ha
                  refine stepp ha 51 (.bool false) KR KR ?_; clear ha a; intro a ha
                  refine endl ?_
                  refine thenN (hK1074 _ _ ?_); clear hK1074
                  refine condF ha KR KR (t := false) (rfl) ?_
                  refine wp_skip ?_
                  refine blkN ?_
                  refine thenN (hK1035 _ _ ?_); clear hK1035
                  refine wp_region_lit ?_
                  refine stepp ha 52 (.int .i64 (IntKind.wrap .i64 (x1025 + 1))) KR KR ?_; clear ha a; intro a ha
                  refine stepp ha 12 (.int .i64 (IntKind.wrap .i64 (x1025 + 1))) KR KR ?_; clear ha a; intro a ha
                  refine endl ?_
                  exact thenN ⟨k1027, Nat.lt_succ_self k1027, IntKind.wrap .i64 (x1025 + 1), (by rw [← hag1028]; exact h), ha.sub (subs_cons KR (subs_cons KR (subs_cons KR (subs_cons KR (subs_nil _))))), HW.pick [] [] (by decide) (by decide) KR KR⟩
          · skip
            replace h := ite_neg' h hp1053
            refine condT ha KR KR (t := (!t1049)) (not_t (bool_f hp1053)) ?_
            refine wp_seq_k (fun K1054 hK1055 => ?_)
            refine wp_region_lit ?_
            refine stepp ha 2 (.bool false) KR KR ?_; clear ha a; intro a ha
            refine endl ?_
            refine thenN (hK1055 _ _ ?_); clear hK1055
            refine wp_ret ?_
            refine thenR ?_
            refine blkR ?_
            refine thenR ?_
            refine thenR ?_
            refine blkR ?_
            refine thenR ?_
            obtain rfl := Option.some.inj h
            exact finv ha _ _ rfl (.tmp (v := .bool false) KR .nil) (.bool false) rfl ⟨rfl, HW.pick [] [] (by decide) (by decide) rfl KR⟩
        · skip
          replace h := ite_neg' h hp1033
          refine condF ha KR KR (t := decide (x1025 < (a0.length : Int))) (decide_eq_false hp1033) ?_
          refine wp_exit ?_
          refine thenE ?_
          refine thenE ?_
          refine inBlk ?_
          refine thenN (hK934 _ _ ?_); clear hK934
          refine wp_seq_k (fun K1082 hK1083 => ?_)
          refine wp_region_lit ?_
          refine stepp ha 2 (.bool true) KR KR ?_; clear ha a; intro a ha
          refine endl ?_
          refine thenN (hK1083 _ _ ?_); clear hK1083
          refine wp_ret ?_
          obtain rfl := Option.some.inj h
          exact finv ha _ _ rfl (.tmp (v := .bool true) KR .nil) (.bool true) rfl ⟨rfl, HW.pick [] [] (by decide) (by decide) rfl KR⟩
/-! ### headgate/headgatekeep.Zeros: function 46 -/
def headgatekeep_Zeros.f (a0 : Int) : Option ByteArray :=
  asrt (0 ≤ a0) (asrt (a0 ≤ 281474976710656) (some (strOfNums (List.replicate (a0 : Int).toNat (0 : Int)))))
set_option maxRecDepth 100000 in
set_option maxHeartbeats 4000000 in
theorem headgatekeep_Zeros.calls (a0 : Int)  (r : ByteArray) (w : World)  (h : headgatekeep_Zeros.f a0 = some r) :
    Calls Tryz.prog 46 #[.int .i64 a0] w (fun e W' => e = .returned (.string r) ∧ Wd w W' [] [] ) := by
  refine sxstart (n := 6) (l := [(0, .int .i64 a0)]) Tryz.func46 rfl rfl (Nat.le_of_ble_eq_true KR) (subsA_cons rfl (subsA_nil _)) ?_
  intro a ha
  have HW := Wd.refl w
  unfold headgatekeep_Zeros.f at h
  refine wp_seq_k (fun K1393 hK1394 => ?_)
  refine wp_region_lit ?_
  refine stepp ha 2 (.string (⟨#[]⟩ : ByteArray)) KR KR ?_; clear ha a; intro a ha
  refine endl ?_
  refine thenN (hK1394 _ _ ?_); clear hK1394
  refine wp_seq_k (fun K1395 hK1396 => ?_)
  refine wp_region_lit ?_
  refine stepp ha 3 (.int .i64 a0) KR KR ?_; clear ha a; intro a ha
  obtain ⟨hA1397, h_⟩ := asrt_some h; clear h; have h := h_; clear h_
  obtain ⟨hA1398, h_⟩ := asrt_some h; clear h; have h := h_; clear h_
  refine stepmk (encIK .u8) (0 : Int) ha HW 4 79 5 (.tmp 3) (.tmp 3) .i64 .i64 a0 (.int .u8 0) 1 rfl KR KR KR KR rfl rfl hA1397 (by have := hA1398; omega) (by have := hA1398; omega) KR ?_; clear ha HW a; intro b1399 a W1400 HW ha
  refine stepbt ha 5 79 9 5 (.tmp 4) (v := .slice (some ⟨b1399, 0, none⟩) (List.replicate (a0 : Int).toNat (0 : Int)).length ((a0 : Int).toNat)) (xs := List.replicate (a0 : Int).toNat (0 : Int)) (HW.rdo (i := 0) (q := ⟨5, 1, .slice (some ⟨b1399, 0, none⟩) (List.replicate (a0 : Int).toNat (0 : Int)).length ((a0 : Int).toNat), (List.replicate (a0 : Int).toNat (0 : Int)).length, encs (encIK .u8) (List.replicate (a0 : Int).toNat (0 : Int))⟩) KR) rfl KR KR KR KR KR ?_; clear ha a; intro a ha
  refine stepp ha 2 (.string (strOfNums (List.replicate (a0 : Int).toNat (0 : Int)))) KR KR ?_; clear ha a; intro a ha
  refine endl ?_
  refine thenN (hK1396 _ _ ?_); clear hK1396
  refine wp_ret ?_
  obtain rfl := Option.some.inj h
  exact finv ha _ _ rfl (.tmp (v := .string (strOfNums (List.replicate (a0 : Int).toNat (0 : Int)))) KR .nil) (.string (strOfNums (List.replicate (a0 : Int).toNat (0 : Int)))) rfl ⟨rfl, HW.pick [] [] (by decide) (by decide) rfl KR⟩
/-! ### headgate/headgateref10.Registered: function 36 -/
def headgateref10_Registered.b0 (K : Nat) (a0 : T_api_Table) (a1 : ByteArray) (again1449 : Int → Option Bool) (x1450 : Int) : Option Bool :=
  if x1450 < (a0.f0.length : Int) then (asrt (0 ≤ x1450) (if ((rdL T_api_Reg.z a0.f0 x1450).f0) = a1 then (some true) else (again1449 (IntKind.wrap .i64 (x1450 + 1))))) else (some false)
def headgateref10_Registered.l0 (K : Nat) (a0 : T_api_Table) (a1 : ByteArray) : Nat → Int → Option Bool
  | 0, _ => none
  | k_ + 1, x1450 => headgateref10_Registered.b0 K a0 a1 (headgateref10_Registered.l0 K a0 a1 k_) x1450
def headgateref10_Registered.f (K : Nat) (a0 : T_api_Table) (a1 : ByteArray) : Option Bool :=
  headgateref10_Registered.l0 K a0 a1 K 0
set_option maxRecDepth 100000 in
set_option maxHeartbeats 4000000 in
theorem headgateref10_Registered.calls (K : Nat) (a0 : T_api_Table) (a1 : ByteArray) (A0_0 : Option Addr) (c0_0 : Nat) (r : Bool) (w : World) (hr0_0 : Rd 2 w (.slice A0_0 a0.f0.length c0_0) a0.f0.length (encs T_api_Reg.enc a0.f0)) (h : headgateref10_Registered.f K a0 a1 = some r) :
    Calls Tryz.prog 36 #[.agg #[.slice A0_0 a0.f0.length c0_0, .int .i64 a0.f1.f0, .string a0.f1.f1, .int .u32 a0.f2, .bool a0.f3], .string a1] w (fun e W' => e = .returned (.bool r) ∧ Wd w W' [] [] ) := by
  refine sxstart (n := 21) (l := [(0, .agg #[.slice A0_0 a0.f0.length c0_0, .int .i64 a0.f1.f0, .string a0.f1.f1, .int .u32 a0.f2, .bool a0.f3]), (1, .string a1)]) Tryz.func36 rfl rfl (Nat.le_of_ble_eq_true KR) (subsA_cons rfl (subsA_cons rfl (subsA_nil _))) ?_
  intro a ha
  have HW := Wd.refl w
  unfold headgateref10_Registered.f at h
  refine wp_seq_k (fun K1406 hK1407 => ?_)
  refine wp_region_lit ?_
  refine stepnew ha HW 2 #[.slice A0_0 a0.f0.length c0_0, .int .i64 a0.f1.f0, .string a0.f1.f1, .int .u32 a0.f2, .bool a0.f3] 63 KR KR ?_; clear ha HW a; intro b1408 a W1409 HW ha
  refine stepp ha 4 (.bool false) KR KR ?_; clear ha a; intro a ha
  refine endl ?_
  refine thenN (hK1407 _ _ ?_); clear hK1407
  refine wp_seq_k (fun K1410 hK1411 => ?_)
  refine wp_seq_k (fun K1412 hK1413 => ?_)
  refine wp_region_lit ?_
  refine stepp ha 5 (.int .i64 0) KR KR ?_; clear ha a; intro a ha
  refine endl ?_
  refine thenN (hK1413 _ _ ?_); clear hK1413
  refine wp_block ?_
  refine loopk (fun k => fun a W1451 => ∃ (x1450 : Int), headgateref10_Registered.l0 K a0 a1 k x1450 = some r ∧ Has 21 [(1, .string a1), (2, .pointer (some ⟨b1408, 0, none⟩)), (5, .int .i64 x1450)] a ∧ Wd w W1451 [(b1408, .cells #[.slice A0_0 a0.f0.length c0_0, .int .i64 a0.f1.f0, .string a0.f1.f1, .int .u32 a0.f2, .bool a0.f3] 63 (0, 0))] []) K ?_ ?_
  · skip
    exact ⟨0, h, ha.sub (subs_cons KR (subs_cons KR (subs_cons KR (subs_nil _)))), HW.pick [0] [] (by decide) (by decide) KR KR⟩
  · skip
    intro k a W1451 hI
    obtain ⟨x1450, h, ha, HW⟩ := hI
    cases k with
    | zero => exact (none_some (show none = some r from h)).elim
    | succ k1452 =>
      replace h : headgateref10_Registered.b0 K a0 a1 (headgateref10_Registered.l0 K a0 a1 k1452) x1450 = some r := h
      obtain ⟨again1449, hag1453⟩ : ∃ g_, g_ = headgateref10_Registered.l0 K a0 a1 k1452 := ⟨_, rfl⟩
      rw [← hag1453] at h
      unfold headgateref10_Registered.b0 at h
      refine wp_seq_k (fun K1454 hK1455 => ?_)
      refine wp_seq_k (fun K1456 hK1457 => ?_)
      refine wp_region_lit ?_
      refine stepp ha 6 (.int .i64 x1450) KR KR ?_; clear ha a; intro a ha
      refine stepp ha 7 (.pointer (some ⟨b1408, 0, none⟩)) KR KR ?_; clear ha a; intro a ha
      refine stepl ha 8 (HW.ca (i := 0) (b := b1408) (C := #[.slice A0_0 a0.f0.length c0_0, .int .i64 a0.f1.f0, .string a0.f1.f1, .int .u32 a0.f2, .bool a0.f3]) (T := 63) (fr := (0, 0)) KR) 35 0 (.tmp 7) (.slice A0_0 a0.f0.length c0_0) rfl KR KR KR ?_; clear ha a; intro a ha
      refine stepp ha 9 (.int .i64 (a0.f0.length : Int)) KR KR ?_; clear ha a; intro a ha
      refine stepp ha 10 (.bool (decide (x1450 < (a0.f0.length : Int)))) KR KR ?_; clear ha a; intro a ha
      refine endl ?_
      refine thenN (hK1457 _ _ ?_); clear hK1457
      by_cases hp1458 : x1450 < (a0.f0.length : Int)
      · skip
        replace h := ite_pos' h hp1458
        refine condT ha KR KR (t := decide (x1450 < (a0.f0.length : Int))) (decide_eq_true hp1458) ?_
        refine wp_skip ?_
        refine thenN (hK1455 _ _ ?_); clear hK1455
        refine wp_seq_k (fun K1459 hK1460 => ?_)
        refine wp_block ?_
        refine wp_seq_k (fun K1461 hK1462 => ?_)
        refine wp_region_lit ?_
        refine stepp ha 13 (.pointer (some ⟨b1408, 0, none⟩)) KR KR ?_; clear ha a; intro a ha
        refine stepl ha 14 (HW.ca (i := 0) (b := b1408) (C := #[.slice A0_0 a0.f0.length c0_0, .int .i64 a0.f1.f0, .string a0.f1.f1, .int .u32 a0.f2, .bool a0.f3]) (T := 63) (fr := (0, 0)) KR) 35 0 (.tmp 13) (.slice A0_0 a0.f0.length c0_0) rfl KR KR KR ?_; clear ha a; intro a ha
        refine stepp ha 15 (.int .i64 x1450) KR KR ?_; clear ha a; intro a ha
        obtain ⟨hA1463, h_⟩ := asrt_some h; clear h; have h := h_; clear h_
        refine stepie T_api_Reg.enc T_api_Reg.z ha 16 (fun _ => rfl) (v := .slice A0_0 a0.f0.length c0_0) (xs := a0.f0) ((HW.rd0 hr0_0)) 35 160 (.tmp 14) (.tmp 15) .i64 x1450 rfl KR KR KR KR hA1463 (show (x1450 : Int) < ((a0.f0).length : Int) from hp1458) KR ?_; clear ha a; intro b1464 off1465 a hC1466 ha
        refine stepp ha 17 (.pointer (some ⟨b1464, off1465, none⟩)) KR KR ?_; clear ha a; intro a ha
        refine stepl ha 18 hC1466 9 0 (.tmp 17) (.string ((rdL T_api_Reg.z a0.f0 x1450).f0)) rfl KR KR KR ?_; clear ha a; intro a ha
        refine stepp ha 19 (.string a1) KR KR ?_; clear ha a; intro a ha
        refine stepp ha 20 (.bool (((rdL T_api_Reg.z a0.f0 x1450).f0).toList == a1.toList)) KR KR ?_; clear ha a; intro a ha
        refine endl ?_
        refine thenN (hK1462 _ _ ?_); clear hK1462
        by_cases hp1467 : ((rdL T_api_Reg.z a0.f0 x1450).f0) = a1
        · skip
          replace h := ite_pos' h hp1467
          refine condT ha KR KR (t := (((rdL T_api_Reg.z a0.f0 x1450).f0).toList == a1.toList)) (str_eq_t hp1467) ?_
          refine wp_seq_k (fun K1468 hK1469 => ?_)
          refine wp_region_lit ?_
          refine stepp ha 4 (.bool true) KR KR ?_; clear ha a; intro a ha
          refine endl ?_
          refine thenN (hK1469 _ _ ?_); clear hK1469
          refine wp_ret ?_
          refine blkR ?_
          refine thenR ?_
          refine thenR ?_
          refine blkR ?_
          refine thenR ?_
          obtain rfl := Option.some.inj h
          exact finv ha _ _ rfl (.tmp (v := .bool true) KR .nil) (.bool true) rfl ⟨rfl, HW.pick [] [] (by decide) (by decide) rfl KR⟩
        · skip
          replace h := ite_neg' h hp1467
          refine condF ha KR KR (t := (((rdL T_api_Reg.z a0.f0 x1450).f0).toList == a1.toList)) (str_eq_f hp1467) ?_
          refine wp_skip ?_
          refine blkN ?_
          refine thenN (hK1460 _ _ ?_); clear hK1460
          refine wp_region_lit ?_
          refine stepp ha 11 (.int .i64 x1450) KR KR ?_; clear ha a; intro a ha
          refine stepp ha 12 (.int .i64 (IntKind.wrap .i64 (x1450 + 1))) KR KR ?_; clear ha a; intro a ha
          refine stepp ha 5 (.int .i64 (IntKind.wrap .i64 (x1450 + 1))) KR KR ?_; clear ha a; intro a ha
          refine endl ?_
          exact thenN ⟨k1452, Nat.lt_succ_self k1452, IntKind.wrap .i64 (x1450 + 1), (by rw [← hag1453]; exact h), ha.sub (subs_cons KR (subs_cons KR (subs_cons KR (subs_nil _)))), HW.pick [0] [] (by decide) (by decide) KR KR⟩
      · skip
        replace h := ite_neg' h hp1458
        refine condF ha KR KR (t := decide (x1450 < (a0.f0.length : Int))) (decide_eq_false hp1458) ?_
        refine wp_exit ?_
        refine thenE ?_
        refine thenE ?_
        refine inBlk ?_
        refine thenN (hK1411 _ _ ?_); clear hK1411
        refine wp_seq_k (fun K1470 hK1471 => ?_)
        refine wp_region_lit ?_
        refine stepp ha 4 (.bool false) KR KR ?_; clear ha a; intro a ha
        refine endl ?_
        refine thenN (hK1471 _ _ ?_); clear hK1471
        refine wp_ret ?_
        obtain rfl := Option.some.inj h
        exact finv ha _ _ rfl (.tmp (v := .bool false) KR .nil) (.bool false) rfl ⟨rfl, HW.pick [] [] (by decide) (by decide) rfl KR⟩
/-! ### headgate/headgateref10.Type: function 82 -/
def headgateref10_Type.f (a0 : Int) : Option Bool :=
  if a0 ≥ 1 then (some (decide (a0 ≤ 6))) else (some false)
set_option maxRecDepth 100000 in
set_option maxHeartbeats 4000000 in
theorem headgateref10_Type.calls (a0 : Int)  (r : Bool) (w : World)  (h : headgateref10_Type.f a0 = some r) :
    Calls Tryz.prog 82 #[.int .i64 a0] w (fun e W' => e = .returned (.bool r) ∧ Wd w W' [] [] ) := by
  refine sxstart (n := 9) (l := [(0, .int .i64 a0)]) Tryz.func82 rfl rfl (Nat.le_of_ble_eq_true KR) (subsA_cons rfl (subsA_nil _)) ?_
  intro a ha
  have HW := Wd.refl w
  unfold headgateref10_Type.f at h
  refine wp_seq_k (fun K1472 hK1473 => ?_)
  refine wp_region_lit ?_
  refine stepp ha 2 (.bool false) KR KR ?_; clear ha a; intro a ha
  refine endl ?_
  refine thenN (hK1473 _ _ ?_); clear hK1473
  refine wp_seq_k (fun K1474 hK1475 => ?_)
  refine wp_region_lit ?_
  refine stepp ha 3 (.int .i64 a0) KR KR ?_; clear ha a; intro a ha
  refine stepp ha 4 (.bool (decide (a0 ≥ 1))) KR KR ?_; clear ha a; intro a ha
  refine stepp ha 5 (.bool (decide (a0 ≥ 1))) KR KR ?_; clear ha a; intro a ha
  by_cases hp1476 : a0 ≥ 1
  · skip
    replace h := ite_pos' h hp1476
    replace ha := ha.bool 5 KR (decide_eq_true hp1476)
    refine stepp ha 6 (.int .i64 a0) KR KR ?_; clear ha a; intro a ha
    refine stepp ha 7 (.bool (decide (a0 ≤ 6))) KR KR ?_; clear ha a; intro a ha
    refine stepp ha 8 (.bool (decide (a0 ≤ 6))) KR KR ?_; clear ha a; intro a ha
    refine stepp ha 2 (.bool (decide (a0 ≤ 6))) KR KR ?_; clear ha a; intro a ha
    refine endl ?_
    refine thenN (hK1475 _ _ ?_); clear hK1475
    refine wp_ret ?_
    obtain rfl := Option.some.inj h
    exact finv ha _ _ rfl (.tmp (v := .bool (decide (a0 ≤ 6))) KR .nil) (.bool (decide (a0 ≤ 6))) rfl ⟨rfl, HW.pick [] [] (by decide) (by decide) rfl KR⟩
  · skip
    replace h := ite_neg' h hp1476
    replace ha := ha.bool 5 KR (decide_eq_false hp1476)
    refine stepo ha 6 KR ?_; clear ha a; intro a ha
    refine stepo ha 7 KR ?_; clear ha a; intro a ha
    refine stepp ha 8 (.bool false) KR KR ?_; clear ha a; intro a ha
    refine stepp ha 2 (.bool false) KR KR ?_; clear ha a; intro a ha
    refine endl ?_
    refine thenN (hK1475 _ _ ?_); clear hK1475
    refine wp_ret ?_
    obtain rfl := Option.some.inj h
    exact finv ha _ _ rfl (.tmp (v := .bool false) KR .nil) (.bool false) rfl ⟨rfl, HW.pick [] [] (by decide) (by decide) rfl KR⟩
/-! ### headgate/headgateref03.letter: function 150 -/
def headgateref03_letter.f (a0 : Int) : Option Bool :=
  if a0 ≥ 97 then (some (decide (a0 ≤ 122))) else (some false)
set_option maxRecDepth 100000 in
set_option maxHeartbeats 4000000 in
theorem headgateref03_letter.calls (a0 : Int)  (r : Bool) (w : World)  (h : headgateref03_letter.f a0 = some r) :
    Calls Tryz.prog 150 #[.int .u8 a0] w (fun e W' => e = .returned (.bool r) ∧ Wd w W' [] [] ) := by
  refine sxstart (n := 9) (l := [(0, .int .u8 a0)]) Tryz.func150 rfl rfl (Nat.le_of_ble_eq_true KR) (subsA_cons rfl (subsA_nil _)) ?_
  intro a ha
  have HW := Wd.refl w
  unfold headgateref03_letter.f at h
  refine wp_seq_k (fun K1477 hK1478 => ?_)
  refine wp_region_lit ?_
  refine stepp ha 2 (.bool false) KR KR ?_; clear ha a; intro a ha
  refine endl ?_
  refine thenN (hK1478 _ _ ?_); clear hK1478
  refine wp_seq_k (fun K1479 hK1480 => ?_)
  refine wp_region_lit ?_
  refine stepp ha 3 (.int .u8 a0) KR KR ?_; clear ha a; intro a ha
  refine stepp ha 4 (.bool (decide (a0 ≥ 97))) KR KR ?_; clear ha a; intro a ha
  refine stepp ha 5 (.bool (decide (a0 ≥ 97))) KR KR ?_; clear ha a; intro a ha
  by_cases hp1481 : a0 ≥ 97
  · skip
    replace h := ite_pos' h hp1481
    replace ha := ha.bool 5 KR (decide_eq_true hp1481)
    refine stepp ha 6 (.int .u8 a0) KR KR ?_; clear ha a; intro a ha
    refine stepp ha 7 (.bool (decide (a0 ≤ 122))) KR KR ?_; clear ha a; intro a ha
    refine stepp ha 8 (.bool (decide (a0 ≤ 122))) KR KR ?_; clear ha a; intro a ha
    refine stepp ha 2 (.bool (decide (a0 ≤ 122))) KR KR ?_; clear ha a; intro a ha
    refine endl ?_
    refine thenN (hK1480 _ _ ?_); clear hK1480
    refine wp_ret ?_
    obtain rfl := Option.some.inj h
    exact finv ha _ _ rfl (.tmp (v := .bool (decide (a0 ≤ 122))) KR .nil) (.bool (decide (a0 ≤ 122))) rfl ⟨rfl, HW.pick [] [] (by decide) (by decide) rfl KR⟩
  · skip
    replace h := ite_neg' h hp1481
    replace ha := ha.bool 5 KR (decide_eq_false hp1481)
    refine stepo ha 6 KR ?_; clear ha a; intro a ha
    refine stepo ha 7 KR ?_; clear ha a; intro a ha
    refine stepp ha 8 (.bool false) KR KR ?_; clear ha a; intro a ha
    refine stepp ha 2 (.bool false) KR KR ?_; clear ha a; intro a ha
    refine endl ?_
    refine thenN (hK1480 _ _ ?_); clear hK1480
    refine wp_ret ?_
    obtain rfl := Option.some.inj h
    exact finv ha _ _ rfl (.tmp (v := .bool false) KR .nil) (.bool false) rfl ⟨rfl, HW.pick [] [] (by decide) (by decide) rfl KR⟩
/-! ### headgate/headgateref03.digit: function 151 -/
def headgateref03_digit.f (a0 : Int) : Option Bool :=
  if a0 ≥ 48 then (some (decide (a0 ≤ 57))) else (some false)
set_option maxRecDepth 100000 in
set_option maxHeartbeats 4000000 in
theorem headgateref03_digit.calls (a0 : Int)  (r : Bool) (w : World)  (h : headgateref03_digit.f a0 = some r) :
    Calls Tryz.prog 151 #[.int .u8 a0] w (fun e W' => e = .returned (.bool r) ∧ Wd w W' [] [] ) := by
  refine sxstart (n := 9) (l := [(0, .int .u8 a0)]) Tryz.func151 rfl rfl (Nat.le_of_ble_eq_true KR) (subsA_cons rfl (subsA_nil _)) ?_
  intro a ha
  have HW := Wd.refl w
  unfold headgateref03_digit.f at h
  refine wp_seq_k (fun K1482 hK1483 => ?_)
  refine wp_region_lit ?_
  refine stepp ha 2 (.bool false) KR KR ?_; clear ha a; intro a ha
  refine endl ?_
  refine thenN (hK1483 _ _ ?_); clear hK1483
  refine wp_seq_k (fun K1484 hK1485 => ?_)
  refine wp_region_lit ?_
  refine stepp ha 3 (.int .u8 a0) KR KR ?_; clear ha a; intro a ha
  refine stepp ha 4 (.bool (decide (a0 ≥ 48))) KR KR ?_; clear ha a; intro a ha
  refine stepp ha 5 (.bool (decide (a0 ≥ 48))) KR KR ?_; clear ha a; intro a ha
  by_cases hp1486 : a0 ≥ 48
  · skip
    replace h := ite_pos' h hp1486
    replace ha := ha.bool 5 KR (decide_eq_true hp1486)
    refine stepp ha 6 (.int .u8 a0) KR KR ?_; clear ha a; intro a ha
    refine stepp ha 7 (.bool (decide (a0 ≤ 57))) KR KR ?_; clear ha a; intro a ha
    refine stepp ha 8 (.bool (decide (a0 ≤ 57))) KR KR ?_; clear ha a; intro a ha
    refine stepp ha 2 (.bool (decide (a0 ≤ 57))) KR KR ?_; clear ha a; intro a ha
    refine endl ?_
    refine thenN (hK1485 _ _ ?_); clear hK1485
    refine wp_ret ?_
    obtain rfl := Option.some.inj h
    exact finv ha _ _ rfl (.tmp (v := .bool (decide (a0 ≤ 57))) KR .nil) (.bool (decide (a0 ≤ 57))) rfl ⟨rfl, HW.pick [] [] (by decide) (by decide) rfl KR⟩
  · skip
    replace h := ite_neg' h hp1486
    replace ha := ha.bool 5 KR (decide_eq_false hp1486)
    refine stepo ha 6 KR ?_; clear ha a; intro a ha
    refine stepo ha 7 KR ?_; clear ha a; intro a ha
    refine stepp ha 8 (.bool false) KR KR ?_; clear ha a; intro a ha
    refine stepp ha 2 (.bool false) KR KR ?_; clear ha a; intro a ha
    refine endl ?_
    refine thenN (hK1485 _ _ ?_); clear hK1485
    refine wp_ret ?_
    obtain rfl := Option.some.inj h
    exact finv ha _ _ rfl (.tmp (v := .bool false) KR .nil) (.bool false) rfl ⟨rfl, HW.pick [] [] (by decide) (by decide) rfl KR⟩
/-! ### headgate/headgateref03.Name: function 85 -/
def headgateref03_Name.b0 (K : Nat) (a0 : ByteArray) (again1563 : Int → Option Bool) (x1564 : Int) : Option Bool :=
  if x1564 < (a0.size : Int) then (asrt (0 ≤ x1564) ((headgateref03_letter.f (bt a0 x1564)).bind fun t1578 => (if t1578 = true then (again1563 (IntKind.wrap .i64 (x1564 + 1))) else ((headgateref03_digit.f (bt a0 x1564)).bind fun t1583 => (if t1583 = true then (again1563 (IntKind.wrap .i64 (x1564 + 1))) else (if (bt a0 x1564) = 46 then (again1563 (IntKind.wrap .i64 (x1564 + 1))) else (if (bt a0 x1564) = 45 then (again1563 (IntKind.wrap .i64 (x1564 + 1))) else (if (bt a0 x1564) = 58 then (again1563 (IntKind.wrap .i64 (x1564 + 1))) else (some false))))))))) else (some true)
def headgateref03_Name.l0 (K : Nat) (a0 : ByteArray) : Nat → Int → Option Bool
  | 0, _ => none
  | k_ + 1, x1564 => headgateref03_Name.b0 K a0 (headgateref03_Name.l0 K a0 k_) x1564
def headgateref03_Name.f (K : Nat) (a0 : ByteArray) : Option Bool :=
  if (a0.size : Int) < 1 then (some false) else (if (a0.size : Int) > 64 then (some false) else (asrt (0 < (a0.size : Int)) ((headgateref03_letter.f (bt a0 0)).bind fun t1496 => (if t1496 = true then (headgateref03_Name.l0 K a0 K 0) else (some false)))))
set_option maxRecDepth 100000 in
set_option maxHeartbeats 4000000 in
theorem headgateref03_Name.calls (K : Nat) (a0 : ByteArray)  (r : Bool) (w : World)  (h : headgateref03_Name.f K a0 = some r) :
    Calls Tryz.prog 85 #[.string a0] w (fun e W' => e = .returned (.bool r) ∧ Wd w W' [] [] ) := by
  refine sxstart (n := 54) (l := [(0, .string a0)]) Tryz.func85 rfl rfl (Nat.le_of_ble_eq_true KR) (subsA_cons rfl (subsA_nil _)) ?_
  intro a ha
  have HW := Wd.refl w
  unfold headgateref03_Name.f at h
  refine wp_seq_k (fun K1487 hK1488 => ?_)
  refine wp_region_lit ?_
  refine stepp ha 2 (.bool false) KR KR ?_; clear ha a; intro a ha
  refine endl ?_
  refine thenN (hK1488 _ _ ?_); clear hK1488
  refine wp_seq_k (fun K1489 hK1490 => ?_)
  refine wp_seq_k (fun K1491 hK1492 => ?_)
  refine wp_region_lit ?_
  refine stepp ha 4 (.string a0) KR KR ?_; clear ha a; intro a ha
  refine stepp ha 5 (.int .i64 (a0.size : Int)) KR KR ?_; clear ha a; intro a ha
  refine stepp ha 6 (.bool (decide ((a0.size : Int) < 1))) KR KR ?_; clear ha a; intro a ha
  refine stepp ha 7 (.bool (decide ((a0.size : Int) < 1))) KR KR ?_; clear ha a; intro a ha
  by_cases hp1493 : (a0.size : Int) < 1
  · skip
    replace h := ite_pos' h hp1493
    replace ha := ha.bool 7 KR (decide_eq_true hp1493)
    refine stepo ha 8 KR ?_; clear ha a; intro a ha
    refine stepo ha 9 KR ?_; clear ha a; intro a ha
    refine stepo ha 10 KR ?_; clear ha a; intro a ha
    refine stepp ha 11 (.bool true) KR KR ?_; clear ha a; intro a ha
    refine stepp ha 12 (.bool true) KR KR ?_; clear ha a; intro a ha
    refine stepo ha 13 KR ?_; clear ha a; intro a ha
    refine stepo ha 14 KR ?_; clear ha a; intro a ha
    refine stepo ha 15 KR ?_; clear ha a; intro a ha
    refine stepo ha 16 KR ?_; clear ha a; intro a ha
    refine stepp ha 17 (.bool true) KR KR ?_; clear ha a; intro a ha
    refine endl ?_
    refine thenN (hK1492 _ _ ?_); clear hK1492
    refine condT ha KR KR (t := true) (rfl) ?_
    refine wp_seq_k (fun K1500 hK1501 => ?_)
    refine wp_region_lit ?_
    refine stepp ha 2 (.bool false) KR KR ?_; clear ha a; intro a ha
    refine endl ?_
    refine thenN (hK1501 _ _ ?_); clear hK1501
    refine wp_ret ?_
    refine thenR ?_
    obtain rfl := Option.some.inj h
    exact finv ha _ _ rfl (.tmp (v := .bool false) KR .nil) (.bool false) rfl ⟨rfl, HW.pick [] [] (by decide) (by decide) rfl KR⟩
  · skip
    replace h := ite_neg' h hp1493
    replace ha := ha.bool 7 KR (decide_eq_false hp1493)
    refine stepp ha 8 (.string a0) KR KR ?_; clear ha a; intro a ha
    refine stepp ha 9 (.int .i64 (a0.size : Int)) KR KR ?_; clear ha a; intro a ha
    refine stepp ha 10 (.bool (decide ((a0.size : Int) > 64))) KR KR ?_; clear ha a; intro a ha
    refine stepp ha 11 (.bool (decide ((a0.size : Int) > 64))) KR KR ?_; clear ha a; intro a ha
    refine stepp ha 12 (.bool (decide ((a0.size : Int) > 64))) KR KR ?_; clear ha a; intro a ha
    by_cases hp1494 : (a0.size : Int) > 64
    · skip
      replace h := ite_pos' h hp1494
      replace ha := ha.bool 12 KR (decide_eq_true hp1494)
      refine stepo ha 13 KR ?_; clear ha a; intro a ha
      refine stepo ha 14 KR ?_; clear ha a; intro a ha
      refine stepo ha 15 KR ?_; clear ha a; intro a ha
      refine stepo ha 16 KR ?_; clear ha a; intro a ha
      refine stepp ha 17 (.bool true) KR KR ?_; clear ha a; intro a ha
      refine endl ?_
      refine thenN (hK1492 _ _ ?_); clear hK1492
      refine condT ha KR KR (t := true) (rfl) ?_
      refine wp_seq_k (fun K1502 hK1503 => ?_)
      refine wp_region_lit ?_
      refine stepp ha 2 (.bool false) KR KR ?_; clear ha a; intro a ha
      refine endl ?_
      refine thenN (hK1503 _ _ ?_); clear hK1503
      refine wp_ret ?_
      refine thenR ?_
      obtain rfl := Option.some.inj h
      exact finv ha _ _ rfl (.tmp (v := .bool false) KR .nil) (.bool false) rfl ⟨rfl, HW.pick [] [] (by decide) (by decide) rfl KR⟩
    · skip
      replace h := ite_neg' h hp1494
      replace ha := ha.bool 12 KR (decide_eq_false hp1494)
      refine stepp ha 13 (.string a0) KR KR ?_; clear ha a; intro a ha
      obtain ⟨hA1495, h_⟩ := asrt_some h; clear h; have h := h_; clear h_
      refine stepsi ha 14 9 (.tmp 13) (.const (.int .i64 0)) a0 .i64 0 rfl KR KR KR (by decide) (show (0 : Int) < ((a0).size : Int) from hA1495) KR ?_; clear ha a; intro a ha
      obtain ⟨t1496, ht1497, h_⟩ := bind_some' h; clear h; have h := h_; clear h_
      refine stepc ha 15 KR KR (headgateref03_letter.calls (bt a0 0) t1496 _ ht1497) ?_; clear ha a; rintro e W1498 ⟨rfl, HX1499⟩
      refine ⟨_, rfl, ?_⟩; intro a ha; replace HW := HW.callw HX1499; clear HX1499
      refine stepp ha 16 (.bool (!t1496)) KR KR ?_; clear ha a; intro a ha
      refine stepp ha 17 (.bool (!t1496)) KR KR ?_; clear ha a; intro a ha
      refine endl ?_
      refine thenN (hK1492 _ _ ?_); clear hK1492
      by_cases hp1504 : t1496 = true
      · skip
        replace h := ite_pos' h hp1504
        refine condF ha KR KR (t := (!t1496)) (not_f (hp1504)) ?_
        refine wp_skip ?_
        refine thenN (hK1490 _ _ ?_); clear hK1490
        refine wp_seq_k (fun K1507 hK1508 => ?_)
        refine wp_seq_k (fun K1509 hK1510 => ?_)
        refine wp_region_lit ?_
        refine stepp ha 3 (.int .i64 0) KR KR ?_; clear ha a; intro a ha
        refine endl ?_
        refine thenN (hK1510 _ _ ?_); clear hK1510
        refine wp_block ?_
        refine loopk (fun k => fun a W1565 => ∃ (x1564 : Int), headgateref03_Name.l0 K a0 k x1564 = some r ∧ Has 54 [(0, .string a0), (3, .int .i64 x1564)] a ∧ Wd w W1565 [] []) K ?_ ?_
        · skip
          exact ⟨0, h, ha.sub (subs_cons KR (subs_cons KR (subs_nil _))), HW.pick [] [] (by decide) (by decide) KR KR⟩
        · skip
          intro k a W1565 hI
          obtain ⟨x1564, h, ha, HW⟩ := hI
          cases k with
          | zero => exact (none_some (show none = some r from h)).elim
          | succ k1566 =>
            replace h : headgateref03_Name.b0 K a0 (headgateref03_Name.l0 K a0 k1566) x1564 = some r := h
            obtain ⟨again1563, hag1567⟩ : ∃ g_, g_ = headgateref03_Name.l0 K a0 k1566 := ⟨_, rfl⟩
            rw [← hag1567] at h
            unfold headgateref03_Name.b0 at h
            refine wp_seq_k (fun K1568 hK1569 => ?_)
            refine wp_seq_k (fun K1570 hK1571 => ?_)
            refine wp_region_lit ?_
            refine stepp ha 18 (.int .i64 x1564) KR KR ?_; clear ha a; intro a ha
            refine stepp ha 19 (.string a0) KR KR ?_; clear ha a; intro a ha
            refine stepp ha 20 (.int .i64 (a0.size : Int)) KR KR ?_; clear ha a; intro a ha
            refine stepp ha 21 (.bool (decide (x1564 < (a0.size : Int)))) KR KR ?_; clear ha a; intro a ha
            refine endl ?_
            refine thenN (hK1571 _ _ ?_); clear hK1571
            by_cases hp1572 : x1564 < (a0.size : Int)
            · skip
              replace h := ite_pos' h hp1572
              refine condT ha KR KR (t := decide (x1564 < (a0.size : Int))) (decide_eq_true hp1572) ?_
              refine wp_skip ?_
              refine thenN (hK1569 _ _ ?_); clear hK1569
              refine wp_seq_k (fun K1573 hK1574 => ?_)
              refine wp_block ?_
              refine wp_seq_k (fun K1575 hK1576 => ?_)
              refine wp_region_lit ?_
              refine stepp ha 24 (.string a0) KR KR ?_; clear ha a; intro a ha
              refine stepp ha 25 (.int .i64 x1564) KR KR ?_; clear ha a; intro a ha
              obtain ⟨hA1577, h_⟩ := asrt_some h; clear h; have h := h_; clear h_
              refine stepsi ha 26 9 (.tmp 24) (.tmp 25) a0 .i64 x1564 rfl KR KR KR hA1577 (show (x1564 : Int) < ((a0).size : Int) from hp1572) KR ?_; clear ha a; intro a ha
              obtain ⟨t1578, ht1579, h_⟩ := bind_some' h; clear h; have h := h_; clear h_
              refine stepc ha 27 KR KR (headgateref03_letter.calls (bt a0 x1564) t1578 _ ht1579) ?_; clear ha a; rintro e W1580 ⟨rfl, HX1581⟩
              refine ⟨_, rfl, ?_⟩; intro a ha; replace HW := HW.callw HX1581; clear HX1581
              refine stepp ha 28 (.bool (!t1578)) KR KR ?_; clear ha a; intro a ha
              refine stepp ha 29 (.bool (!t1578)) KR KR ?_; clear ha a; intro a ha
              by_cases hp1582 : t1578 = true
              · skip
                replace h := ite_pos' h hp1582
                replace ha := ha.bool 29 KR (not_f (hp1582))
                refine stepo ha 30 KR ?_; clear ha a; intro a ha
                refine stepo ha 31 KR ?_; clear ha a; intro a ha
                refine stepo ha 32 KR ?_; clear ha a; intro a ha
                refine stepo ha 33 KR ?_; clear ha a; intro a ha
                refine stepo ha 34 KR ?_; clear ha a; intro a ha
                refine stepp ha 35 (.bool false) KR KR ?_; clear ha a; intro a ha
                refine stepp ha 36 (.bool false) KR KR ?_; clear ha a; intro a ha
                refine stepo ha 37 KR ?_; clear ha a; intro a ha
                refine stepo ha 38 KR ?_; clear ha a; intro a ha
                refine stepo ha 39 KR ?_; clear ha a; intro a ha
                refine stepo ha 40 KR ?_; clear ha a; intro a ha
                refine stepp ha 41 (.bool false) KR KR ?_; clear ha a; intro a ha
                refine stepp ha 42 (.bool false) KR KR ?_; clear ha a; intro a ha
                refine stepo ha 43 KR ?_; clear ha a; intro a ha
                refine stepo ha 44 KR ?_; clear ha a; intro a ha
                refine stepo ha 45 KR ?_; clear ha a; intro a ha
                refine stepo ha 46 KR ?_; clear ha a; intro a ha
                refine stepp ha 47 (.bool false) KR KR ?_; clear ha a; intro a ha
                refine stepp ha 48 (.bool false) KR KR ?_; clear ha a; intro a ha
                refine stepo ha 49 KR ?_; clear ha a; intro a ha
                refine stepo ha 50 KR ?_; clear ha a; intro a ha
                refine stepo ha 51 KR ?_; clear ha a; intro a ha
                refine stepo ha 52 KR ?_; clear ha a; intro a ha
                refine stepp ha 53 (.bool false) KR KR ?_; clear ha a; intro a ha
                refine endl ?_
                refine thenN (hK1576 _ _ ?_); clear hK1576
                refine condF ha KR KR (t := false) (rfl) ?_
                refine wp_skip ?_
                refine blkN ?_
                refine thenN (hK1574 _ _ ?_); clear hK1574
                refine wp_region_lit ?_
                refine stepp ha 22 (.int .i64 x1564) KR KR ?_; clear ha a; intro a ha
                refine stepp ha 23 (.int .i64 (IntKind.wrap .i64 (x1564 + 1))) KR KR ?_; clear ha a; intro a ha
                refine stepp ha 3 (.int .i64 (IntKind.wrap .i64 (x1564 + 1))) KR KR ?_; clear ha a; intro a ha
                refine endl ?_
                exact thenN ⟨k1566, Nat.lt_succ_self k1566, IntKind.wrap .i64 (x1564 + 1), (by rw [← hag1567]; exact h), ha.sub (subs_cons KR (subs_cons KR (subs_nil _))), HW.pick [] [] (by decide) (by decide) KR KR⟩
              · skip
                replace h := ite_neg' h hp1582
                replace ha := ha.bool 29 KR (not_t (bool_f hp1582))
                refine stepp ha 30 (.string a0) KR KR ?_; clear ha a; intro a ha
                refine stepp ha 31 (.int .i64 x1564) KR KR ?_; clear ha a; intro a ha
                refine stepsi ha 32 9 (.tmp 30) (.tmp 31) a0 .i64 x1564 rfl KR KR KR hA1577 (show (x1564 : Int) < ((a0).size : Int) from hp1572) KR ?_; clear ha a; intro a ha
                obtain ⟨t1583, ht1584, h_⟩ := bind_some' h; clear h; have h := h_; clear h_
                refine stepc ha 33 KR KR (headgateref03_digit.calls (bt a0 x1564) t1583 _ ht1584) ?_; clear ha a; rintro e W1585 ⟨rfl, HX1586⟩
                refine ⟨_, rfl, ?_⟩; intro a ha; replace HW := HW.callw HX1586; clear HX1586
                refine stepp ha 34 (.bool (!t1583)) KR KR ?_; clear ha a; intro a ha
                refine stepp ha 35 (.bool (!t1583)) KR KR ?_; clear ha a; intro a ha
                refine stepp ha 36 (.bool (!t1583)) KR KR ?_; clear ha a; intro a ha
                by_cases hp1587 : t1583 = true
                · skip
                  replace h := ite_pos' h hp1587
                  replace ha := ha.bool 36 KR (not_f (hp1587))
                  refine stepo ha 37 KR ?_; clear ha a; intro a ha
                  refine stepo ha 38 KR ?_; clear ha a; intro a ha
                  refine stepo ha 39 KR ?_; clear ha a; intro a ha
                  refine stepo ha 40 KR ?_; clear ha a; intro a ha
                  refine stepp ha 41 (.bool false) KR KR ?_; clear ha a; intro a ha
                  refine stepp ha 42 (.bool false) KR KR ?_; clear ha a; intro a ha
                  refine stepo ha 43 KR ?_; clear ha a; intro a ha
                  refine stepo ha 44 KR ?_; clear ha a; intro a ha
                  refine stepo ha 45 KR ?_; clear ha a; intro a ha
                  refine stepo ha 46 KR ?_; clear ha a; intro a ha
                  refine stepp ha 47 (.bool false) KR KR ?_; clear ha a; intro a ha
                  refine stepp ha 48 (.bool false) KR KR ?_; clear ha a; intro a ha
                  refine stepo ha 49 KR ?_; clear ha a; intro a ha
                  refine stepo ha 50 KR ?_; clear ha a; intro a ha
                  refine stepo ha 51 KR ?_; clear ha a; intro a ha
                  refine stepo ha 52 KR ?_; clear ha a; intro a ha
                  refine stepp ha 53 (.bool false) KR KR ?_; clear ha a; intro a ha
                  refine endl ?_
                  refine thenN (hK1576 _ _ ?_); clear hK1576
                  refine condF ha KR KR (t := false) (rfl) ?_
                  refine wp_skip ?_
                  refine blkN ?_
                  refine thenN (hK1574 _ _ ?_); clear hK1574
                  refine wp_region_lit ?_
                  refine stepp ha 22 (.int .i64 x1564) KR KR ?_; clear ha a; intro a ha
                  refine stepp ha 23 (.int .i64 (IntKind.wrap .i64 (x1564 + 1))) KR KR ?_; clear ha a; intro a ha
                  refine stepp ha 3 (.int .i64 (IntKind.wrap .i64 (x1564 + 1))) KR KR ?_; clear ha a; intro a ha
                  refine endl ?_
                  exact thenN ⟨k1566, Nat.lt_succ_self k1566, IntKind.wrap .i64 (x1564 + 1), (by rw [← hag1567]; exact h), ha.sub (subs_cons KR (subs_cons KR (subs_nil _))), HW.pick [] [] (by decide) (by decide) KR KR⟩
                · skip
                  replace h := ite_neg' h hp1587
                  replace ha := ha.bool 36 KR (not_t (bool_f hp1587))
                  refine stepp ha 37 (.string a0) KR KR ?_; clear ha a; intro a ha
                  refine stepp ha 38 (.int .i64 x1564) KR KR ?_; clear ha a; intro a ha
                  refine stepsi ha 39 9 (.tmp 37) (.tmp 38) a0 .i64 x1564 rfl KR KR KR hA1577 (show (x1564 : Int) < ((a0).size : Int) from hp1572) KR ?_; clear ha a; intro a ha
                  refine stepp ha 40 (.bool ((bt a0 x1564) != 46)) KR KR ?_; clear ha a; intro a ha
                  refine stepp ha 41 (.bool ((bt a0 x1564) != 46)) KR KR ?_; clear ha a; intro a ha
                  refine stepp ha 42 (.bool ((bt a0 x1564) != 46)) KR KR ?_; clear ha a; intro a ha
                  by_cases hp1588 : (bt a0 x1564) = 46
                  · skip
                    replace h := ite_pos' h hp1588
                    replace ha := ha.bool 42 KR (ineq_f hp1588)
                    refine stepo ha 43 KR ?_; clear ha a; intro a ha
                    refine stepo ha 44 KR ?_; clear ha a; intro a ha
                    refine stepo ha 45 KR ?_; clear ha a; intro a ha
                    refine stepo ha 46 KR ?_; clear ha a; intro a ha
                    refine stepp ha 47 (.bool false) KR KR ?_; clear ha a; intro a ha
                    refine stepp ha 48 (.bool false) KR KR ?_; clear ha a; intro a ha
                    refine stepo ha 49 KR ?_; clear ha a; intro a ha
                    refine stepo ha 50 KR ?_; clear ha a; intro a ha
                    refine stepo ha 51 KR ?_; clear ha a; intro a ha
                    refine stepo ha 52 KR ?_; clear ha a; intro a ha
                    refine stepp ha 53 (.bool false) KR KR ?_; clear ha a; intro a ha
                    refine endl ?_
                    refine thenN (hK1576 _ _ ?_); clear hK1576
                    refine condF ha KR KR (t := false) (rfl) ?_
                    refine wp_skip ?_
                    refine blkN ?_
                    refine thenN (hK1574 _ _ ?_); clear hK1574
                    refine wp_region_lit ?_
                    refine stepp ha 22 (.int .i64 x1564) KR KR ?_; clear ha a; intro a ha
                    refine stepp ha 23 (.int .i64 (IntKind.wrap .i64 (x1564 + 1))) KR KR ?_; clear ha a; intro a ha
                    refine stepp ha 3 (.int .i64 (IntKind.wrap .i64 (x1564 + 1))) KR KR ?_; clear ha a; intro a ha
                    refine endl ?_
                    exact thenN ⟨k1566, Nat.lt_succ_self k1566, IntKind.wrap .i64 (x1564 + 1), (by rw [← hag1567]; exact h), ha.sub (subs_cons KR (subs_cons KR (subs_nil _))), HW.pick [] [] (by decide) (by decide) KR KR⟩
                  · skip
                    replace h := ite_neg' h hp1588
                    replace ha := ha.bool 42 KR (ineq_t hp1588)
                    refine stepp ha 43 (.string a0) KR KR ?_; clear ha a; intro a ha
                    refine stepp ha 44 (.int .i64 x1564) KR KR ?_; clear ha a; intro a ha
                    refine stepsi ha 45 9 (.tmp 43) (.tmp 44) a0 .i64 x1564 rfl KR KR KR hA1577 (show (x1564 : Int) < ((a0).size : Int) from hp1572) KR ?_; clear ha a; intro a ha
                    refine stepp ha 46 (.bool ((bt a0 x1564) != 45)) KR KR ?_; clear ha a; intro a ha
                    refine stepp ha 47 (.bool ((bt a0 x1564) != 45)) KR KR ?_; clear ha a; intro a ha
                    refine stepp ha 48 (.bool ((bt a0 x1564) != 45)) KR KR ?_; clear ha a; intro a ha
                    by_cases hp1589 : (bt a0 x1564) = 45
                    · skip
                      replace h := ite_pos' h hp1589
                      replace ha := ha.bool 48 KR (ineq_f hp1589)
                      refine stepo ha 49 KR ?_; clear ha a; intro a ha
                      refine stepo ha 50 KR ?_; clear ha a; intro a ha
                      refine stepo ha 51 KR ?_; clear ha a; intro a ha
                      refine stepo ha 52 KR ?_; clear ha a; intro a ha
                      refine stepp ha 53 (.bool false) KR KR ?_; clear ha a; intro a ha
                      refine endl ?_
                      refine thenN (hK1576 _ _ ?_); clear hK1576
                      refine condF ha KR KR (t := false) (rfl) ?_
                      refine wp_skip ?_
                      refine blkN ?_
                      refine thenN (hK1574 _ _ ?_); clear hK1574
                      refine wp_region_lit ?_
                      refine stepp ha 22 (.int .i64 x1564) KR KR ?_; clear ha a; intro a ha
                      refine stepp ha 23 (.int .i64 (IntKind.wrap .i64 (x1564 + 1))) KR KR ?_; clear ha a; intro a ha
                      refine stepp ha 3 (.int .i64 (IntKind.wrap .i64 (x1564 + 1))) KR KR ?_; clear ha a; intro a ha
                      refine endl ?_
                      exact thenN ⟨k1566, Nat.lt_succ_self k1566, IntKind.wrap .i64 (x1564 + 1), (by rw [← hag1567]; exact h), ha.sub (subs_cons KR (subs_cons KR (subs_nil _))), HW.pick [] [] (by decide) (by decide) KR KR⟩
                    · skip
                      replace h := ite_neg' h hp1589
                      replace ha := ha.bool 48 KR (ineq_t hp1589)
                      refine stepp ha 49 (.string a0) KR KR ?_; clear ha a; intro a ha
                      refine stepp ha 50 (.int .i64 x1564) KR KR ?_; clear ha a; intro a ha
                      refine stepsi ha 51 9 (.tmp 49) (.tmp 50) a0 .i64 x1564 rfl KR KR KR hA1577 (show (x1564 : Int) < ((a0).size : Int) from hp1572) KR ?_; clear ha a; intro a ha
                      refine stepp ha 52 (.bool ((bt a0 x1564) != 58)) KR KR ?_; clear ha a; intro a ha
                      refine stepp ha 53 (.bool ((bt a0 x1564) != 58)) KR KR ?_; clear ha a; intro a ha
                      refine endl ?_
                      refine thenN (hK1576 _ _ ?_); clear hK1576
                      by_cases hp1590 : (bt a0 x1564) = 58
                      · skip
                        replace h := ite_pos' h hp1590
                        refine condF ha KR KR (t := ((bt a0 x1564) != 58)) (ineq_f hp1590) ?_
                        refine wp_skip ?_
                        refine blkN ?_
                        refine thenN (hK1574 _ _ ?_); clear hK1574
                        refine wp_region_lit ?_
                        refine stepp ha 22 (.int .i64 x1564) KR KR ?_; clear ha a; intro a ha
                        refine stepp ha 23 (.int .i64 (IntKind.wrap .i64 (x1564 + 1))) KR KR ?_; clear ha a; intro a ha
                        refine stepp ha 3 (.int .i64 (IntKind.wrap .i64 (x1564 + 1))) KR KR ?_; clear ha a; intro a ha
                        refine endl ?_
                        exact thenN ⟨k1566, Nat.lt_succ_self k1566, IntKind.wrap .i64 (x1564 + 1), (by rw [← hag1567]; exact h), ha.sub (subs_cons KR (subs_cons KR (subs_nil _))), HW.pick [] [] (by decide) (by decide) KR KR⟩
                      · skip
                        replace h := ite_neg' h hp1590
                        refine condT ha KR KR (t := ((bt a0 x1564) != 58)) (ineq_t hp1590) ?_
                        refine wp_seq_k (fun K1591 hK1592 => ?_)
                        refine wp_region_lit ?_
                        refine stepp ha 2 (.bool false) KR KR ?_; clear ha a; intro a ha
                        refine endl ?_
                        refine thenN (hK1592 _ _ ?_); clear hK1592
                        refine wp_ret ?_
                        refine blkR ?_
                        refine thenR ?_
                        refine thenR ?_
                        refine blkR ?_
                        refine thenR ?_
                        obtain rfl := Option.some.inj h
                        exact finv ha _ _ rfl (.tmp (v := .bool false) KR .nil) (.bool false) rfl ⟨rfl, HW.pick [] [] (by decide) (by decide) rfl KR⟩
            · skip
              replace h := ite_neg' h hp1572
              refine condF ha KR KR (t := decide (x1564 < (a0.size : Int))) (decide_eq_false hp1572) ?_
              refine wp_exit ?_
              refine thenE ?_
              refine thenE ?_
              refine inBlk ?_
              refine thenN (hK1508 _ _ ?_); clear hK1508
              refine wp_seq_k (fun K1593 hK1594 => ?_)
              refine wp_region_lit ?_
              refine stepp ha 2 (.bool true) KR KR ?_; clear ha a; intro a ha
              refine endl ?_
              refine thenN (hK1594 _ _ ?_); clear hK1594
              refine wp_ret ?_
              obtain rfl := Option.some.inj h
              exact finv ha _ _ rfl (.tmp (v := .bool true) KR .nil) (.bool true) rfl ⟨rfl, HW.pick [] [] (by decide) (by decide) rfl KR⟩
      · skip
        replace h := ite_neg' h hp1504
        refine condT ha KR KR (t := (!t1496)) (not_t (bool_f hp1504)) ?_
        refine wp_seq_k (fun K1505 hK1506 => ?_)
        refine wp_region_lit ?_
        refine stepp ha 2 (.bool false) KR KR ?_; clear ha a; intro a ha
        refine endl ?_
        refine thenN (hK1506 _ _ ?_); clear hK1506
        refine wp_ret ?_
        refine thenR ?_
        obtain rfl := Option.some.inj h
        exact finv ha _ _ rfl (.tmp (v := .bool false) KR .nil) (.bool false) rfl ⟨rfl, HW.pick [] [] (by decide) (by decide) rfl KR⟩
/-! ### headgate/headgateref11.alone: function 144 -/
def headgateref11_alone.f (a0 : Int) : Option Bool :=
  if a0 ≥ 1 then (some (decide (a0 ≤ 4))) else (some false)
set_option maxRecDepth 100000 in
set_option maxHeartbeats 4000000 in
theorem headgateref11_alone.calls (a0 : Int)  (r : Bool) (w : World)  (h : headgateref11_alone.f a0 = some r) :
    Calls Tryz.prog 144 #[.int .i64 a0] w (fun e W' => e = .returned (.bool r) ∧ Wd w W' [] [] ) := by
  refine sxstart (n := 9) (l := [(0, .int .i64 a0)]) Tryz.func144 rfl rfl (Nat.le_of_ble_eq_true KR) (subsA_cons rfl (subsA_nil _)) ?_
  intro a ha
  have HW := Wd.refl w
  unfold headgateref11_alone.f at h
  refine wp_seq_k (fun K1595 hK1596 => ?_)
  refine wp_region_lit ?_
  refine stepp ha 2 (.bool false) KR KR ?_; clear ha a; intro a ha
  refine endl ?_
  refine thenN (hK1596 _ _ ?_); clear hK1596
  refine wp_seq_k (fun K1597 hK1598 => ?_)
  refine wp_region_lit ?_
  refine stepp ha 3 (.int .i64 a0) KR KR ?_; clear ha a; intro a ha
  refine stepp ha 4 (.bool (decide (a0 ≥ 1))) KR KR ?_; clear ha a; intro a ha
  refine stepp ha 5 (.bool (decide (a0 ≥ 1))) KR KR ?_; clear ha a; intro a ha
  by_cases hp1599 : a0 ≥ 1
  · skip
    replace h := ite_pos' h hp1599
    replace ha := ha.bool 5 KR (decide_eq_true hp1599)
    refine stepp ha 6 (.int .i64 a0) KR KR ?_; clear ha a; intro a ha
    refine stepp ha 7 (.bool (decide (a0 ≤ 4))) KR KR ?_; clear ha a; intro a ha
    refine stepp ha 8 (.bool (decide (a0 ≤ 4))) KR KR ?_; clear ha a; intro a ha
    refine stepp ha 2 (.bool (decide (a0 ≤ 4))) KR KR ?_; clear ha a; intro a ha
    refine endl ?_
    refine thenN (hK1598 _ _ ?_); clear hK1598
    refine wp_ret ?_
    obtain rfl := Option.some.inj h
    exact finv ha _ _ rfl (.tmp (v := .bool (decide (a0 ≤ 4))) KR .nil) (.bool (decide (a0 ≤ 4))) rfl ⟨rfl, HW.pick [] [] (by decide) (by decide) rfl KR⟩
  · skip
    replace h := ite_neg' h hp1599
    replace ha := ha.bool 5 KR (decide_eq_false hp1599)
    refine stepo ha 6 KR ?_; clear ha a; intro a ha
    refine stepo ha 7 KR ?_; clear ha a; intro a ha
    refine stepp ha 8 (.bool false) KR KR ?_; clear ha a; intro a ha
    refine stepp ha 2 (.bool false) KR KR ?_; clear ha a; intro a ha
    refine endl ?_
    refine thenN (hK1598 _ _ ?_); clear hK1598
    refine wp_ret ?_
    obtain rfl := Option.some.inj h
    exact finv ha _ _ rfl (.tmp (v := .bool false) KR .nil) (.bool false) rfl ⟨rfl, HW.pick [] [] (by decide) (by decide) rfl KR⟩
end Go.Proofs.YteahodjiihjmnaaGreatDoor.F
