/- headgate/sense.Code: plain functions, and that the calls come to what they say. No condition. -/
import Derived.Test.YthjjbkgifelooaaDoorFT
import Derived.Test.YthjjbkgifelooaaDoorF64
namespace Go.Proofs.YthjjbkgifelooaaDoor.F
open Go Go.RowKit Go.Proofs.YthjjbkgifelooaaDoor.X
set_option linter.unusedVariables false
set_option linter.unusedSimpArgs false
/-! ### headgate/sense.Code: function 33 -/
def sense_Code.b0 (K : Nat) (a0 : Int) (a1 : T_api_Sense) (again4810 : Int → Int → Option (Int × Int × Int × Bool)) (x4811 : Int) (x4812 : Int) : Option (Int × Int × Int × Bool) :=
  if x4812 < 11 then (asrt (0 ≤ x4812) ((sense_row_sense.f (⟨(rdL T_sense_row.z G_sense_rows x4812).f0, (rdL T_sense_row.z G_sense_rows x4812).f1, (rdL T_sense_row.z G_sense_rows x4812).f2, (rdL T_sense_row.z G_sense_rows x4812).f3, (rdL T_sense_row.z G_sense_rows x4812).f4, (rdL T_sense_row.z G_sense_rows x4812).f5⟩ : T_sense_row)).bind fun t4833 => (if ((rdL T_sense_row.z G_sense_rows x4812).f0) = 3 then (if a1.f3 ≥ 0 then (if a1.f3 < 4294967296 then (if a0 = ((rdL T_sense_row.z G_sense_rows x4812).f2) then (if (a1.f0 == t4833.f0 && (a1.f1 == t4833.f1 && (a1.f2 == t4833.f2 && (a1.f3 == a1.f3 && true)))) = true then (if a1.f3 = (-1) then (again4810 a1.f3 (IntKind.wrap .i64 (x4812 + 1))) else (some ((rdL T_sense_row.z G_sense_rows x4812).f0, a1.f3, (rdL T_sense_row.z G_sense_rows x4812).f1, true))) else (again4810 a1.f3 (IntKind.wrap .i64 (x4812 + 1)))) else (again4810 a1.f3 (IntKind.wrap .i64 (x4812 + 1)))) else (if a0 = ((rdL T_sense_row.z G_sense_rows x4812).f2) then (if (a1.f0 == t4833.f0 && (a1.f1 == t4833.f1 && (a1.f2 == t4833.f2 && (a1.f3 == t4833.f3 && true)))) = true then (if a1.f3 = (-1) then (again4810 x4811 (IntKind.wrap .i64 (x4812 + 1))) else (some ((rdL T_sense_row.z G_sense_rows x4812).f0, x4811, (rdL T_sense_row.z G_sense_rows x4812).f1, true))) else (again4810 x4811 (IntKind.wrap .i64 (x4812 + 1)))) else (again4810 x4811 (IntKind.wrap .i64 (x4812 + 1))))) else (if a0 = ((rdL T_sense_row.z G_sense_rows x4812).f2) then (if (a1.f0 == t4833.f0 && (a1.f1 == t4833.f1 && (a1.f2 == t4833.f2 && (a1.f3 == t4833.f3 && true)))) = true then (if a1.f3 = (-1) then (again4810 x4811 (IntKind.wrap .i64 (x4812 + 1))) else (some ((rdL T_sense_row.z G_sense_rows x4812).f0, x4811, (rdL T_sense_row.z G_sense_rows x4812).f1, true))) else (again4810 x4811 (IntKind.wrap .i64 (x4812 + 1)))) else (again4810 x4811 (IntKind.wrap .i64 (x4812 + 1))))) else (if a0 = ((rdL T_sense_row.z G_sense_rows x4812).f2) then (if (a1.f0 == t4833.f0 && (a1.f1 == t4833.f1 && (a1.f2 == t4833.f2 && (a1.f3 == t4833.f3 && true)))) = true then (some ((rdL T_sense_row.z G_sense_rows x4812).f0, 0, (rdL T_sense_row.z G_sense_rows x4812).f1, true)) else (again4810 x4811 (IntKind.wrap .i64 (x4812 + 1)))) else (again4810 x4811 (IntKind.wrap .i64 (x4812 + 1))))))) else (some (0, 0, 0, false))
def sense_Code.l0 (K : Nat) (a0 : Int) (a1 : T_api_Sense) : Nat → Int → Int → Option (Int × Int × Int × Bool)
  | 0, _, _ => none
  | k_ + 1, x4811, x4812 => sense_Code.b0 K a0 a1 (sense_Code.l0 K a0 a1 k_) x4811 x4812
def sense_Code.f (K : Nat) (a0 : Int) (a1 : T_api_Sense) : Option (Int × Int × Int × Bool) :=
  sense_Code.l0 K a0 a1 K 0 0
set_option maxRecDepth 100000 in
set_option maxHeartbeats 4000000 in
theorem sense_Code.calls (K : Nat) (a0 : Int) (a1 : T_api_Sense)  (r : Int × Int × Int × Bool) (w : World) (hG3 : CA w 3 0 (encs T_sense_row.enc G_sense_rows).toArray) (h : sense_Code.f K a0 a1 = some r) :
    Calls Tryd.prog 33 #[.int .i64 a0, .agg #[.int .i64 a1.f0, .int .i64 a1.f1, .int .i64 a1.f2, .int .i64 a1.f3]] w (fun e W' => e = .returned (.tuple #[.int .i64 r.1, .int .i64 r.2.1, .int .i64 r.2.2.1, .bool r.2.2.2]) ∧ Wd w W' [] [] ) := by
  refine sxstart (n := 66) (l := [(0, .int .i64 a0), (1, .agg #[.int .i64 a1.f0, .int .i64 a1.f1, .int .i64 a1.f2, .int .i64 a1.f3])]) Tryd.func33 rfl rfl (Nat.le_of_ble_eq_true KR) (subsA_cons rfl (subsA_cons rfl (subsA_nil _))) ?_
  intro a ha
  have HW := Wd.refl w
  unfold sense_Code.f at h
  refine wp_seq_k (fun K4640 hK4641 => ?_)
  refine wp_region_lit ?_
  refine stepnew ha HW 3 #[.int .i64 a1.f0, .int .i64 a1.f1, .int .i64 a1.f2, .int .i64 a1.f3] 66 KR KR ?_; clear ha HW a; intro b4642 a W4643 HW ha
  refine stepp ha 4 (.int .i64 0) KR KR ?_; clear ha a; intro a ha
  refine stepp ha 5 (.int .i64 0) KR KR ?_; clear ha a; intro a ha
  refine stepp ha 6 (.int .i64 0) KR KR ?_; clear ha a; intro a ha
  refine stepp ha 7 (.bool false) KR KR ?_; clear ha a; intro a ha
  refine endl ?_
  refine thenN (hK4641 _ _ ?_); clear hK4641
  refine wp_seq_k (fun K4644 hK4645 => ?_)
  refine wp_seq_k (fun K4646 hK4647 => ?_)
  refine wp_region_lit ?_
  refine stepl ha 12 (HW.ca0 hG3) 114 0 (.global 3) (.agg (encs T_sense_row.enc G_sense_rows).toArray) rfl KR KR KR ?_; clear ha a; intro a ha
  refine stepp ha 13 (.int .i64 0) KR KR ?_; clear ha a; intro a ha
  refine endl ?_
  refine thenN (hK4647 _ _ ?_); clear hK4647
  refine wp_block ?_
  refine loopk (fun k => fun a W4813 => ∃ (x4811 : Int), ∃ (x4812 : Int), sense_Code.l0 K a0 a1 k x4811 x4812 = some r ∧ Has 66 [(0, .int .i64 a0), (3, .pointer (some ⟨b4642, 0, none⟩)), (5, .int .i64 x4811), (12, .agg (encs T_sense_row.enc G_sense_rows).toArray), (13, .int .i64 x4812)] a ∧ Wd w W4813 [(b4642, .cells #[.int .i64 a1.f0, .int .i64 a1.f1, .int .i64 a1.f2, .int .i64 a1.f3] 66 (0, 0))] []) K ?_ ?_
  · skip
    exact ⟨0, 0, h, ha.sub (subs_cons KR (subs_cons KR (subs_cons KR (subs_cons KR (subs_cons KR (subs_nil _)))))), HW.pick [0] [] (by decide) (by decide) KR KR⟩
  · skip
    intro k a W4813 hI
    obtain ⟨x4811, x4812, h, ha, HW⟩ := hI
    cases k with
    | zero => exact (none_some (show none = some r from h)).elim
    | succ k4814 =>
      replace h : sense_Code.b0 K a0 a1 (sense_Code.l0 K a0 a1 k4814) x4811 x4812 = some r := h
      obtain ⟨again4810, hag4815⟩ : ∃ g_, g_ = sense_Code.l0 K a0 a1 k4814 := ⟨_, rfl⟩
      rw [← hag4815] at h
      unfold sense_Code.b0 at h
      refine wp_seq_k (fun K4816 hK4817 => ?_)
      refine wp_region_lit ?_
      refine stepp ha 14 (.bool (decide (x4812 < 11))) KR KR ?_; clear ha a; intro a ha
      refine endl ?_
      refine thenN (hK4817 _ _ ?_); clear hK4817
      refine wp_seq_k (fun K4818 hK4819 => ?_)
      by_cases hp4820 : x4812 < 11
      · skip
        replace h := ite_pos' h hp4820
        refine condT ha KR KR (t := decide (x4812 < 11)) (decide_eq_true hp4820) ?_
        refine wp_skip ?_
        refine thenN (hK4819 _ _ ?_); clear hK4819
        refine wp_seq_k (fun K4821 hK4822 => ?_)
        refine wp_block ?_
        refine wp_seq_k (fun K4823 hK4824 => ?_)
        refine wp_region_lit ?_
        obtain ⟨hA4825, h_⟩ := asrt_some h; clear h; have h := h_; clear h_
        refine stepag T_sense_row.enc T_sense_row.z ha 15 114 11 113 (.tmp 12) (.tmp 13) .i64 x4812 G_sense_rows (.agg #[.int .i64 ((rdL T_sense_row.z G_sense_rows x4812).f0), .int .i64 ((rdL T_sense_row.z G_sense_rows x4812).f1), .int .i64 ((rdL T_sense_row.z G_sense_rows x4812).f2), .int .i64 ((rdL T_sense_row.z G_sense_rows x4812).f3), .int .i64 ((rdL T_sense_row.z G_sense_rows x4812).f4), .int .i64 ((rdL T_sense_row.z G_sense_rows x4812).f5)]) rfl KR KR KR KR (fun _ => rfl) hA4825 hp4820 KR rfl ?_; clear ha a; intro a ha
        refine stepnew ha HW 9 #[.int .i64 0, .int .i64 0, .int .i64 0, .int .i64 0, .int .i64 0, .int .i64 0] 113 KR KR ?_; clear ha HW a; intro b4826 a W4827 HW ha
        refine stepst ha HW 0 (b := b4826) (C := #[.int .i64 0, .int .i64 0, .int .i64 0, .int .i64 0, .int .i64 0, .int .i64 0]) (T := 113) KR 113 0 (.tmp 9) (.tmp 15) (.agg #[.int .i64 ((rdL T_sense_row.z G_sense_rows x4812).f0), .int .i64 ((rdL T_sense_row.z G_sense_rows x4812).f1), .int .i64 ((rdL T_sense_row.z G_sense_rows x4812).f2), .int .i64 ((rdL T_sense_row.z G_sense_rows x4812).f3), .int .i64 ((rdL T_sense_row.z G_sense_rows x4812).f4), .int .i64 ((rdL T_sense_row.z G_sense_rows x4812).f5)]) #[.int .i64 ((rdL T_sense_row.z G_sense_rows x4812).f0), .int .i64 ((rdL T_sense_row.z G_sense_rows x4812).f1), .int .i64 ((rdL T_sense_row.z G_sense_rows x4812).f2), .int .i64 ((rdL T_sense_row.z G_sense_rows x4812).f3), .int .i64 ((rdL T_sense_row.z G_sense_rows x4812).f4), .int .i64 ((rdL T_sense_row.z G_sense_rows x4812).f5)] rfl KR KR KR KR KR KR KR ?_; clear ha HW a; intro a W4828 HW ha
        refine endl ?_
        refine thenN (hK4824 _ _ ?_); clear hK4824
        refine wp_seq_k (fun K4829 hK4830 => ?_)
        refine wp_region_lit ?_
        refine stepl ha 16 (HW.ca (i := 0) (b := b4826) (C := #[.int .i64 ((rdL T_sense_row.z G_sense_rows x4812).f0), .int .i64 ((rdL T_sense_row.z G_sense_rows x4812).f1), .int .i64 ((rdL T_sense_row.z G_sense_rows x4812).f2), .int .i64 ((rdL T_sense_row.z G_sense_rows x4812).f3), .int .i64 ((rdL T_sense_row.z G_sense_rows x4812).f4), .int .i64 ((rdL T_sense_row.z G_sense_rows x4812).f5)]) (T := 113) (fr := (0, 0)) KR) 113 0 (.tmp 9) (.agg #[.int .i64 ((rdL T_sense_row.z G_sense_rows x4812).f0), .int .i64 ((rdL T_sense_row.z G_sense_rows x4812).f1), .int .i64 ((rdL T_sense_row.z G_sense_rows x4812).f2), .int .i64 ((rdL T_sense_row.z G_sense_rows x4812).f3), .int .i64 ((rdL T_sense_row.z G_sense_rows x4812).f4), .int .i64 ((rdL T_sense_row.z G_sense_rows x4812).f5)]) rfl KR KR KR ?_; clear ha a; intro a ha
        refine stepp ha 17 (.func (.func 65) #[.agg #[.int .i64 ((rdL T_sense_row.z G_sense_rows x4812).f0), .int .i64 ((rdL T_sense_row.z G_sense_rows x4812).f1), .int .i64 ((rdL T_sense_row.z G_sense_rows x4812).f2), .int .i64 ((rdL T_sense_row.z G_sense_rows x4812).f3), .int .i64 ((rdL T_sense_row.z G_sense_rows x4812).f4), .int .i64 ((rdL T_sense_row.z G_sense_rows x4812).f5)]] #[]) KR KR ?_; clear ha a; intro a ha
        refine stepp ha 10 (.func (.func 65) #[.agg #[.int .i64 ((rdL T_sense_row.z G_sense_rows x4812).f0), .int .i64 ((rdL T_sense_row.z G_sense_rows x4812).f1), .int .i64 ((rdL T_sense_row.z G_sense_rows x4812).f2), .int .i64 ((rdL T_sense_row.z G_sense_rows x4812).f3), .int .i64 ((rdL T_sense_row.z G_sense_rows x4812).f4), .int .i64 ((rdL T_sense_row.z G_sense_rows x4812).f5)]] #[]) KR KR ?_; clear ha a; intro a ha
        refine endl ?_
        refine thenN (hK4830 _ _ ?_); clear hK4830
        refine wp_seq_k (fun K4831 hK4832 => ?_)
        refine wp_region_lit ?_
        refine stepp ha 18 (.func (.func 65) #[.agg #[.int .i64 ((rdL T_sense_row.z G_sense_rows x4812).f0), .int .i64 ((rdL T_sense_row.z G_sense_rows x4812).f1), .int .i64 ((rdL T_sense_row.z G_sense_rows x4812).f2), .int .i64 ((rdL T_sense_row.z G_sense_rows x4812).f3), .int .i64 ((rdL T_sense_row.z G_sense_rows x4812).f4), .int .i64 ((rdL T_sense_row.z G_sense_rows x4812).f5)]] #[]) KR KR ?_; clear ha a; intro a ha
        obtain ⟨t4833, ht4834, h_⟩ := bind_some' h; clear h; have h := h_; clear h_
        refine stepc ha 19 KR KR (sense_row_sense.calls (⟨(rdL T_sense_row.z G_sense_rows x4812).f0, (rdL T_sense_row.z G_sense_rows x4812).f1, (rdL T_sense_row.z G_sense_rows x4812).f2, (rdL T_sense_row.z G_sense_rows x4812).f3, (rdL T_sense_row.z G_sense_rows x4812).f4, (rdL T_sense_row.z G_sense_rows x4812).f5⟩ : T_sense_row) t4833 _ ht4834) ?_; clear ha a; rintro e W4835 ⟨rfl, HX4836⟩
        refine ⟨_, rfl, ?_⟩; intro a ha; replace HW := HW.callw HX4836; clear HX4836
        refine stepnew ha HW 11 #[.int .i64 0, .int .i64 0, .int .i64 0, .int .i64 0] 66 KR KR ?_; clear ha HW a; intro b4837 a W4838 HW ha
        refine stepst ha HW 0 (b := b4837) (C := #[.int .i64 0, .int .i64 0, .int .i64 0, .int .i64 0]) (T := 66) KR 66 0 (.tmp 11) (.tmp 19) (.agg #[.int .i64 t4833.f0, .int .i64 t4833.f1, .int .i64 t4833.f2, .int .i64 t4833.f3]) #[.int .i64 t4833.f0, .int .i64 t4833.f1, .int .i64 t4833.f2, .int .i64 t4833.f3] rfl KR KR KR KR KR KR KR ?_; clear ha HW a; intro a W4839 HW ha
        refine endl ?_
        refine thenN (hK4832 _ _ ?_); clear hK4832
        refine wp_seq_k (fun K4840 hK4841 => ?_)
        refine wp_seq_k (fun K4842 hK4843 => ?_)
        refine wp_region_lit ?_
        refine stepp ha 20 (.pointer (some ⟨b4826, 0, none⟩)) KR KR ?_; clear ha a; intro a ha
        refine stepl ha 21 (HW.ca (i := 1) (b := b4826) (C := #[.int .i64 ((rdL T_sense_row.z G_sense_rows x4812).f0), .int .i64 ((rdL T_sense_row.z G_sense_rows x4812).f1), .int .i64 ((rdL T_sense_row.z G_sense_rows x4812).f2), .int .i64 ((rdL T_sense_row.z G_sense_rows x4812).f3), .int .i64 ((rdL T_sense_row.z G_sense_rows x4812).f4), .int .i64 ((rdL T_sense_row.z G_sense_rows x4812).f5)]) (T := 113) (fr := (0, 0)) KR) 3 0 (.tmp 20) (.int .i64 ((rdL T_sense_row.z G_sense_rows x4812).f0)) rfl KR KR KR ?_; clear ha a; intro a ha
        refine stepp ha 22 (.bool (((rdL T_sense_row.z G_sense_rows x4812).f0) == 3)) KR KR ?_; clear ha a; intro a ha
        refine stepp ha 23 (.bool (((rdL T_sense_row.z G_sense_rows x4812).f0) == 3)) KR KR ?_; clear ha a; intro a ha
        by_cases hp4844 : ((rdL T_sense_row.z G_sense_rows x4812).f0) = 3
        · skip
          replace h := ite_pos' h hp4844
          replace ha := ha.bool 23 KR (ieq_t hp4844)
          refine stepp ha 24 (.pointer (some ⟨b4642, 3, none⟩)) KR KR ?_; clear ha a; intro a ha
          refine stepl ha 25 (HW.ca (i := 2) (b := b4642) (C := #[.int .i64 a1.f0, .int .i64 a1.f1, .int .i64 a1.f2, .int .i64 a1.f3]) (T := 66) (fr := (0, 0)) KR) 3 3 (.tmp 24) (.int .i64 a1.f3) rfl KR KR KR ?_; clear ha a; intro a ha
          refine stepp ha 26 (.bool (decide (a1.f3 ≥ 0))) KR KR ?_; clear ha a; intro a ha
          refine stepp ha 27 (.bool (decide (a1.f3 ≥ 0))) KR KR ?_; clear ha a; intro a ha
          refine stepp ha 28 (.bool (decide (a1.f3 ≥ 0))) KR KR ?_; clear ha a; intro a ha
          by_cases hp4845 : a1.f3 ≥ 0
          · skip
            replace h := ite_pos' h hp4845
            replace ha := ha.bool 28 KR (decide_eq_true hp4845)
            refine stepp ha 29 (.pointer (some ⟨b4642, 3, none⟩)) KR KR ?_; clear ha a; intro a ha
            refine stepl ha 30 (HW.ca (i := 2) (b := b4642) (C := #[.int .i64 a1.f0, .int .i64 a1.f1, .int .i64 a1.f2, .int .i64 a1.f3]) (T := 66) (fr := (0, 0)) KR) 3 3 (.tmp 29) (.int .i64 a1.f3) rfl KR KR KR ?_; clear ha a; intro a ha
            refine stepp ha 31 (.bool (decide (a1.f3 < 4294967296))) KR KR ?_; clear ha a; intro a ha
            refine stepp ha 32 (.bool (decide (a1.f3 < 4294967296))) KR KR ?_; clear ha a; intro a ha
            refine endl ?_
            refine thenN (hK4843 _ _ ?_); clear hK4843
            by_cases hp4846 : a1.f3 < 4294967296
            · skip
              replace h := ite_pos' h hp4846
              refine condT ha KR KR (t := decide (a1.f3 < 4294967296)) (decide_eq_true hp4846) ?_
              refine regionL 6 KR ([(b4826, .cells #[.int .i64 ((rdL T_sense_row.z G_sense_rows x4812).f0), .int .i64 ((rdL T_sense_row.z G_sense_rows x4812).f1), .int .i64 ((rdL T_sense_row.z G_sense_rows x4812).f2), .int .i64 ((rdL T_sense_row.z G_sense_rows x4812).f3), .int .i64 ((rdL T_sense_row.z G_sense_rows x4812).f4), .int .i64 ((rdL T_sense_row.z G_sense_rows x4812).f5)] 113 (0, 0)), (b4642, .cells #[.int .i64 a1.f0, .int .i64 a1.f1, .int .i64 a1.f2, .int .i64 a1.f3] 66 (0, 0))], []) ([(b4837, .cells #[.int .i64 t4833.f0, .int .i64 t4833.f1, .int .i64 t4833.f2, .int .i64 t4833.f3] 66 (0, 0)), (b4826, .cells #[.int .i64 ((rdL T_sense_row.z G_sense_rows x4812).f0), .int .i64 ((rdL T_sense_row.z G_sense_rows x4812).f1), .int .i64 ((rdL T_sense_row.z G_sense_rows x4812).f2), .int .i64 ((rdL T_sense_row.z G_sense_rows x4812).f3), .int .i64 ((rdL T_sense_row.z G_sense_rows x4812).f4), .int .i64 ((rdL T_sense_row.z G_sense_rows x4812).f5)] 113 (0, 0)), (b4642, .cells #[.int .i64 a1.f0, .int .i64 a1.f1, .int .i64 a1.f2, .int .i64 a1.f3] 66 (0, 0))], []) [none, none, none, none, none, some ([(b4837, .cells #[.int .i64 t4833.f0, .int .i64 t4833.f1, .int .i64 t4833.f2, .int .i64 a1.f3] 66 (0, 0)), (b4826, .cells #[.int .i64 ((rdL T_sense_row.z G_sense_rows x4812).f0), .int .i64 ((rdL T_sense_row.z G_sense_rows x4812).f1), .int .i64 ((rdL T_sense_row.z G_sense_rows x4812).f2), .int .i64 ((rdL T_sense_row.z G_sense_rows x4812).f3), .int .i64 ((rdL T_sense_row.z G_sense_rows x4812).f4), .int .i64 ((rdL T_sense_row.z G_sense_rows x4812).f5)] 113 (0, 0)), (b4642, .cells #[.int .i64 a1.f0, .int .i64 a1.f1, .int .i64 a1.f2, .int .i64 a1.f3] 66 (0, 0))], [])] [.fix (.pointer (some ⟨b4642, 3, none⟩)), .fix (.int .i64 a1.f3), .fix (.pointer (some ⟨b4642, 3, none⟩)), .fix (.int .i64 a1.f3), .fix (.pointer (some ⟨b4837, 3, none⟩)), .any] KR ha HW ⟨(fun w_ h_ => h_.pick [1, 2] [] (by decide) (by decide) KR KR), (fun w_ h_ => h_.pick [1, 2] [] (by decide) (by decide) KR KR)⟩ ?_ ?_
              · skip
                refine ⟨?_, ?_, ?_, ?_, ?_, ?_, trivial⟩
                · skip
                  intro a wr hn hd HW hs; have ha := hasNil hn hd
                  have ha := ha.add (seeE hs 3 (.pointer (some ⟨b4642, 0, none⟩)) KR KR)
                  refine yStep ha 33 KR ?_; intro l_ ha HK
                  refine stepp ha 33 (.pointer (some ⟨b4642, 3, none⟩)) KR KR ?_; intro ax hax; exact HK _ _ _ hax rfl (Below.refl _ _)
                · skip
                  intro a wr hn hd HW hs; have ha := hasNil hn hd
                  have ha := ha.add (seeF hs 33 0 (.pointer (some ⟨b4642, 3, none⟩)) KR KR)
                  refine yStep ha 34 KR ?_; intro l_ ha HK
                  refine stepl ha 34 (HW.ca (i := 1) (b := b4642) (C := #[.int .i64 a1.f0, .int .i64 a1.f1, .int .i64 a1.f2, .int .i64 a1.f3]) (T := 66) (fr := (0, 0)) KR) 3 3 (.tmp 33) (.int .i64 a1.f3) rfl KR KR KR ?_; intro ax hax; exact HK _ _ _ hax rfl (Below.refl _ _)
                · skip
                  intro a wr hn hd HW hs; have ha := hasNil hn hd
                  have ha := ha.add (seeE hs 3 (.pointer (some ⟨b4642, 0, none⟩)) KR KR)
                  refine yStep ha 35 KR ?_; intro l_ ha HK
                  refine stepp ha 35 (.pointer (some ⟨b4642, 3, none⟩)) KR KR ?_; intro ax hax; exact HK _ _ _ hax rfl (Below.refl _ _)
                · skip
                  intro a wr hn hd HW hs; have ha := hasNil hn hd
                  have ha := ha.add (seeF hs 35 2 (.pointer (some ⟨b4642, 3, none⟩)) KR KR)
                  refine yStep ha 36 KR ?_; intro l_ ha HK
                  refine stepl ha 36 (HW.ca (i := 1) (b := b4642) (C := #[.int .i64 a1.f0, .int .i64 a1.f1, .int .i64 a1.f2, .int .i64 a1.f3]) (T := 66) (fr := (0, 0)) KR) 3 3 (.tmp 35) (.int .i64 a1.f3) rfl KR KR KR ?_; intro ax hax; exact HK _ _ _ hax rfl (Below.refl _ _)
                · skip
                  intro a wr hn hd HW hs; have ha := hasNil hn hd
                  have ha := ha.add (seeE hs 11 (.pointer (some ⟨b4837, 0, none⟩)) KR KR)
                  refine yStep ha 37 KR ?_; intro l_ ha HK
                  refine stepp ha 37 (.pointer (some ⟨b4837, 3, none⟩)) KR KR ?_; intro ax hax; exact HK _ _ _ hax rfl (Below.refl _ _)
                · skip
                  intro a wr hn hd HW hs; have ha := hasNil hn hd
                  have ha := ha.add (seeF hs 34 1 (.int .i64 a1.f3) KR KR)
                  have ha := ha.add (seeF hs 37 4 (.pointer (some ⟨b4837, 3, none⟩)) KR KR)
                  refine yStepS ha KR ?_; intro l_ ha HK
                  refine stepst ha HW 0 (b := b4837) (C := #[.int .i64 t4833.f0, .int .i64 t4833.f1, .int .i64 t4833.f2, .int .i64 t4833.f3]) (T := 66) KR 3 3 (.tmp 37) (.tmp 34) (.int .i64 a1.f3) #[.int .i64 t4833.f0, .int .i64 t4833.f1, .int .i64 t4833.f2, .int .i64 a1.f3] rfl KR KR KR KR KR KR KR ?_; intro ax wx HV hax; exact HK _ _ hax HV
              · skip
                intro a W4848 ha HW he hf
                replace HW : Wd w W4848 [(b4837, .cells #[.int .i64 t4833.f0, .int .i64 t4833.f1, .int .i64 t4833.f2, .int .i64 a1.f3] 66 (0, 0)), (b4826, .cells #[.int .i64 ((rdL T_sense_row.z G_sense_rows x4812).f0), .int .i64 ((rdL T_sense_row.z G_sense_rows x4812).f1), .int .i64 ((rdL T_sense_row.z G_sense_rows x4812).f2), .int .i64 ((rdL T_sense_row.z G_sense_rows x4812).f3), .int .i64 ((rdL T_sense_row.z G_sense_rows x4812).f4), .int .i64 ((rdL T_sense_row.z G_sense_rows x4812).f5)] 113 (0, 0)), (b4642, .cells #[.int .i64 a1.f0, .int .i64 a1.f1, .int .i64 a1.f2, .int .i64 a1.f3] 66 (0, 0))] [] := HW
                replace ha := ha.add (he 0 (.int .i64 a0) KR KR)
                replace ha := ha.add (he 3 (.pointer (some ⟨b4642, 0, none⟩)) KR KR)
                replace ha := ha.add (he 9 (.pointer (some ⟨b4826, 0, none⟩)) KR KR)
                replace ha := ha.add (he 11 (.pointer (some ⟨b4837, 0, none⟩)) KR KR)
                replace ha := ha.add (he 12 (.agg (encs T_sense_row.enc G_sense_rows).toArray) KR KR)
                replace ha := ha.add (he 13 (.int .i64 x4812) KR KR)
                replace ha := ha.add (he 24 (.pointer (some ⟨b4642, 3, none⟩)) KR KR)
                replace ha := ha.add (he 25 (.int .i64 a1.f3) KR KR)
                replace ha := ha.add (he 26 (.bool (decide (a1.f3 ≥ 0))) KR KR)
                replace ha := ha.add (he 29 (.pointer (some ⟨b4642, 3, none⟩)) KR KR)
                replace ha := ha.add (he 30 (.int .i64 a1.f3) KR KR)
                replace ha := ha.add (he 31 (.bool (decide (a1.f3 < 4294967296))) KR KR)
                replace ha := ha.add (gotF (m := 6) (j := 3) (d := 36) (v := .int .i64 a1.f3) hf KR KR KR)
                clear he hf
                refine stepp ha 5 (.int .i64 a1.f3) KR KR ?_; clear ha a; intro a ha
                refine endl ?_
                refine thenN (hK4841 _ _ ?_); clear hK4841
                refine wp_seq_k (fun K4849 hK4850 => ?_)
                refine wp_region_lit ?_
                refine stepp ha 38 (.int .i64 a0) KR KR ?_; clear ha a; intro a ha
                refine stepp ha 39 (.pointer (some ⟨b4826, 2, none⟩)) KR KR ?_; clear ha a; intro a ha
                refine stepl ha 40 (HW.ca (i := 1) (b := b4826) (C := #[.int .i64 ((rdL T_sense_row.z G_sense_rows x4812).f0), .int .i64 ((rdL T_sense_row.z G_sense_rows x4812).f1), .int .i64 ((rdL T_sense_row.z G_sense_rows x4812).f2), .int .i64 ((rdL T_sense_row.z G_sense_rows x4812).f3), .int .i64 ((rdL T_sense_row.z G_sense_rows x4812).f4), .int .i64 ((rdL T_sense_row.z G_sense_rows x4812).f5)]) (T := 113) (fr := (0, 0)) KR) 3 2 (.tmp 39) (.int .i64 ((rdL T_sense_row.z G_sense_rows x4812).f2)) rfl KR KR KR ?_; clear ha a; intro a ha
                refine stepp ha 41 (.bool (a0 == ((rdL T_sense_row.z G_sense_rows x4812).f2))) KR KR ?_; clear ha a; intro a ha
                refine stepp ha 42 (.bool (a0 == ((rdL T_sense_row.z G_sense_rows x4812).f2))) KR KR ?_; clear ha a; intro a ha
                by_cases hp4851 : a0 = ((rdL T_sense_row.z G_sense_rows x4812).f2)
                · skip
                  replace h := ite_pos' h hp4851
                  replace ha := ha.bool 42 KR (ieq_t hp4851)
                  refine stepl ha 43 (HW.ca (i := 2) (b := b4642) (C := #[.int .i64 a1.f0, .int .i64 a1.f1, .int .i64 a1.f2, .int .i64 a1.f3]) (T := 66) (fr := (0, 0)) KR) 66 0 (.tmp 3) (.agg #[.int .i64 a1.f0, .int .i64 a1.f1, .int .i64 a1.f2, .int .i64 a1.f3]) rfl KR KR KR ?_; clear ha a; intro a ha
                  refine stepl ha 44 (HW.ca (i := 0) (b := b4837) (C := #[.int .i64 t4833.f0, .int .i64 t4833.f1, .int .i64 t4833.f2, .int .i64 a1.f3]) (T := 66) (fr := (0, 0)) KR) 66 0 (.tmp 11) (.agg #[.int .i64 t4833.f0, .int .i64 t4833.f1, .int .i64 t4833.f2, .int .i64 a1.f3]) rfl KR KR KR ?_; clear ha a; intro a ha
                  refine stepeq ha 45 66 66 (.tmp 43) (.tmp 44) #[.int .i64 a1.f0, .int .i64 a1.f1, .int .i64 a1.f2, .int .i64 a1.f3] #[.int .i64 t4833.f0, .int .i64 t4833.f1, .int .i64 t4833.f2, .int .i64 a1.f3] (a1.f0 == t4833.f0 && (a1.f1 == t4833.f1 && (a1.f2 == t4833.f2 && (a1.f3 == a1.f3 && true)))) rfl KR KR KR KR KR KR KR ?_; clear ha a; intro a ha
                  refine stepp ha 46 (.bool (a1.f0 == t4833.f0 && (a1.f1 == t4833.f1 && (a1.f2 == t4833.f2 && (a1.f3 == a1.f3 && true))))) KR KR ?_; clear ha a; intro a ha
                  refine stepp ha 47 (.bool (a1.f0 == t4833.f0 && (a1.f1 == t4833.f1 && (a1.f2 == t4833.f2 && (a1.f3 == a1.f3 && true))))) KR KR ?_; clear ha a; intro a ha
                  by_cases hp4852 : (a1.f0 == t4833.f0 && (a1.f1 == t4833.f1 && (a1.f2 == t4833.f2 && (a1.f3 == a1.f3 && true)))) = true
                  · skip
                    replace h := ite_pos' h hp4852
                    replace ha := ha.bool 47 KR (hp4852)
                    refine stepp ha 48 (.pointer (some ⟨b4826, 0, none⟩)) KR KR ?_; clear ha a; intro a ha
                    refine stepl ha 49 (HW.ca (i := 1) (b := b4826) (C := #[.int .i64 ((rdL T_sense_row.z G_sense_rows x4812).f0), .int .i64 ((rdL T_sense_row.z G_sense_rows x4812).f1), .int .i64 ((rdL T_sense_row.z G_sense_rows x4812).f2), .int .i64 ((rdL T_sense_row.z G_sense_rows x4812).f3), .int .i64 ((rdL T_sense_row.z G_sense_rows x4812).f4), .int .i64 ((rdL T_sense_row.z G_sense_rows x4812).f5)]) (T := 113) (fr := (0, 0)) KR) 3 0 (.tmp 48) (.int .i64 ((rdL T_sense_row.z G_sense_rows x4812).f0)) rfl KR KR KR ?_; clear ha a; intro a ha
                    refine stepp ha 50 (.bool (((rdL T_sense_row.z G_sense_rows x4812).f0) != 3)) KR KR ?_; clear ha a; intro a ha
                    refine stepp ha 51 (.bool (((rdL T_sense_row.z G_sense_rows x4812).f0) != 3)) KR KR ?_; clear ha a; intro a ha
                    replace ha := ha.bool 51 KR (ineq_f hp4844)
                    refine stepp ha 52 (.pointer (some ⟨b4642, 3, none⟩)) KR KR ?_; clear ha a; intro a ha
                    refine stepl ha 53 (HW.ca (i := 2) (b := b4642) (C := #[.int .i64 a1.f0, .int .i64 a1.f1, .int .i64 a1.f2, .int .i64 a1.f3]) (T := 66) (fr := (0, 0)) KR) 3 3 (.tmp 52) (.int .i64 a1.f3) rfl KR KR KR ?_; clear ha a; intro a ha
                    refine stepp ha 54 (.bool (a1.f3 != (-1))) KR KR ?_; clear ha a; intro a ha
                    refine stepp ha 55 (.bool (a1.f3 != (-1))) KR KR ?_; clear ha a; intro a ha
                    refine stepp ha 56 (.bool (a1.f3 != (-1))) KR KR ?_; clear ha a; intro a ha
                    refine endl ?_
                    refine thenN (hK4850 _ _ ?_); clear hK4850
                    by_cases hp4853 : a1.f3 = (-1)
                    · skip
                      replace h := ite_pos' h hp4853
                      refine condF ha KR KR (t := (a1.f3 != (-1))) (ineq_f hp4853) ?_
                      refine wp_skip ?_
                      refine blkN ?_
                      refine thenN (hK4822 _ _ ?_); clear hK4822
                      refine wp_region_lit ?_
                      refine stepp ha 65 (.int .i64 (IntKind.wrap .i64 (x4812 + 1))) KR KR ?_; clear ha a; intro a ha
                      refine stepp ha 13 (.int .i64 (IntKind.wrap .i64 (x4812 + 1))) KR KR ?_; clear ha a; intro a ha
                      refine endl ?_
                      exact thenN ⟨k4814, Nat.lt_succ_self k4814, a1.f3, IntKind.wrap .i64 (x4812 + 1), (by rw [← hag4815]; exact h), ha.sub (subs_cons KR (subs_cons KR (subs_cons KR (subs_cons KR (subs_cons KR (subs_nil _)))))), HW.pick [2] [] (by decide) (by decide) KR KR⟩
                    · skip
                      replace h := ite_neg' h hp4853
                      refine condT ha KR KR (t := (a1.f3 != (-1))) (ineq_t hp4853) ?_
                      refine wp_seq_k (fun K4854 hK4855 => ?_)
                      refine wp_seq_k (fun K4856 hK4857 => ?_)
                      refine wp_region_lit ?_
                      refine stepp ha 57 (.pointer (some ⟨b4826, 0, none⟩)) KR KR ?_; clear ha a; intro a ha
                      refine stepl ha 58 (HW.ca (i := 1) (b := b4826) (C := #[.int .i64 ((rdL T_sense_row.z G_sense_rows x4812).f0), .int .i64 ((rdL T_sense_row.z G_sense_rows x4812).f1), .int .i64 ((rdL T_sense_row.z G_sense_rows x4812).f2), .int .i64 ((rdL T_sense_row.z G_sense_rows x4812).f3), .int .i64 ((rdL T_sense_row.z G_sense_rows x4812).f4), .int .i64 ((rdL T_sense_row.z G_sense_rows x4812).f5)]) (T := 113) (fr := (0, 0)) KR) 3 0 (.tmp 57) (.int .i64 ((rdL T_sense_row.z G_sense_rows x4812).f0)) rfl KR KR KR ?_; clear ha a; intro a ha
                      refine stepp ha 59 (.bool (((rdL T_sense_row.z G_sense_rows x4812).f0) != 3)) KR KR ?_; clear ha a; intro a ha
                      refine endl ?_
                      refine thenN (hK4857 _ _ ?_); clear hK4857
                      refine condF ha KR KR (t := (((rdL T_sense_row.z G_sense_rows x4812).f0) != 3)) (ineq_f hp4844) ?_
                      refine wp_skip ?_
                      refine thenN (hK4855 _ _ ?_); clear hK4855
                      refine wp_seq_k (fun K4858 hK4859 => ?_)
                      refine regionG 7 KR KR ha HW [.fix (.pointer (some ⟨b4826, 0, none⟩)), .fix (.int .i64 ((rdL T_sense_row.z G_sense_rows x4812).f0)), .fix (.int .i64 a1.f3), .fix (.pointer (some ⟨b4826, 1, none⟩)), .fix (.int .i64 ((rdL T_sense_row.z G_sense_rows x4812).f1)), .fix (.int .i64 ((rdL T_sense_row.z G_sense_rows x4812).f0)), .fix (.int .i64 a1.f3)] ?_ ?_
                      · skip
                        refine ⟨?_, ?_, ?_, ?_, ?_, ?_, ?_, trivial⟩
                        · skip
                          intro a wr hn hd HW hs; have ha := hasNil hn hd
                          have ha := ha.add (seeE hs 9 (.pointer (some ⟨b4826, 0, none⟩)) KR KR)
                          refine yStep ha 60 KR ?_; intro l_ ha HK
                          refine stepp ha 60 (.pointer (some ⟨b4826, 0, none⟩)) KR KR ?_; intro ax hax; exact HK _ _ _ hax rfl (Below.refl _ _)
                        · skip
                          intro a wr hn hd HW hs; have ha := hasNil hn hd
                          have ha := ha.add (seeF hs 60 0 (.pointer (some ⟨b4826, 0, none⟩)) KR KR)
                          refine yStep ha 61 KR ?_; intro l_ ha HK
                          refine stepl ha 61 (HW.ca (i := 1) (b := b4826) (C := #[.int .i64 ((rdL T_sense_row.z G_sense_rows x4812).f0), .int .i64 ((rdL T_sense_row.z G_sense_rows x4812).f1), .int .i64 ((rdL T_sense_row.z G_sense_rows x4812).f2), .int .i64 ((rdL T_sense_row.z G_sense_rows x4812).f3), .int .i64 ((rdL T_sense_row.z G_sense_rows x4812).f4), .int .i64 ((rdL T_sense_row.z G_sense_rows x4812).f5)]) (T := 113) (fr := (0, 0)) KR) 3 0 (.tmp 60) (.int .i64 ((rdL T_sense_row.z G_sense_rows x4812).f0)) rfl KR KR KR ?_; intro ax hax; exact HK _ _ _ hax rfl (Below.refl _ _)
                        · skip
                          intro a wr hn hd HW hs; have ha := hasNil hn hd
                          have ha := ha.add (seeE hs 5 (.int .i64 a1.f3) KR KR)
                          refine yStep ha 62 KR ?_; intro l_ ha HK
                          refine stepp ha 62 (.int .i64 a1.f3) KR KR ?_; intro ax hax; exact HK _ _ _ hax rfl (Below.refl _ _)
                        · skip
                          intro a wr hn hd HW hs; have ha := hasNil hn hd
                          have ha := ha.add (seeE hs 9 (.pointer (some ⟨b4826, 0, none⟩)) KR KR)
                          refine yStep ha 63 KR ?_; intro l_ ha HK
                          refine stepp ha 63 (.pointer (some ⟨b4826, 1, none⟩)) KR KR ?_; intro ax hax; exact HK _ _ _ hax rfl (Below.refl _ _)
                        · skip
                          intro a wr hn hd HW hs; have ha := hasNil hn hd
                          have ha := ha.add (seeF hs 63 3 (.pointer (some ⟨b4826, 1, none⟩)) KR KR)
                          refine yStep ha 64 KR ?_; intro l_ ha HK
                          refine stepl ha 64 (HW.ca (i := 1) (b := b4826) (C := #[.int .i64 ((rdL T_sense_row.z G_sense_rows x4812).f0), .int .i64 ((rdL T_sense_row.z G_sense_rows x4812).f1), .int .i64 ((rdL T_sense_row.z G_sense_rows x4812).f2), .int .i64 ((rdL T_sense_row.z G_sense_rows x4812).f3), .int .i64 ((rdL T_sense_row.z G_sense_rows x4812).f4), .int .i64 ((rdL T_sense_row.z G_sense_rows x4812).f5)]) (T := 113) (fr := (0, 0)) KR) 3 1 (.tmp 63) (.int .i64 ((rdL T_sense_row.z G_sense_rows x4812).f1)) rfl KR KR KR ?_; intro ax hax; exact HK _ _ _ hax rfl (Below.refl _ _)
                        · skip
                          intro a wr hn hd HW hs; have ha := hasNil hn hd
                          have ha := ha.add (seeF hs 61 1 (.int .i64 ((rdL T_sense_row.z G_sense_rows x4812).f0)) KR KR)
                          refine yStep ha 4 KR ?_; intro l_ ha HK
                          refine stepp ha 4 (.int .i64 ((rdL T_sense_row.z G_sense_rows x4812).f0)) KR KR ?_; intro ax hax; exact HK _ _ _ hax rfl (Below.refl _ _)
                        · skip
                          intro a wr hn hd HW hs; have ha := hasNil hn hd
                          have ha := ha.add (seeF hs 62 2 (.int .i64 a1.f3) KR KR)
                          refine yStep ha 5 KR ?_; intro l_ ha HK
                          refine stepp ha 5 (.int .i64 a1.f3) KR KR ?_; intro ax hax; exact HK _ _ _ hax rfl (Below.refl _ _)
                      · skip
                        intro a W4860 ha HW he hf
                        replace ha := ha.add (gotF (m := 7) (j := 5) (d := 4) (v := .int .i64 ((rdL T_sense_row.z G_sense_rows x4812).f0)) hf KR KR KR)
                        replace ha := ha.add (gotF (m := 7) (j := 6) (d := 5) (v := .int .i64 a1.f3) hf KR KR KR)
                        replace ha := ha.add (gotF (m := 7) (j := 4) (d := 64) (v := .int .i64 ((rdL T_sense_row.z G_sense_rows x4812).f1)) hf KR KR KR)
                        clear he hf
                        refine stepp ha 6 (.int .i64 ((rdL T_sense_row.z G_sense_rows x4812).f1)) KR KR ?_; clear ha a; intro a ha
                        refine stepp ha 7 (.bool true) KR KR ?_; clear ha a; intro a ha
                        refine endl ?_
                        refine thenN (hK4859 _ _ ?_); clear hK4859
                        refine wp_ret ?_
                        refine blkR ?_
                        refine thenR ?_
                        refine thenR ?_
                        refine blkR ?_
                        refine thenR ?_
                        obtain rfl := Option.some.inj h
                        exact finv ha _ _ rfl (.tmp (v := .int .i64 ((rdL T_sense_row.z G_sense_rows x4812).f0)) KR (.tmp (v := .int .i64 a1.f3) KR (.tmp (v := .int .i64 ((rdL T_sense_row.z G_sense_rows x4812).f1)) KR (.tmp (v := .bool true) KR .nil)))) (.tuple #[.int .i64 ((rdL T_sense_row.z G_sense_rows x4812).f0), .int .i64 a1.f3, .int .i64 ((rdL T_sense_row.z G_sense_rows x4812).f1), .bool true]) rfl ⟨rfl, HW.pick [] [] (by decide) (by decide) rfl KR⟩
                  · skip
                    replace h := ite_neg' h hp4852
                    replace ha := ha.bool 47 KR (bool_f hp4852)
                    refine stepo ha 48 KR ?_; clear ha a; intro a ha
                    refine stepo ha 49 KR ?_; clear ha a; intro a ha
                    refine stepo ha 50 KR ?_; clear ha a; intro a ha
                    refine stepo ha 51 KR ?_; clear ha a; intro a ha
                    refine stepo ha 52 KR ?_; clear ha a; intro a ha
                    refine stepo ha 53 KR ?_; clear ha a; intro a ha
                    refine stepo ha 54 KR ?_; clear ha a; intro a ha
                    refine stepo ha 55 KR ?_; clear ha a; intro a ha
                    refine stepp ha 56 (.bool false) KR KR ?_; clear ha a; intro a ha
                    refine endl ?_
                    refine thenN (hK4850 _ _ ?_); clear hK4850
                    refine condF ha KR KR (t := false) (rfl) ?_
                    refine wp_skip ?_
                    refine blkN ?_
                    refine thenN (hK4822 _ _ ?_); clear hK4822
                    refine wp_region_lit ?_
                    refine stepp ha 65 (.int .i64 (IntKind.wrap .i64 (x4812 + 1))) KR KR ?_; clear ha a; intro a ha
                    refine stepp ha 13 (.int .i64 (IntKind.wrap .i64 (x4812 + 1))) KR KR ?_; clear ha a; intro a ha
                    refine endl ?_
                    exact thenN ⟨k4814, Nat.lt_succ_self k4814, a1.f3, IntKind.wrap .i64 (x4812 + 1), (by rw [← hag4815]; exact h), ha.sub (subs_cons KR (subs_cons KR (subs_cons KR (subs_cons KR (subs_cons KR (subs_nil _)))))), HW.pick [2] [] (by decide) (by decide) KR KR⟩
                · skip
                  replace h := ite_neg' h hp4851
                  replace ha := ha.bool 42 KR (ieq_f hp4851)
                  refine stepo ha 43 KR ?_; clear ha a; intro a ha
                  refine stepo ha 44 KR ?_; clear ha a; intro a ha
                  refine stepo ha 45 KR ?_; clear ha a; intro a ha
                  refine stepp ha 46 (.bool false) KR KR ?_; clear ha a; intro a ha
                  refine stepp ha 47 (.bool false) KR KR ?_; clear ha a; intro a ha
                  refine stepo ha 48 KR ?_; clear ha a; intro a ha
                  refine stepo ha 49 KR ?_; clear ha a; intro a ha
                  refine stepo ha 50 KR ?_; clear ha a; intro a ha
                  refine stepo ha 51 KR ?_; clear ha a; intro a ha
                  refine stepo ha 52 KR ?_; clear ha a; intro a ha
                  refine stepo ha 53 KR ?_; clear ha a; intro a ha
                  refine stepo ha 54 KR ?_; clear ha a; intro a ha
                  refine stepo ha 55 KR ?_; clear ha a; intro a ha
                  refine stepp ha 56 (.bool false) KR KR ?_; clear ha a; intro a ha
                  refine endl ?_
                  refine thenN (hK4850 _ _ ?_); clear hK4850
                  refine condF ha KR KR (t := false) (rfl) ?_
                  refine wp_skip ?_
                  refine blkN ?_
                  refine thenN (hK4822 _ _ ?_); clear hK4822
                  refine wp_region_lit ?_
                  refine stepp ha 65 (.int .i64 (IntKind.wrap .i64 (x4812 + 1))) KR KR ?_; clear ha a; intro a ha
                  refine stepp ha 13 (.int .i64 (IntKind.wrap .i64 (x4812 + 1))) KR KR ?_; clear ha a; intro a ha
                  refine endl ?_
                  exact thenN ⟨k4814, Nat.lt_succ_self k4814, a1.f3, IntKind.wrap .i64 (x4812 + 1), (by rw [← hag4815]; exact h), ha.sub (subs_cons KR (subs_cons KR (subs_cons KR (subs_cons KR (subs_cons KR (subs_nil _)))))), HW.pick [2] [] (by decide) (by decide) KR KR⟩
            · skip
              replace h := ite_neg' h hp4846
              refine condF ha KR KR (t := decide (a1.f3 < 4294967296)) (decide_eq_false hp4846) ?_
              refine wp_skip ?_
              refine thenN (hK4841 _ _ ?_); clear hK4841
              refine wp_seq_k (fun K4861 hK4862 => ?_)
              refine wp_region_lit ?_
              refine stepp ha 38 (.int .i64 a0) KR KR ?_; clear ha a; intro a ha
              refine stepp ha 39 (.pointer (some ⟨b4826, 2, none⟩)) KR KR ?_; clear ha a; intro a ha
              refine stepl ha 40 (HW.ca (i := 1) (b := b4826) (C := #[.int .i64 ((rdL T_sense_row.z G_sense_rows x4812).f0), .int .i64 ((rdL T_sense_row.z G_sense_rows x4812).f1), .int .i64 ((rdL T_sense_row.z G_sense_rows x4812).f2), .int .i64 ((rdL T_sense_row.z G_sense_rows x4812).f3), .int .i64 ((rdL T_sense_row.z G_sense_rows x4812).f4), .int .i64 ((rdL T_sense_row.z G_sense_rows x4812).f5)]) (T := 113) (fr := (0, 0)) KR) 3 2 (.tmp 39) (.int .i64 ((rdL T_sense_row.z G_sense_rows x4812).f2)) rfl KR KR KR ?_; clear ha a; intro a ha
              refine stepp ha 41 (.bool (a0 == ((rdL T_sense_row.z G_sense_rows x4812).f2))) KR KR ?_; clear ha a; intro a ha
              refine stepp ha 42 (.bool (a0 == ((rdL T_sense_row.z G_sense_rows x4812).f2))) KR KR ?_; clear ha a; intro a ha
              by_cases hp4863 : a0 = ((rdL T_sense_row.z G_sense_rows x4812).f2)
              · skip
                replace h := ite_pos' h hp4863
                replace ha := ha.bool 42 KR (ieq_t hp4863)
                refine stepl ha 43 (HW.ca (i := 2) (b := b4642) (C := #[.int .i64 a1.f0, .int .i64 a1.f1, .int .i64 a1.f2, .int .i64 a1.f3]) (T := 66) (fr := (0, 0)) KR) 66 0 (.tmp 3) (.agg #[.int .i64 a1.f0, .int .i64 a1.f1, .int .i64 a1.f2, .int .i64 a1.f3]) rfl KR KR KR ?_; clear ha a; intro a ha
                refine stepl ha 44 (HW.ca (i := 0) (b := b4837) (C := #[.int .i64 t4833.f0, .int .i64 t4833.f1, .int .i64 t4833.f2, .int .i64 t4833.f3]) (T := 66) (fr := (0, 0)) KR) 66 0 (.tmp 11) (.agg #[.int .i64 t4833.f0, .int .i64 t4833.f1, .int .i64 t4833.f2, .int .i64 t4833.f3]) rfl KR KR KR ?_; clear ha a; intro a ha
                refine stepeq ha 45 66 66 (.tmp 43) (.tmp 44) #[.int .i64 a1.f0, .int .i64 a1.f1, .int .i64 a1.f2, .int .i64 a1.f3] #[.int .i64 t4833.f0, .int .i64 t4833.f1, .int .i64 t4833.f2, .int .i64 t4833.f3] (a1.f0 == t4833.f0 && (a1.f1 == t4833.f1 && (a1.f2 == t4833.f2 && (a1.f3 == t4833.f3 && true)))) rfl KR KR KR KR KR KR KR ?_; clear ha a; intro a ha
                refine stepp ha 46 (.bool (a1.f0 == t4833.f0 && (a1.f1 == t4833.f1 && (a1.f2 == t4833.f2 && (a1.f3 == t4833.f3 && true))))) KR KR ?_; clear ha a; intro a ha
                refine stepp ha 47 (.bool (a1.f0 == t4833.f0 && (a1.f1 == t4833.f1 && (a1.f2 == t4833.f2 && (a1.f3 == t4833.f3 && true))))) KR KR ?_; clear ha a; intro a ha
                by_cases hp4864 : (a1.f0 == t4833.f0 && (a1.f1 == t4833.f1 && (a1.f2 == t4833.f2 && (a1.f3 == t4833.f3 && true)))) = true
                · skip
                  replace h := ite_pos' h hp4864
                  replace ha := ha.bool 47 KR (hp4864)
                  refine stepp ha 48 (.pointer (some ⟨b4826, 0, none⟩)) KR KR ?_; clear ha a; intro a ha
                  refine stepl ha 49 (HW.ca (i := 1) (b := b4826) (C := #[.int .i64 ((rdL T_sense_row.z G_sense_rows x4812).f0), .int .i64 ((rdL T_sense_row.z G_sense_rows x4812).f1), .int .i64 ((rdL T_sense_row.z G_sense_rows x4812).f2), .int .i64 ((rdL T_sense_row.z G_sense_rows x4812).f3), .int .i64 ((rdL T_sense_row.z G_sense_rows x4812).f4), .int .i64 ((rdL T_sense_row.z G_sense_rows x4812).f5)]) (T := 113) (fr := (0, 0)) KR) 3 0 (.tmp 48) (.int .i64 ((rdL T_sense_row.z G_sense_rows x4812).f0)) rfl KR KR KR ?_; clear ha a; intro a ha
                  refine stepp ha 50 (.bool (((rdL T_sense_row.z G_sense_rows x4812).f0) != 3)) KR KR ?_; clear ha a; intro a ha
                  refine stepp ha 51 (.bool (((rdL T_sense_row.z G_sense_rows x4812).f0) != 3)) KR KR ?_; clear ha a; intro a ha
                  replace ha := ha.bool 51 KR (ineq_f hp4844)
                  refine stepp ha 52 (.pointer (some ⟨b4642, 3, none⟩)) KR KR ?_; clear ha a; intro a ha
                  refine stepl ha 53 (HW.ca (i := 2) (b := b4642) (C := #[.int .i64 a1.f0, .int .i64 a1.f1, .int .i64 a1.f2, .int .i64 a1.f3]) (T := 66) (fr := (0, 0)) KR) 3 3 (.tmp 52) (.int .i64 a1.f3) rfl KR KR KR ?_; clear ha a; intro a ha
                  refine stepp ha 54 (.bool (a1.f3 != (-1))) KR KR ?_; clear ha a; intro a ha
                  refine stepp ha 55 (.bool (a1.f3 != (-1))) KR KR ?_; clear ha a; intro a ha
                  refine stepp ha 56 (.bool (a1.f3 != (-1))) KR KR ?_; clear ha a; intro a ha
                  refine endl ?_
                  refine thenN (hK4862 _ _ ?_); clear hK4862
                  by_cases hp4865 : a1.f3 = (-1)
                  · skip
                    replace h := ite_pos' h hp4865
                    refine condF ha KR KR (t := (a1.f3 != (-1))) (ineq_f hp4865) ?_
                    refine wp_skip ?_
                    refine blkN ?_
                    refine thenN (hK4822 _ _ ?_); clear hK4822
                    refine wp_region_lit ?_
                    refine stepp ha 65 (.int .i64 (IntKind.wrap .i64 (x4812 + 1))) KR KR ?_; clear ha a; intro a ha
                    refine stepp ha 13 (.int .i64 (IntKind.wrap .i64 (x4812 + 1))) KR KR ?_; clear ha a; intro a ha
                    refine endl ?_
                    exact thenN ⟨k4814, Nat.lt_succ_self k4814, x4811, IntKind.wrap .i64 (x4812 + 1), (by rw [← hag4815]; exact h), ha.sub (subs_cons KR (subs_cons KR (subs_cons KR (subs_cons KR (subs_cons KR (subs_nil _)))))), HW.pick [2] [] (by decide) (by decide) KR KR⟩
                  · skip
                    replace h := ite_neg' h hp4865
                    refine condT ha KR KR (t := (a1.f3 != (-1))) (ineq_t hp4865) ?_
                    refine wp_seq_k (fun K4866 hK4867 => ?_)
                    refine wp_seq_k (fun K4868 hK4869 => ?_)
                    refine wp_region_lit ?_
                    refine stepp ha 57 (.pointer (some ⟨b4826, 0, none⟩)) KR KR ?_; clear ha a; intro a ha
                    refine stepl ha 58 (HW.ca (i := 1) (b := b4826) (C := #[.int .i64 ((rdL T_sense_row.z G_sense_rows x4812).f0), .int .i64 ((rdL T_sense_row.z G_sense_rows x4812).f1), .int .i64 ((rdL T_sense_row.z G_sense_rows x4812).f2), .int .i64 ((rdL T_sense_row.z G_sense_rows x4812).f3), .int .i64 ((rdL T_sense_row.z G_sense_rows x4812).f4), .int .i64 ((rdL T_sense_row.z G_sense_rows x4812).f5)]) (T := 113) (fr := (0, 0)) KR) 3 0 (.tmp 57) (.int .i64 ((rdL T_sense_row.z G_sense_rows x4812).f0)) rfl KR KR KR ?_; clear ha a; intro a ha
                    refine stepp ha 59 (.bool (((rdL T_sense_row.z G_sense_rows x4812).f0) != 3)) KR KR ?_; clear ha a; intro a ha
                    refine endl ?_
                    refine thenN (hK4869 _ _ ?_); clear hK4869
                    refine condF ha KR KR (t := (((rdL T_sense_row.z G_sense_rows x4812).f0) != 3)) (ineq_f hp4844) ?_
                    refine wp_skip ?_
                    refine thenN (hK4867 _ _ ?_); clear hK4867
                    refine wp_seq_k (fun K4870 hK4871 => ?_)
                    refine regionG 7 KR KR ha HW [.fix (.pointer (some ⟨b4826, 0, none⟩)), .fix (.int .i64 ((rdL T_sense_row.z G_sense_rows x4812).f0)), .fix (.int .i64 x4811), .fix (.pointer (some ⟨b4826, 1, none⟩)), .fix (.int .i64 ((rdL T_sense_row.z G_sense_rows x4812).f1)), .fix (.int .i64 ((rdL T_sense_row.z G_sense_rows x4812).f0)), .fix (.int .i64 x4811)] ?_ ?_
                    · skip
                      refine ⟨?_, ?_, ?_, ?_, ?_, ?_, ?_, trivial⟩
                      · skip
                        intro a wr hn hd HW hs; have ha := hasNil hn hd
                        have ha := ha.add (seeE hs 9 (.pointer (some ⟨b4826, 0, none⟩)) KR KR)
                        refine yStep ha 60 KR ?_; intro l_ ha HK
                        refine stepp ha 60 (.pointer (some ⟨b4826, 0, none⟩)) KR KR ?_; intro ax hax; exact HK _ _ _ hax rfl (Below.refl _ _)
                      · skip
                        intro a wr hn hd HW hs; have ha := hasNil hn hd
                        have ha := ha.add (seeF hs 60 0 (.pointer (some ⟨b4826, 0, none⟩)) KR KR)
                        refine yStep ha 61 KR ?_; intro l_ ha HK
                        refine stepl ha 61 (HW.ca (i := 1) (b := b4826) (C := #[.int .i64 ((rdL T_sense_row.z G_sense_rows x4812).f0), .int .i64 ((rdL T_sense_row.z G_sense_rows x4812).f1), .int .i64 ((rdL T_sense_row.z G_sense_rows x4812).f2), .int .i64 ((rdL T_sense_row.z G_sense_rows x4812).f3), .int .i64 ((rdL T_sense_row.z G_sense_rows x4812).f4), .int .i64 ((rdL T_sense_row.z G_sense_rows x4812).f5)]) (T := 113) (fr := (0, 0)) KR) 3 0 (.tmp 60) (.int .i64 ((rdL T_sense_row.z G_sense_rows x4812).f0)) rfl KR KR KR ?_; intro ax hax; exact HK _ _ _ hax rfl (Below.refl _ _)
                      · skip
                        intro a wr hn hd HW hs; have ha := hasNil hn hd
                        have ha := ha.add (seeE hs 5 (.int .i64 x4811) KR KR)
                        refine yStep ha 62 KR ?_; intro l_ ha HK
                        refine stepp ha 62 (.int .i64 x4811) KR KR ?_; intro ax hax; exact HK _ _ _ hax rfl (Below.refl _ _)
                      · skip
                        intro a wr hn hd HW hs; have ha := hasNil hn hd
                        have ha := ha.add (seeE hs 9 (.pointer (some ⟨b4826, 0, none⟩)) KR KR)
                        refine yStep ha 63 KR ?_; intro l_ ha HK
                        refine stepp ha 63 (.pointer (some ⟨b4826, 1, none⟩)) KR KR ?_; intro ax hax; exact HK _ _ _ hax rfl (Below.refl _ _)
                      · skip
                        intro a wr hn hd HW hs; have ha := hasNil hn hd
                        have ha := ha.add (seeF hs 63 3 (.pointer (some ⟨b4826, 1, none⟩)) KR KR)
                        refine yStep ha 64 KR ?_; intro l_ ha HK
                        refine stepl ha 64 (HW.ca (i := 1) (b := b4826) (C := #[.int .i64 ((rdL T_sense_row.z G_sense_rows x4812).f0), .int .i64 ((rdL T_sense_row.z G_sense_rows x4812).f1), .int .i64 ((rdL T_sense_row.z G_sense_rows x4812).f2), .int .i64 ((rdL T_sense_row.z G_sense_rows x4812).f3), .int .i64 ((rdL T_sense_row.z G_sense_rows x4812).f4), .int .i64 ((rdL T_sense_row.z G_sense_rows x4812).f5)]) (T := 113) (fr := (0, 0)) KR) 3 1 (.tmp 63) (.int .i64 ((rdL T_sense_row.z G_sense_rows x4812).f1)) rfl KR KR KR ?_; intro ax hax; exact HK _ _ _ hax rfl (Below.refl _ _)
                      · skip
                        intro a wr hn hd HW hs; have ha := hasNil hn hd
                        have ha := ha.add (seeF hs 61 1 (.int .i64 ((rdL T_sense_row.z G_sense_rows x4812).f0)) KR KR)
                        refine yStep ha 4 KR ?_; intro l_ ha HK
                        refine stepp ha 4 (.int .i64 ((rdL T_sense_row.z G_sense_rows x4812).f0)) KR KR ?_; intro ax hax; exact HK _ _ _ hax rfl (Below.refl _ _)
                      · skip
                        intro a wr hn hd HW hs; have ha := hasNil hn hd
                        have ha := ha.add (seeF hs 62 2 (.int .i64 x4811) KR KR)
                        refine yStep ha 5 KR ?_; intro l_ ha HK
                        refine stepp ha 5 (.int .i64 x4811) KR KR ?_; intro ax hax; exact HK _ _ _ hax rfl (Below.refl _ _)
                    · skip
                      intro a W4872 ha HW he hf
                      replace ha := ha.add (gotF (m := 7) (j := 5) (d := 4) (v := .int .i64 ((rdL T_sense_row.z G_sense_rows x4812).f0)) hf KR KR KR)
                      replace ha := ha.add (gotF (m := 7) (j := 6) (d := 5) (v := .int .i64 x4811) hf KR KR KR)
                      replace ha := ha.add (gotF (m := 7) (j := 4) (d := 64) (v := .int .i64 ((rdL T_sense_row.z G_sense_rows x4812).f1)) hf KR KR KR)
                      clear he hf
                      refine stepp ha 6 (.int .i64 ((rdL T_sense_row.z G_sense_rows x4812).f1)) KR KR ?_; clear ha a; intro a ha
                      refine stepp ha 7 (.bool true) KR KR ?_; clear ha a; intro a ha
                      refine endl ?_
                      refine thenN (hK4871 _ _ ?_); clear hK4871
                      refine wp_ret ?_
                      refine blkR ?_
                      refine thenR ?_
                      refine thenR ?_
                      refine blkR ?_
                      refine thenR ?_
                      obtain rfl := Option.some.inj h
                      exact finv ha _ _ rfl (.tmp (v := .int .i64 ((rdL T_sense_row.z G_sense_rows x4812).f0)) KR (.tmp (v := .int .i64 x4811) KR (.tmp (v := .int .i64 ((rdL T_sense_row.z G_sense_rows x4812).f1)) KR (.tmp (v := .bool true) KR .nil)))) (.tuple #[.int .i64 ((rdL T_sense_row.z G_sense_rows x4812).f0), .int .i64 x4811, .int .i64 ((rdL T_sense_row.z G_sense_rows x4812).f1), .bool true]) rfl ⟨rfl, HW.pick [] [] (by decide) (by decide) rfl KR⟩
                · skip
                  replace h := ite_neg' h hp4864
                  replace ha := ha.bool 47 KR (bool_f hp4864)
                  refine stepo ha 48 KR ?_; clear ha a; intro a ha
                  refine stepo ha 49 KR ?_; clear ha a; intro a ha
                  refine stepo ha 50 KR ?_; clear ha a; intro a ha
                  refine stepo ha 51 KR ?_; clear ha a; intro a ha
                  refine stepo ha 52 KR ?_; clear ha a; intro a ha
                  refine stepo ha 53 KR ?_; clear ha a; intro a ha
                  refine stepo ha 54 KR ?_; clear ha a; intro a ha
                  refine stepo ha 55 KR ?_; clear ha a; intro a ha
                  refine stepp ha 56 (.bool false) KR KR ?_; clear ha a; intro a ha
                  refine endl ?_
                  refine thenN (hK4862 _ _ ?_); clear hK4862
                  refine condF ha KR KR (t := false) (rfl) ?_
                  refine wp_skip ?_
                  refine blkN ?_
                  refine thenN (hK4822 _ _ ?_); clear hK4822
                  refine wp_region_lit ?_
                  refine stepp ha 65 (.int .i64 (IntKind.wrap .i64 (x4812 + 1))) KR KR ?_; clear ha a; intro a ha
                  refine stepp ha 13 (.int .i64 (IntKind.wrap .i64 (x4812 + 1))) KR KR ?_; clear ha a; intro a ha
                  refine endl ?_
                  exact thenN ⟨k4814, Nat.lt_succ_self k4814, x4811, IntKind.wrap .i64 (x4812 + 1), (by rw [← hag4815]; exact h), ha.sub (subs_cons KR (subs_cons KR (subs_cons KR (subs_cons KR (subs_cons KR (subs_nil _)))))), HW.pick [2] [] (by decide) (by decide) KR KR⟩
              · skip
                replace h := ite_neg' h hp4863
                replace ha := ha.bool 42 KR (ieq_f hp4863)
                refine stepo ha 43 KR ?_; clear ha a; intro a ha
                refine stepo ha 44 KR ?_; clear ha a; intro a ha
                refine stepo ha 45 KR ?_; clear ha a; intro a ha
                refine stepp ha 46 (.bool false) KR KR ?_; clear ha a; intro a ha
                refine stepp ha 47 (.bool false) KR KR ?_; clear ha a; intro a ha
                refine stepo ha 48 KR ?_; clear ha a; intro a ha
                refine stepo ha 49 KR ?_; clear ha a; intro a ha
                refine stepo ha 50 KR ?_; clear ha a; intro a ha
                refine stepo ha 51 KR ?_; clear ha a; intro a ha
                refine stepo ha 52 KR ?_; clear ha a; intro a ha
                refine stepo ha 53 KR ?_; clear ha a; intro a ha
                refine stepo ha 54 KR ?_; clear ha a; intro a ha
                refine stepo ha 55 KR ?_; clear ha a; intro a ha
                refine stepp ha 56 (.bool false) KR KR ?_; clear ha a; intro a ha
                refine endl ?_
                refine thenN (hK4862 _ _ ?_); clear hK4862
                refine condF ha KR KR (t := false) (rfl) ?_
                refine wp_skip ?_
                refine blkN ?_
                refine thenN (hK4822 _ _ ?_); clear hK4822
                refine wp_region_lit ?_
                refine stepp ha 65 (.int .i64 (IntKind.wrap .i64 (x4812 + 1))) KR KR ?_; clear ha a; intro a ha
                refine stepp ha 13 (.int .i64 (IntKind.wrap .i64 (x4812 + 1))) KR KR ?_; clear ha a; intro a ha
                refine endl ?_
                exact thenN ⟨k4814, Nat.lt_succ_self k4814, x4811, IntKind.wrap .i64 (x4812 + 1), (by rw [← hag4815]; exact h), ha.sub (subs_cons KR (subs_cons KR (subs_cons KR (subs_cons KR (subs_cons KR (subs_nil _)))))), HW.pick [2] [] (by decide) (by decide) KR KR⟩
          · skip
            replace h := ite_neg' h hp4845
            replace ha := ha.bool 28 KR (decide_eq_false hp4845)
            refine stepo ha 29 KR ?_; clear ha a; intro a ha
            refine stepo ha 30 KR ?_; clear ha a; intro a ha
            refine stepo ha 31 KR ?_; clear ha a; intro a ha
            refine stepp ha 32 (.bool false) KR KR ?_; clear ha a; intro a ha
            refine endl ?_
            refine thenN (hK4843 _ _ ?_); clear hK4843
            refine condF ha KR KR (t := false) (rfl) ?_
            refine wp_skip ?_
            refine thenN (hK4841 _ _ ?_); clear hK4841
            refine wp_seq_k (fun K4873 hK4874 => ?_)
            refine wp_region_lit ?_
            refine stepp ha 38 (.int .i64 a0) KR KR ?_; clear ha a; intro a ha
            refine stepp ha 39 (.pointer (some ⟨b4826, 2, none⟩)) KR KR ?_; clear ha a; intro a ha
            refine stepl ha 40 (HW.ca (i := 1) (b := b4826) (C := #[.int .i64 ((rdL T_sense_row.z G_sense_rows x4812).f0), .int .i64 ((rdL T_sense_row.z G_sense_rows x4812).f1), .int .i64 ((rdL T_sense_row.z G_sense_rows x4812).f2), .int .i64 ((rdL T_sense_row.z G_sense_rows x4812).f3), .int .i64 ((rdL T_sense_row.z G_sense_rows x4812).f4), .int .i64 ((rdL T_sense_row.z G_sense_rows x4812).f5)]) (T := 113) (fr := (0, 0)) KR) 3 2 (.tmp 39) (.int .i64 ((rdL T_sense_row.z G_sense_rows x4812).f2)) rfl KR KR KR ?_; clear ha a; intro a ha
            refine stepp ha 41 (.bool (a0 == ((rdL T_sense_row.z G_sense_rows x4812).f2))) KR KR ?_; clear ha a; intro a ha
            refine stepp ha 42 (.bool (a0 == ((rdL T_sense_row.z G_sense_rows x4812).f2))) KR KR ?_; clear ha a; intro a ha
            by_cases hp4875 : a0 = ((rdL T_sense_row.z G_sense_rows x4812).f2)
            · skip
              replace h := ite_pos' h hp4875
              replace ha := ha.bool 42 KR (ieq_t hp4875)
              refine stepl ha 43 (HW.ca (i := 2) (b := b4642) (C := #[.int .i64 a1.f0, .int .i64 a1.f1, .int .i64 a1.f2, .int .i64 a1.f3]) (T := 66) (fr := (0, 0)) KR) 66 0 (.tmp 3) (.agg #[.int .i64 a1.f0, .int .i64 a1.f1, .int .i64 a1.f2, .int .i64 a1.f3]) rfl KR KR KR ?_; clear ha a; intro a ha
              refine stepl ha 44 (HW.ca (i := 0) (b := b4837) (C := #[.int .i64 t4833.f0, .int .i64 t4833.f1, .int .i64 t4833.f2, .int .i64 t4833.f3]) (T := 66) (fr := (0, 0)) KR) 66 0 (.tmp 11) (.agg #[.int .i64 t4833.f0, .int .i64 t4833.f1, .int .i64 t4833.f2, .int .i64 t4833.f3]) rfl KR KR KR ?_; clear ha a; intro a ha
              refine stepeq ha 45 66 66 (.tmp 43) (.tmp 44) #[.int .i64 a1.f0, .int .i64 a1.f1, .int .i64 a1.f2, .int .i64 a1.f3] #[.int .i64 t4833.f0, .int .i64 t4833.f1, .int .i64 t4833.f2, .int .i64 t4833.f3] (a1.f0 == t4833.f0 && (a1.f1 == t4833.f1 && (a1.f2 == t4833.f2 && (a1.f3 == t4833.f3 && true)))) rfl KR KR KR KR KR KR KR ?_; clear ha a; intro a ha
              refine stepp ha 46 (.bool (a1.f0 == t4833.f0 && (a1.f1 == t4833.f1 && (a1.f2 == t4833.f2 && (a1.f3 == t4833.f3 && true))))) KR KR ?_; clear ha a; intro a ha
              refine stepp ha 47 (.bool (a1.f0 == t4833.f0 && (a1.f1 == t4833.f1 && (a1.f2 == t4833.f2 && (a1.f3 == t4833.f3 && true))))) KR KR ?_; clear ha a; intro a ha
              by_cases hp4876 : (a1.f0 == t4833.f0 && (a1.f1 == t4833.f1 && (a1.f2 == t4833.f2 && (a1.f3 == t4833.f3 && true)))) = true
              · skip
                replace h := ite_pos' h hp4876
                replace ha := ha.bool 47 KR (hp4876)
                refine stepp ha 48 (.pointer (some ⟨b4826, 0, none⟩)) KR KR ?_; clear ha a; intro a ha
                refine stepl ha 49 (HW.ca (i := 1) (b := b4826) (C := #[.int .i64 ((rdL T_sense_row.z G_sense_rows x4812).f0), .int .i64 ((rdL T_sense_row.z G_sense_rows x4812).f1), .int .i64 ((rdL T_sense_row.z G_sense_rows x4812).f2), .int .i64 ((rdL T_sense_row.z G_sense_rows x4812).f3), .int .i64 ((rdL T_sense_row.z G_sense_rows x4812).f4), .int .i64 ((rdL T_sense_row.z G_sense_rows x4812).f5)]) (T := 113) (fr := (0, 0)) KR) 3 0 (.tmp 48) (.int .i64 ((rdL T_sense_row.z G_sense_rows x4812).f0)) rfl KR KR KR ?_; clear ha a; intro a ha
                refine stepp ha 50 (.bool (((rdL T_sense_row.z G_sense_rows x4812).f0) != 3)) KR KR ?_; clear ha a; intro a ha
                refine stepp ha 51 (.bool (((rdL T_sense_row.z G_sense_rows x4812).f0) != 3)) KR KR ?_; clear ha a; intro a ha
                replace ha := ha.bool 51 KR (ineq_f hp4844)
                refine stepp ha 52 (.pointer (some ⟨b4642, 3, none⟩)) KR KR ?_; clear ha a; intro a ha
                refine stepl ha 53 (HW.ca (i := 2) (b := b4642) (C := #[.int .i64 a1.f0, .int .i64 a1.f1, .int .i64 a1.f2, .int .i64 a1.f3]) (T := 66) (fr := (0, 0)) KR) 3 3 (.tmp 52) (.int .i64 a1.f3) rfl KR KR KR ?_; clear ha a; intro a ha
                refine stepp ha 54 (.bool (a1.f3 != (-1))) KR KR ?_; clear ha a; intro a ha
                refine stepp ha 55 (.bool (a1.f3 != (-1))) KR KR ?_; clear ha a; intro a ha
                refine stepp ha 56 (.bool (a1.f3 != (-1))) KR KR ?_; clear ha a; intro a ha
                refine endl ?_
                refine thenN (hK4874 _ _ ?_); clear hK4874
                by_cases hp4877 : a1.f3 = (-1)
                · skip
                  replace h := ite_pos' h hp4877
                  refine condF ha KR KR (t := (a1.f3 != (-1))) (ineq_f hp4877) ?_
                  refine wp_skip ?_
                  refine blkN ?_
                  refine thenN (hK4822 _ _ ?_); clear hK4822
                  refine wp_region_lit ?_
                  refine stepp ha 65 (.int .i64 (IntKind.wrap .i64 (x4812 + 1))) KR KR ?_; clear ha a; intro a ha
                  refine stepp ha 13 (.int .i64 (IntKind.wrap .i64 (x4812 + 1))) KR KR ?_; clear ha a; intro a ha
                  refine endl ?_
                  exact thenN ⟨k4814, Nat.lt_succ_self k4814, x4811, IntKind.wrap .i64 (x4812 + 1), (by rw [← hag4815]; exact h), ha.sub (subs_cons KR (subs_cons KR (subs_cons KR (subs_cons KR (subs_cons KR (subs_nil _)))))), HW.pick [2] [] (by decide) (by decide) KR KR⟩
                · skip
                  replace h := ite_neg' h hp4877
                  refine condT ha KR KR (t := (a1.f3 != (-1))) (ineq_t hp4877) ?_
                  refine wp_seq_k (fun K4878 hK4879 => ?_)
                  refine wp_seq_k (fun K4880 hK4881 => ?_)
                  refine wp_region_lit ?_
                  refine stepp ha 57 (.pointer (some ⟨b4826, 0, none⟩)) KR KR ?_; clear ha a; intro a ha
                  refine stepl ha 58 (HW.ca (i := 1) (b := b4826) (C := #[.int .i64 ((rdL T_sense_row.z G_sense_rows x4812).f0), .int .i64 ((rdL T_sense_row.z G_sense_rows x4812).f1), .int .i64 ((rdL T_sense_row.z G_sense_rows x4812).f2), .int .i64 ((rdL T_sense_row.z G_sense_rows x4812).f3), .int .i64 ((rdL T_sense_row.z G_sense_rows x4812).f4), .int .i64 ((rdL T_sense_row.z G_sense_rows x4812).f5)]) (T := 113) (fr := (0, 0)) KR) 3 0 (.tmp 57) (.int .i64 ((rdL T_sense_row.z G_sense_rows x4812).f0)) rfl KR KR KR ?_; clear ha a; intro a ha
                  refine stepp ha 59 (.bool (((rdL T_sense_row.z G_sense_rows x4812).f0) != 3)) KR KR ?_; clear ha a; intro a ha
                  refine endl ?_
                  refine thenN (hK4881 _ _ ?_); clear hK4881
                  refine condF ha KR KR (t := (((rdL T_sense_row.z G_sense_rows x4812).f0) != 3)) (ineq_f hp4844) ?_
                  refine wp_skip ?_
                  refine thenN (hK4879 _ _ ?_); clear hK4879
                  refine wp_seq_k (fun K4882 hK4883 => ?_)
                  refine regionG 7 KR KR ha HW [.fix (.pointer (some ⟨b4826, 0, none⟩)), .fix (.int .i64 ((rdL T_sense_row.z G_sense_rows x4812).f0)), .fix (.int .i64 x4811), .fix (.pointer (some ⟨b4826, 1, none⟩)), .fix (.int .i64 ((rdL T_sense_row.z G_sense_rows x4812).f1)), .fix (.int .i64 ((rdL T_sense_row.z G_sense_rows x4812).f0)), .fix (.int .i64 x4811)] ?_ ?_
                  · skip
                    refine ⟨?_, ?_, ?_, ?_, ?_, ?_, ?_, trivial⟩
                    · skip
                      intro a wr hn hd HW hs; have ha := hasNil hn hd
                      have ha := ha.add (seeE hs 9 (.pointer (some ⟨b4826, 0, none⟩)) KR KR)
                      refine yStep ha 60 KR ?_; intro l_ ha HK
                      refine stepp ha 60 (.pointer (some ⟨b4826, 0, none⟩)) KR KR ?_; intro ax hax; exact HK _ _ _ hax rfl (Below.refl _ _)
                    · skip
                      intro a wr hn hd HW hs; have ha := hasNil hn hd
                      have ha := ha.add (seeF hs 60 0 (.pointer (some ⟨b4826, 0, none⟩)) KR KR)
                      refine yStep ha 61 KR ?_; intro l_ ha HK
                      refine stepl ha 61 (HW.ca (i := 1) (b := b4826) (C := #[.int .i64 ((rdL T_sense_row.z G_sense_rows x4812).f0), .int .i64 ((rdL T_sense_row.z G_sense_rows x4812).f1), .int .i64 ((rdL T_sense_row.z G_sense_rows x4812).f2), .int .i64 ((rdL T_sense_row.z G_sense_rows x4812).f3), .int .i64 ((rdL T_sense_row.z G_sense_rows x4812).f4), .int .i64 ((rdL T_sense_row.z G_sense_rows x4812).f5)]) (T := 113) (fr := (0, 0)) KR) 3 0 (.tmp 60) (.int .i64 ((rdL T_sense_row.z G_sense_rows x4812).f0)) rfl KR KR KR ?_; intro ax hax; exact HK _ _ _ hax rfl (Below.refl _ _)
                    · skip
                      intro a wr hn hd HW hs; have ha := hasNil hn hd
                      have ha := ha.add (seeE hs 5 (.int .i64 x4811) KR KR)
                      refine yStep ha 62 KR ?_; intro l_ ha HK
                      refine stepp ha 62 (.int .i64 x4811) KR KR ?_; intro ax hax; exact HK _ _ _ hax rfl (Below.refl _ _)
                    · skip
                      intro a wr hn hd HW hs; have ha := hasNil hn hd
                      have ha := ha.add (seeE hs 9 (.pointer (some ⟨b4826, 0, none⟩)) KR KR)
                      refine yStep ha 63 KR ?_; intro l_ ha HK
                      refine stepp ha 63 (.pointer (some ⟨b4826, 1, none⟩)) KR KR ?_; intro ax hax; exact HK _ _ _ hax rfl (Below.refl _ _)
                    · skip
                      intro a wr hn hd HW hs; have ha := hasNil hn hd
                      have ha := ha.add (seeF hs 63 3 (.pointer (some ⟨b4826, 1, none⟩)) KR KR)
                      refine yStep ha 64 KR ?_; intro l_ ha HK
                      refine stepl ha 64 (HW.ca (i := 1) (b := b4826) (C := #[.int .i64 ((rdL T_sense_row.z G_sense_rows x4812).f0), .int .i64 ((rdL T_sense_row.z G_sense_rows x4812).f1), .int .i64 ((rdL T_sense_row.z G_sense_rows x4812).f2), .int .i64 ((rdL T_sense_row.z G_sense_rows x4812).f3), .int .i64 ((rdL T_sense_row.z G_sense_rows x4812).f4), .int .i64 ((rdL T_sense_row.z G_sense_rows x4812).f5)]) (T := 113) (fr := (0, 0)) KR) 3 1 (.tmp 63) (.int .i64 ((rdL T_sense_row.z G_sense_rows x4812).f1)) rfl KR KR KR ?_; intro ax hax; exact HK _ _ _ hax rfl (Below.refl _ _)
                    · skip
                      intro a wr hn hd HW hs; have ha := hasNil hn hd
                      have ha := ha.add (seeF hs 61 1 (.int .i64 ((rdL T_sense_row.z G_sense_rows x4812).f0)) KR KR)
                      refine yStep ha 4 KR ?_; intro l_ ha HK
                      refine stepp ha 4 (.int .i64 ((rdL T_sense_row.z G_sense_rows x4812).f0)) KR KR ?_; intro ax hax; exact HK _ _ _ hax rfl (Below.refl _ _)
                    · skip
                      intro a wr hn hd HW hs; have ha := hasNil hn hd
                      have ha := ha.add (seeF hs 62 2 (.int .i64 x4811) KR KR)
                      refine yStep ha 5 KR ?_; intro l_ ha HK
                      refine stepp ha 5 (.int .i64 x4811) KR KR ?_; intro ax hax; exact HK _ _ _ hax rfl (Below.refl _ _)
                  · skip
                    intro a W4884 ha HW he hf
                    replace ha := ha.add (gotF (m := 7) (j := 5) (d := 4) (v := .int .i64 ((rdL T_sense_row.z G_sense_rows x4812).f0)) hf KR KR KR)
                    replace ha := ha.add (gotF (m := 7) (j := 6) (d := 5) (v := .int .i64 x4811) hf KR KR KR)
                    replace ha := ha.add (gotF (m := 7) (j := 4) (d := 64) (v := .int .i64 ((rdL T_sense_row.z G_sense_rows x4812).f1)) hf KR KR KR)
                    clear he hf
                    refine stepp ha 6 (.int .i64 ((rdL T_sense_row.z G_sense_rows x4812).f1)) KR KR ?_; clear ha a; intro a ha
                    refine stepp ha 7 (.bool true) KR KR ?_; clear ha a; intro a ha
                    refine endl ?_
                    refine thenN (hK4883 _ _ ?_); clear hK4883
                    refine wp_ret ?_
                    refine blkR ?_
                    refine thenR ?_
                    refine thenR ?_
                    refine blkR ?_
                    refine thenR ?_
                    obtain rfl := Option.some.inj h
                    exact finv ha _ _ rfl (.tmp (v := .int .i64 ((rdL T_sense_row.z G_sense_rows x4812).f0)) KR (.tmp (v := .int .i64 x4811) KR (.tmp (v := .int .i64 ((rdL T_sense_row.z G_sense_rows x4812).f1)) KR (.tmp (v := .bool true) KR .nil)))) (.tuple #[.int .i64 ((rdL T_sense_row.z G_sense_rows x4812).f0), .int .i64 x4811, .int .i64 ((rdL T_sense_row.z G_sense_rows x4812).f1), .bool true]) rfl ⟨rfl, HW.pick [] [] (by decide) (by decide) rfl KR⟩
              · skip
                replace h := ite_neg' h hp4876
                replace ha := ha.bool 47 KR (bool_f hp4876)
                refine stepo ha 48 KR ?_; clear ha a; intro a ha
                refine stepo ha 49 KR ?_; clear ha a; intro a ha
                refine stepo ha 50 KR ?_; clear ha a; intro a ha
                refine stepo ha 51 KR ?_; clear ha a; intro a ha
                refine stepo ha 52 KR ?_; clear ha a; intro a ha
                refine stepo ha 53 KR ?_; clear ha a; intro a ha
                refine stepo ha 54 KR ?_; clear ha a; intro a ha
                refine stepo ha 55 KR ?_; clear ha a; intro a ha
                refine stepp ha 56 (.bool false) KR KR ?_; clear ha a; intro a ha
                refine endl ?_
                refine thenN (hK4874 _ _ ?_); clear hK4874
                refine condF ha KR KR (t := false) (rfl) ?_
                refine wp_skip ?_
                refine blkN ?_
                refine thenN (hK4822 _ _ ?_); clear hK4822
                refine wp_region_lit ?_
                refine stepp ha 65 (.int .i64 (IntKind.wrap .i64 (x4812 + 1))) KR KR ?_; clear ha a; intro a ha
                refine stepp ha 13 (.int .i64 (IntKind.wrap .i64 (x4812 + 1))) KR KR ?_; clear ha a; intro a ha
                refine endl ?_
                exact thenN ⟨k4814, Nat.lt_succ_self k4814, x4811, IntKind.wrap .i64 (x4812 + 1), (by rw [← hag4815]; exact h), ha.sub (subs_cons KR (subs_cons KR (subs_cons KR (subs_cons KR (subs_cons KR (subs_nil _)))))), HW.pick [2] [] (by decide) (by decide) KR KR⟩
            · skip
              replace h := ite_neg' h hp4875
              replace ha := ha.bool 42 KR (ieq_f hp4875)
              refine stepo ha 43 KR ?_; clear ha a; intro a ha
              refine stepo ha 44 KR ?_; clear ha a; intro a ha
              refine stepo ha 45 KR ?_; clear ha a; intro a ha
              refine stepp ha 46 (.bool false) KR KR ?_; clear ha a; intro a ha
              refine stepp ha 47 (.bool false) KR KR ?_; clear ha a; intro a ha
              refine stepo ha 48 KR ?_; clear ha a; intro a ha
              refine stepo ha 49 KR ?_; clear ha a; intro a ha
              refine stepo ha 50 KR ?_; clear ha a; intro a ha
              refine stepo ha 51 KR ?_; clear ha a; intro a ha
              refine stepo ha 52 KR ?_; clear ha a; intro a ha
              refine stepo ha 53 KR ?_; clear ha a; intro a ha
              refine stepo ha 54 KR ?_; clear ha a; intro a ha
              refine stepo ha 55 KR ?_; clear ha a; intro a ha
              refine stepp ha 56 (.bool false) KR KR ?_; clear ha a; intro a ha
              refine endl ?_
              refine thenN (hK4874 _ _ ?_); clear hK4874
              refine condF ha KR KR (t := false) (rfl) ?_
              refine wp_skip ?_
              refine blkN ?_
              refine thenN (hK4822 _ _ ?_); clear hK4822
              refine wp_region_lit ?_
              refine stepp ha 65 (.int .i64 (IntKind.wrap .i64 (x4812 + 1))) KR KR ?_; clear ha a; intro a ha
              refine stepp ha 13 (.int .i64 (IntKind.wrap .i64 (x4812 + 1))) KR KR ?_; clear ha a; intro a ha
              refine endl ?_
              exact thenN ⟨k4814, Nat.lt_succ_self k4814, x4811, IntKind.wrap .i64 (x4812 + 1), (by rw [← hag4815]; exact h), ha.sub (subs_cons KR (subs_cons KR (subs_cons KR (subs_cons KR (subs_cons KR (subs_nil _)))))), HW.pick [2] [] (by decide) (by decide) KR KR⟩
        · skip
          replace h := ite_neg' h hp4844
          replace ha := ha.bool 23 KR (ieq_f hp4844)
          refine stepo ha 24 KR ?_; clear ha a; intro a ha
          refine stepo ha 25 KR ?_; clear ha a; intro a ha
          refine stepo ha 26 KR ?_; clear ha a; intro a ha
          refine stepp ha 27 (.bool false) KR KR ?_; clear ha a; intro a ha
          refine stepp ha 28 (.bool false) KR KR ?_; clear ha a; intro a ha
          refine stepo ha 29 KR ?_; clear ha a; intro a ha
          refine stepo ha 30 KR ?_; clear ha a; intro a ha
          refine stepo ha 31 KR ?_; clear ha a; intro a ha
          refine stepp ha 32 (.bool false) KR KR ?_; clear ha a; intro a ha
          refine endl ?_
          refine thenN (hK4843 _ _ ?_); clear hK4843
          refine condF ha KR KR (t := false) (rfl) ?_
          refine wp_skip ?_
          refine thenN (hK4841 _ _ ?_); clear hK4841
          refine wp_seq_k (fun K4885 hK4886 => ?_)
          refine wp_region_lit ?_
          refine stepp ha 38 (.int .i64 a0) KR KR ?_; clear ha a; intro a ha
          refine stepp ha 39 (.pointer (some ⟨b4826, 2, none⟩)) KR KR ?_; clear ha a; intro a ha
          refine stepl ha 40 (HW.ca (i := 1) (b := b4826) (C := #[.int .i64 ((rdL T_sense_row.z G_sense_rows x4812).f0), .int .i64 ((rdL T_sense_row.z G_sense_rows x4812).f1), .int .i64 ((rdL T_sense_row.z G_sense_rows x4812).f2), .int .i64 ((rdL T_sense_row.z G_sense_rows x4812).f3), .int .i64 ((rdL T_sense_row.z G_sense_rows x4812).f4), .int .i64 ((rdL T_sense_row.z G_sense_rows x4812).f5)]) (T := 113) (fr := (0, 0)) KR) 3 2 (.tmp 39) (.int .i64 ((rdL T_sense_row.z G_sense_rows x4812).f2)) rfl KR KR KR ?_; clear ha a; intro a ha
          refine stepp ha 41 (.bool (a0 == ((rdL T_sense_row.z G_sense_rows x4812).f2))) KR KR ?_; clear ha a; intro a ha
          refine stepp ha 42 (.bool (a0 == ((rdL T_sense_row.z G_sense_rows x4812).f2))) KR KR ?_; clear ha a; intro a ha
          by_cases hp4887 : a0 = ((rdL T_sense_row.z G_sense_rows x4812).f2)
          · skip
            replace h := ite_pos' h hp4887
            replace ha := ha.bool 42 KR (ieq_t hp4887)
            refine stepl ha 43 (HW.ca (i := 2) (b := b4642) (C := #[.int .i64 a1.f0, .int .i64 a1.f1, .int .i64 a1.f2, .int .i64 a1.f3]) (T := 66) (fr := (0, 0)) KR) 66 0 (.tmp 3) (.agg #[.int .i64 a1.f0, .int .i64 a1.f1, .int .i64 a1.f2, .int .i64 a1.f3]) rfl KR KR KR ?_; clear ha a; intro a ha
            refine stepl ha 44 (HW.ca (i := 0) (b := b4837) (C := #[.int .i64 t4833.f0, .int .i64 t4833.f1, .int .i64 t4833.f2, .int .i64 t4833.f3]) (T := 66) (fr := (0, 0)) KR) 66 0 (.tmp 11) (.agg #[.int .i64 t4833.f0, .int .i64 t4833.f1, .int .i64 t4833.f2, .int .i64 t4833.f3]) rfl KR KR KR ?_; clear ha a; intro a ha
            refine stepeq ha 45 66 66 (.tmp 43) (.tmp 44) #[.int .i64 a1.f0, .int .i64 a1.f1, .int .i64 a1.f2, .int .i64 a1.f3] #[.int .i64 t4833.f0, .int .i64 t4833.f1, .int .i64 t4833.f2, .int .i64 t4833.f3] (a1.f0 == t4833.f0 && (a1.f1 == t4833.f1 && (a1.f2 == t4833.f2 && (a1.f3 == t4833.f3 && true)))) rfl KR KR KR KR KR KR KR ?_; clear ha a; intro a ha
            refine stepp ha 46 (.bool (a1.f0 == t4833.f0 && (a1.f1 == t4833.f1 && (a1.f2 == t4833.f2 && (a1.f3 == t4833.f3 && true))))) KR KR ?_; clear ha a; intro a ha
            refine stepp ha 47 (.bool (a1.f0 == t4833.f0 && (a1.f1 == t4833.f1 && (a1.f2 == t4833.f2 && (a1.f3 == t4833.f3 && true))))) KR KR ?_; clear ha a; intro a ha
            by_cases hp4888 : (a1.f0 == t4833.f0 && (a1.f1 == t4833.f1 && (a1.f2 == t4833.f2 && (a1.f3 == t4833.f3 && true)))) = true
            · skip
              replace h := ite_pos' h hp4888
              replace ha := ha.bool 47 KR (hp4888)
              refine stepp ha 48 (.pointer (some ⟨b4826, 0, none⟩)) KR KR ?_; clear ha a; intro a ha
              refine stepl ha 49 (HW.ca (i := 1) (b := b4826) (C := #[.int .i64 ((rdL T_sense_row.z G_sense_rows x4812).f0), .int .i64 ((rdL T_sense_row.z G_sense_rows x4812).f1), .int .i64 ((rdL T_sense_row.z G_sense_rows x4812).f2), .int .i64 ((rdL T_sense_row.z G_sense_rows x4812).f3), .int .i64 ((rdL T_sense_row.z G_sense_rows x4812).f4), .int .i64 ((rdL T_sense_row.z G_sense_rows x4812).f5)]) (T := 113) (fr := (0, 0)) KR) 3 0 (.tmp 48) (.int .i64 ((rdL T_sense_row.z G_sense_rows x4812).f0)) rfl KR KR KR ?_; clear ha a; intro a ha
              refine stepp ha 50 (.bool (((rdL T_sense_row.z G_sense_rows x4812).f0) != 3)) KR KR ?_; clear ha a; intro a ha
              refine stepp ha 51 (.bool (((rdL T_sense_row.z G_sense_rows x4812).f0) != 3)) KR KR ?_; clear ha a; intro a ha
              replace ha := ha.bool 51 KR (ineq_t hp4844)
              refine stepo ha 52 KR ?_; clear ha a; intro a ha
              refine stepo ha 53 KR ?_; clear ha a; intro a ha
              refine stepo ha 54 KR ?_; clear ha a; intro a ha
              refine stepp ha 55 (.bool true) KR KR ?_; clear ha a; intro a ha
              refine stepp ha 56 (.bool true) KR KR ?_; clear ha a; intro a ha
              refine endl ?_
              refine thenN (hK4886 _ _ ?_); clear hK4886
              refine condT ha KR KR (t := true) (rfl) ?_
              refine wp_seq_k (fun K4889 hK4890 => ?_)
              refine wp_seq_k (fun K4891 hK4892 => ?_)
              refine wp_region_lit ?_
              refine stepp ha 57 (.pointer (some ⟨b4826, 0, none⟩)) KR KR ?_; clear ha a; intro a ha
              refine stepl ha 58 (HW.ca (i := 1) (b := b4826) (C := #[.int .i64 ((rdL T_sense_row.z G_sense_rows x4812).f0), .int .i64 ((rdL T_sense_row.z G_sense_rows x4812).f1), .int .i64 ((rdL T_sense_row.z G_sense_rows x4812).f2), .int .i64 ((rdL T_sense_row.z G_sense_rows x4812).f3), .int .i64 ((rdL T_sense_row.z G_sense_rows x4812).f4), .int .i64 ((rdL T_sense_row.z G_sense_rows x4812).f5)]) (T := 113) (fr := (0, 0)) KR) 3 0 (.tmp 57) (.int .i64 ((rdL T_sense_row.z G_sense_rows x4812).f0)) rfl KR KR KR ?_; clear ha a; intro a ha
              refine stepp ha 59 (.bool (((rdL T_sense_row.z G_sense_rows x4812).f0) != 3)) KR KR ?_; clear ha a; intro a ha
              refine endl ?_
              refine thenN (hK4892 _ _ ?_); clear hK4892
              refine condT ha KR KR (t := (((rdL T_sense_row.z G_sense_rows x4812).f0) != 3)) (ineq_t hp4844) ?_
              refine wp_region_lit ?_
              refine stepp ha 5 (.int .i64 0) KR KR ?_; clear ha a; intro a ha
              refine endl ?_
              refine thenN (hK4890 _ _ ?_); clear hK4890
              refine wp_seq_k (fun K4893 hK4894 => ?_)
              refine regionG 7 KR KR ha HW [.fix (.pointer (some ⟨b4826, 0, none⟩)), .fix (.int .i64 ((rdL T_sense_row.z G_sense_rows x4812).f0)), .fix (.int .i64 0), .fix (.pointer (some ⟨b4826, 1, none⟩)), .fix (.int .i64 ((rdL T_sense_row.z G_sense_rows x4812).f1)), .fix (.int .i64 ((rdL T_sense_row.z G_sense_rows x4812).f0)), .fix (.int .i64 0)] ?_ ?_
              · skip
                refine ⟨?_, ?_, ?_, ?_, ?_, ?_, ?_, trivial⟩
                · skip
                  intro a wr hn hd HW hs; have ha := hasNil hn hd
                  have ha := ha.add (seeE hs 9 (.pointer (some ⟨b4826, 0, none⟩)) KR KR)
                  refine yStep ha 60 KR ?_; intro l_ ha HK
                  refine stepp ha 60 (.pointer (some ⟨b4826, 0, none⟩)) KR KR ?_; intro ax hax; exact HK _ _ _ hax rfl (Below.refl _ _)
                · skip
                  intro a wr hn hd HW hs; have ha := hasNil hn hd
                  have ha := ha.add (seeF hs 60 0 (.pointer (some ⟨b4826, 0, none⟩)) KR KR)
                  refine yStep ha 61 KR ?_; intro l_ ha HK
                  refine stepl ha 61 (HW.ca (i := 1) (b := b4826) (C := #[.int .i64 ((rdL T_sense_row.z G_sense_rows x4812).f0), .int .i64 ((rdL T_sense_row.z G_sense_rows x4812).f1), .int .i64 ((rdL T_sense_row.z G_sense_rows x4812).f2), .int .i64 ((rdL T_sense_row.z G_sense_rows x4812).f3), .int .i64 ((rdL T_sense_row.z G_sense_rows x4812).f4), .int .i64 ((rdL T_sense_row.z G_sense_rows x4812).f5)]) (T := 113) (fr := (0, 0)) KR) 3 0 (.tmp 60) (.int .i64 ((rdL T_sense_row.z G_sense_rows x4812).f0)) rfl KR KR KR ?_; intro ax hax; exact HK _ _ _ hax rfl (Below.refl _ _)
                · skip
                  intro a wr hn hd HW hs; have ha := hasNil hn hd
                  have ha := ha.add (seeE hs 5 (.int .i64 0) KR KR)
                  refine yStep ha 62 KR ?_; intro l_ ha HK
                  refine stepp ha 62 (.int .i64 0) KR KR ?_; intro ax hax; exact HK _ _ _ hax rfl (Below.refl _ _)
                · skip
                  intro a wr hn hd HW hs; have ha := hasNil hn hd
                  have ha := ha.add (seeE hs 9 (.pointer (some ⟨b4826, 0, none⟩)) KR KR)
                  refine yStep ha 63 KR ?_; intro l_ ha HK
                  refine stepp ha 63 (.pointer (some ⟨b4826, 1, none⟩)) KR KR ?_; intro ax hax; exact HK _ _ _ hax rfl (Below.refl _ _)
                · skip
                  intro a wr hn hd HW hs; have ha := hasNil hn hd
                  have ha := ha.add (seeF hs 63 3 (.pointer (some ⟨b4826, 1, none⟩)) KR KR)
                  refine yStep ha 64 KR ?_; intro l_ ha HK
                  refine stepl ha 64 (HW.ca (i := 1) (b := b4826) (C := #[.int .i64 ((rdL T_sense_row.z G_sense_rows x4812).f0), .int .i64 ((rdL T_sense_row.z G_sense_rows x4812).f1), .int .i64 ((rdL T_sense_row.z G_sense_rows x4812).f2), .int .i64 ((rdL T_sense_row.z G_sense_rows x4812).f3), .int .i64 ((rdL T_sense_row.z G_sense_rows x4812).f4), .int .i64 ((rdL T_sense_row.z G_sense_rows x4812).f5)]) (T := 113) (fr := (0, 0)) KR) 3 1 (.tmp 63) (.int .i64 ((rdL T_sense_row.z G_sense_rows x4812).f1)) rfl KR KR KR ?_; intro ax hax; exact HK _ _ _ hax rfl (Below.refl _ _)
                · skip
                  intro a wr hn hd HW hs; have ha := hasNil hn hd
                  have ha := ha.add (seeF hs 61 1 (.int .i64 ((rdL T_sense_row.z G_sense_rows x4812).f0)) KR KR)
                  refine yStep ha 4 KR ?_; intro l_ ha HK
                  refine stepp ha 4 (.int .i64 ((rdL T_sense_row.z G_sense_rows x4812).f0)) KR KR ?_; intro ax hax; exact HK _ _ _ hax rfl (Below.refl _ _)
                · skip
                  intro a wr hn hd HW hs; have ha := hasNil hn hd
                  have ha := ha.add (seeF hs 62 2 (.int .i64 0) KR KR)
                  refine yStep ha 5 KR ?_; intro l_ ha HK
                  refine stepp ha 5 (.int .i64 0) KR KR ?_; intro ax hax; exact HK _ _ _ hax rfl (Below.refl _ _)
              · skip
                intro a W4895 ha HW he hf
                replace ha := ha.add (gotF (m := 7) (j := 5) (d := 4) (v := .int .i64 ((rdL T_sense_row.z G_sense_rows x4812).f0)) hf KR KR KR)
                replace ha := ha.add (gotF (m := 7) (j := 6) (d := 5) (v := .int .i64 0) hf KR KR KR)
                replace ha := ha.add (gotF (m := 7) (j := 4) (d := 64) (v := .int .i64 ((rdL T_sense_row.z G_sense_rows x4812).f1)) hf KR KR KR)
                clear he hf
                refine stepp ha 6 (.int .i64 ((rdL T_sense_row.z G_sense_rows x4812).f1)) KR KR ?_; clear ha a; intro a ha
                refine stepp ha 7 (.bool true) KR KR ?_; clear ha a; intro a ha
                refine endl ?_
                refine thenN (hK4894 _ _ ?_); clear hK4894
                refine wp_ret ?_
                refine blkR ?_
                refine thenR ?_
                refine thenR ?_
                refine blkR ?_
                refine thenR ?_
                obtain rfl := Option.some.inj h
                exact finv ha _ _ rfl (.tmp (v := .int .i64 ((rdL T_sense_row.z G_sense_rows x4812).f0)) KR (.tmp (v := .int .i64 0) KR (.tmp (v := .int .i64 ((rdL T_sense_row.z G_sense_rows x4812).f1)) KR (.tmp (v := .bool true) KR .nil)))) (.tuple #[.int .i64 ((rdL T_sense_row.z G_sense_rows x4812).f0), .int .i64 0, .int .i64 ((rdL T_sense_row.z G_sense_rows x4812).f1), .bool true]) rfl ⟨rfl, HW.pick [] [] (by decide) (by decide) rfl KR⟩
            · skip
              replace h := ite_neg' h hp4888
              replace ha := ha.bool 47 KR (bool_f hp4888)
              refine stepo ha 48 KR ?_; clear ha a; intro a ha
              refine stepo ha 49 KR ?_; clear ha a; intro a ha
              refine stepo ha 50 KR ?_; clear ha a; intro a ha
              refine stepo ha 51 KR ?_; clear ha a; intro a ha
              refine stepo ha 52 KR ?_; clear ha a; intro a ha
              refine stepo ha 53 KR ?_; clear ha a; intro a ha
              refine stepo ha 54 KR ?_; clear ha a; intro a ha
              refine stepo ha 55 KR ?_; clear ha a; intro a ha
              refine stepp ha 56 (.bool false) KR KR ?_; clear ha a; intro a ha
              refine endl ?_
              refine thenN (hK4886 _ _ ?_); clear hK4886
              refine condF ha KR KR (t := false) (rfl) ?_
              refine wp_skip ?_
              refine blkN ?_
              refine thenN (hK4822 _ _ ?_); clear hK4822
              refine wp_region_lit ?_
              refine stepp ha 65 (.int .i64 (IntKind.wrap .i64 (x4812 + 1))) KR KR ?_; clear ha a; intro a ha
              refine stepp ha 13 (.int .i64 (IntKind.wrap .i64 (x4812 + 1))) KR KR ?_; clear ha a; intro a ha
              refine endl ?_
              exact thenN ⟨k4814, Nat.lt_succ_self k4814, x4811, IntKind.wrap .i64 (x4812 + 1), (by rw [← hag4815]; exact h), ha.sub (subs_cons KR (subs_cons KR (subs_cons KR (subs_cons KR (subs_cons KR (subs_nil _)))))), HW.pick [2] [] (by decide) (by decide) KR KR⟩
          · skip
            replace h := ite_neg' h hp4887
            replace ha := ha.bool 42 KR (ieq_f hp4887)
            refine stepo ha 43 KR ?_; clear ha a; intro a ha
            refine stepo ha 44 KR ?_; clear ha a; intro a ha
            refine stepo ha 45 KR ?_; clear ha a; intro a ha
            refine stepp ha 46 (.bool false) KR KR ?_; clear ha a; intro a ha
            refine stepp ha 47 (.bool false) KR KR ?_; clear ha a; intro a ha
            refine stepo ha 48 KR ?_; clear ha a; intro a ha
            refine stepo ha 49 KR ?_; clear ha a; intro a ha
            refine stepo ha 50 KR ?_; clear ha a; intro a ha
            refine stepo ha 51 KR ?_; clear ha a; intro a ha
            refine stepo ha 52 KR ?_; clear ha a; intro a ha
            refine stepo ha 53 KR ?_; clear ha a; intro a ha
            refine stepo ha 54 KR ?_; clear ha a; intro a ha
            refine stepo ha 55 KR ?_; clear ha a; intro a ha
            refine stepp ha 56 (.bool false) KR KR ?_; clear ha a; intro a ha
            refine endl ?_
            refine thenN (hK4886 _ _ ?_); clear hK4886
            refine condF ha KR KR (t := false) (rfl) ?_
            refine wp_skip ?_
            refine blkN ?_
            refine thenN (hK4822 _ _ ?_); clear hK4822
            refine wp_region_lit ?_
            refine stepp ha 65 (.int .i64 (IntKind.wrap .i64 (x4812 + 1))) KR KR ?_; clear ha a; intro a ha
            refine stepp ha 13 (.int .i64 (IntKind.wrap .i64 (x4812 + 1))) KR KR ?_; clear ha a; intro a ha
            refine endl ?_
            exact thenN ⟨k4814, Nat.lt_succ_self k4814, x4811, IntKind.wrap .i64 (x4812 + 1), (by rw [← hag4815]; exact h), ha.sub (subs_cons KR (subs_cons KR (subs_cons KR (subs_cons KR (subs_cons KR (subs_nil _)))))), HW.pick [2] [] (by decide) (by decide) KR KR⟩
      · skip
        replace h := ite_neg' h hp4820
        refine condF ha KR KR (t := decide (x4812 < 11)) (decide_eq_false hp4820) ?_
        refine wp_exit ?_
        refine thenE ?_
        refine thenE ?_
        refine inBlk ?_
        refine thenN (hK4645 _ _ ?_); clear hK4645
        refine wp_seq_k (fun K4896 hK4897 => ?_)
        refine wp_region_lit ?_
        refine stepp ha 4 (.int .i64 0) KR KR ?_; clear ha a; intro a ha
        refine stepp ha 5 (.int .i64 0) KR KR ?_; clear ha a; intro a ha
        refine stepp ha 6 (.int .i64 0) KR KR ?_; clear ha a; intro a ha
        refine stepp ha 7 (.bool false) KR KR ?_; clear ha a; intro a ha
        refine endl ?_
        refine thenN (hK4897 _ _ ?_); clear hK4897
        refine wp_ret ?_
        obtain rfl := Option.some.inj h
        exact finv ha _ _ rfl (.tmp (v := .int .i64 0) KR (.tmp (v := .int .i64 0) KR (.tmp (v := .int .i64 0) KR (.tmp (v := .bool false) KR .nil)))) (.tuple #[.int .i64 0, .int .i64 0, .int .i64 0, .bool false]) rfl ⟨rfl, HW.pick [] [] (by decide) (by decide) rfl KR⟩
end Go.Proofs.YthjjbkgifelooaaDoor.F
