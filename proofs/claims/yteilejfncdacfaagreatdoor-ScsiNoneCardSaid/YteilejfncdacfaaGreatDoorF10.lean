/- (headgate/headgatelaw19.Ask).Fair, (headgate/sense.row).sense, (headgate/sense.row).outcome, headgate/sense.Of, headgate/scsi.reply, headgate/scsi.wrong, headgate/scsi.Do: plain functions, and that the calls come to what they say. No condition. -/
import Derived.Test.YteilejfncdacfaaGreatDoorFT
import Derived.Test.YteilejfncdacfaaGreatDoorF42
namespace Go.Proofs.YteilejfncdacfaaGreatDoor.F
open Go Go.RowKit Go.Proofs.YteilejfncdacfaaGreatDoor.X
set_option linter.unusedVariables false
set_option linter.unusedSimpArgs false
/-! ### (headgate/headgatelaw19.Ask).Fair: function 10 -/
def headgatelaw19_Ask_Fair.f (a0 : T_headgatelaw19_Ask) : Option Bool :=
  if (a0.f0.size : Int) ≤ 1000 then (if (a0.f2.size : Int) ≤ 1000 then (some (decide ((a0.f3.size : Int) ≤ 70000))) else (some false)) else (some false)
set_option maxRecDepth 100000 in
set_option maxHeartbeats 4000000 in
theorem headgatelaw19_Ask_Fair.calls (a0 : T_headgatelaw19_Ask)  (r : Bool) (w : World)  (h : headgatelaw19_Ask_Fair.f a0 = some r) :
    Calls Tryz.prog 10 #[.agg #[.string a0.f0, .int .i64 a0.f1, .string a0.f2, .string a0.f3]] w (fun e W' => e = .returned (.bool r) ∧ Wd w W' [] [] ) := by
  refine sxstart (n := 19) (l := [(0, .agg #[.string a0.f0, .int .i64 a0.f1, .string a0.f2, .string a0.f3])]) Tryz.func10 rfl rfl (Nat.le_of_ble_eq_true KR) (subsA_cons rfl (subsA_nil _)) ?_
  intro a ha
  have HW := Wd.refl w
  unfold headgatelaw19_Ask_Fair.f at h
  refine wp_seq_k (fun K2646 hK2647 => ?_)
  refine wp_region_lit ?_
  refine stepnew ha HW 1 #[.string a0.f0, .int .i64 a0.f1, .string a0.f2, .string a0.f3] 23 KR KR ?_; clear ha HW a; intro b2648 a W2649 HW ha
  refine stepp ha 2 (.bool false) KR KR ?_; clear ha a; intro a ha
  refine endl ?_
  refine thenN (hK2647 _ _ ?_); clear hK2647
  refine wp_seq_k (fun K2650 hK2651 => ?_)
  refine wp_region_lit ?_
  refine stepp ha 3 (.pointer (some ⟨b2648, 0, none⟩)) KR KR ?_; clear ha a; intro a ha
  refine stepl ha 4 (HW.ca (i := 0) (b := b2648) (C := #[.string a0.f0, .int .i64 a0.f1, .string a0.f2, .string a0.f3]) (T := 23) (fr := (0, 0)) KR) 9 0 (.tmp 3) (.string a0.f0) rfl KR KR KR ?_; clear ha a; intro a ha
  refine stepp ha 5 (.int .i64 (a0.f0.size : Int)) KR KR ?_; clear ha a; intro a ha
  refine stepp ha 6 (.bool (decide ((a0.f0.size : Int) ≤ 1000))) KR KR ?_; clear ha a; intro a ha
  refine stepp ha 7 (.bool (decide ((a0.f0.size : Int) ≤ 1000))) KR KR ?_; clear ha a; intro a ha
  by_cases hp2652 : (a0.f0.size : Int) ≤ 1000
  · skip
    replace h := ite_pos' h hp2652
    replace ha := ha.bool 7 KR (decide_eq_true hp2652)
    refine stepp ha 8 (.pointer (some ⟨b2648, 2, none⟩)) KR KR ?_; clear ha a; intro a ha
    refine stepl ha 9 (HW.ca (i := 0) (b := b2648) (C := #[.string a0.f0, .int .i64 a0.f1, .string a0.f2, .string a0.f3]) (T := 23) (fr := (0, 0)) KR) 9 2 (.tmp 8) (.string a0.f2) rfl KR KR KR ?_; clear ha a; intro a ha
    refine stepp ha 10 (.int .i64 (a0.f2.size : Int)) KR KR ?_; clear ha a; intro a ha
    refine stepp ha 11 (.bool (decide ((a0.f2.size : Int) ≤ 1000))) KR KR ?_; clear ha a; intro a ha
    refine stepp ha 12 (.bool (decide ((a0.f2.size : Int) ≤ 1000))) KR KR ?_; clear ha a; intro a ha
    refine stepp ha 13 (.bool (decide ((a0.f2.size : Int) ≤ 1000))) KR KR ?_; clear ha a; intro a ha
    by_cases hp2653 : (a0.f2.size : Int) ≤ 1000
    · skip
      replace h := ite_pos' h hp2653
      replace ha := ha.bool 13 KR (decide_eq_true hp2653)
      refine stepp ha 14 (.pointer (some ⟨b2648, 3, none⟩)) KR KR ?_; clear ha a; intro a ha
      refine stepl ha 15 (HW.ca (i := 0) (b := b2648) (C := #[.string a0.f0, .int .i64 a0.f1, .string a0.f2, .string a0.f3]) (T := 23) (fr := (0, 0)) KR) 9 3 (.tmp 14) (.string a0.f3) rfl KR KR KR ?_; clear ha a; intro a ha
      refine stepp ha 16 (.int .i64 (a0.f3.size : Int)) KR KR ?_; clear ha a; intro a ha
      refine stepp ha 17 (.bool (decide ((a0.f3.size : Int) ≤ 70000))) KR KR ?_; clear ha a; intro a ha
      refine stepp ha 18 (.bool (decide ((a0.f3.size : Int) ≤ 70000))) KR KR ?_; clear ha a; intro a ha
      refine stepp ha 2 (.bool (decide ((a0.f3.size : Int) ≤ 70000))) KR KR ?_; clear ha a; intro a ha
      refine endl ?_
      refine thenN (hK2651 _ _ ?_); clear hK2651
      refine wp_ret ?_
      obtain rfl := Option.some.inj h
      exact finv ha _ _ rfl (.tmp (v := .bool (decide ((a0.f3.size : Int) ≤ 70000))) KR .nil) (.bool (decide ((a0.f3.size : Int) ≤ 70000))) rfl ⟨rfl, HW.pick [] [] (by decide) (by decide) rfl KR⟩
    · skip
      replace h := ite_neg' h hp2653
      replace ha := ha.bool 13 KR (decide_eq_false hp2653)
      refine stepo ha 14 KR ?_; clear ha a; intro a ha
      refine stepo ha 15 KR ?_; clear ha a; intro a ha
      refine stepo ha 16 KR ?_; clear ha a; intro a ha
      refine stepo ha 17 KR ?_; clear ha a; intro a ha
      refine stepp ha 18 (.bool false) KR KR ?_; clear ha a; intro a ha
      refine stepp ha 2 (.bool false) KR KR ?_; clear ha a; intro a ha
      refine endl ?_
      refine thenN (hK2651 _ _ ?_); clear hK2651
      refine wp_ret ?_
      obtain rfl := Option.some.inj h
      exact finv ha _ _ rfl (.tmp (v := .bool false) KR .nil) (.bool false) rfl ⟨rfl, HW.pick [] [] (by decide) (by decide) rfl KR⟩
  · skip
    replace h := ite_neg' h hp2652
    replace ha := ha.bool 7 KR (decide_eq_false hp2652)
    refine stepo ha 8 KR ?_; clear ha a; intro a ha
    refine stepo ha 9 KR ?_; clear ha a; intro a ha
    refine stepo ha 10 KR ?_; clear ha a; intro a ha
    refine stepo ha 11 KR ?_; clear ha a; intro a ha
    refine stepp ha 12 (.bool false) KR KR ?_; clear ha a; intro a ha
    refine stepp ha 13 (.bool false) KR KR ?_; clear ha a; intro a ha
    refine stepo ha 14 KR ?_; clear ha a; intro a ha
    refine stepo ha 15 KR ?_; clear ha a; intro a ha
    refine stepo ha 16 KR ?_; clear ha a; intro a ha
    refine stepo ha 17 KR ?_; clear ha a; intro a ha
    refine stepp ha 18 (.bool false) KR KR ?_; clear ha a; intro a ha
    refine stepp ha 2 (.bool false) KR KR ?_; clear ha a; intro a ha
    refine endl ?_
    refine thenN (hK2651 _ _ ?_); clear hK2651
    refine wp_ret ?_
    obtain rfl := Option.some.inj h
    exact finv ha _ _ rfl (.tmp (v := .bool false) KR .nil) (.bool false) rfl ⟨rfl, HW.pick [] [] (by decide) (by decide) rfl KR⟩
/-! ### (headgate/sense.row).sense: function 181 -/
def sense_row_sense.f (a0 : T_sense_row) : Option T_api_Sense :=
  some (⟨a0.f3, a0.f4, a0.f5, (-1)⟩ : T_api_Sense)
set_option maxRecDepth 100000 in
set_option maxHeartbeats 4000000 in
theorem sense_row_sense.calls (a0 : T_sense_row)  (r : T_api_Sense) (w : World)  (h : sense_row_sense.f a0 = some r) :
    Calls Tryz.prog 181 #[.agg #[.int .i64 a0.f0, .int .i64 a0.f1, .int .i64 a0.f2, .int .i64 a0.f3, .int .i64 a0.f4, .int .i64 a0.f5]] w (fun e W' => e = .returned (.agg #[.int .i64 r.f0, .int .i64 r.f1, .int .i64 r.f2, .int .i64 r.f3]) ∧ Wd w W' [] [] ) := by
  refine sxstart (n := 10) (l := [(0, .agg #[.int .i64 a0.f0, .int .i64 a0.f1, .int .i64 a0.f2, .int .i64 a0.f3, .int .i64 a0.f4, .int .i64 a0.f5])]) Tryz.func181 rfl rfl (Nat.le_of_ble_eq_true KR) (subsA_cons rfl (subsA_nil _)) ?_
  intro a ha
  have HW := Wd.refl w
  unfold sense_row_sense.f at h
  refine wp_seq_k (fun K3100 hK3101 => ?_)
  refine wp_region_lit ?_
  refine stepnew ha HW 1 #[.int .i64 a0.f0, .int .i64 a0.f1, .int .i64 a0.f2, .int .i64 a0.f3, .int .i64 a0.f4, .int .i64 a0.f5] 284 KR KR ?_; clear ha HW a; intro b3102 a W3103 HW ha
  refine stepnew ha HW 2 #[.int .i64 0, .int .i64 0, .int .i64 0, .int .i64 0] 40 KR KR ?_; clear ha HW a; intro b3104 a W3105 HW ha
  refine endl ?_
  refine thenN (hK3101 _ _ ?_); clear hK3101
  refine wp_seq_k (fun K3106 hK3107 => ?_)
  refine wp_region_lit ?_
  refine stepp ha 3 (.pointer (some ⟨b3102, 3, none⟩)) KR KR ?_; clear ha a; intro a ha
  refine stepl ha 4 (HW.ca (i := 1) (b := b3102) (C := #[.int .i64 a0.f0, .int .i64 a0.f1, .int .i64 a0.f2, .int .i64 a0.f3, .int .i64 a0.f4, .int .i64 a0.f5]) (T := 284) (fr := (0, 0)) KR) 3 3 (.tmp 3) (.int .i64 a0.f3) rfl KR KR KR ?_; clear ha a; intro a ha
  refine stepp ha 5 (.pointer (some ⟨b3102, 4, none⟩)) KR KR ?_; clear ha a; intro a ha
  refine stepl ha 6 (HW.ca (i := 1) (b := b3102) (C := #[.int .i64 a0.f0, .int .i64 a0.f1, .int .i64 a0.f2, .int .i64 a0.f3, .int .i64 a0.f4, .int .i64 a0.f5]) (T := 284) (fr := (0, 0)) KR) 3 4 (.tmp 5) (.int .i64 a0.f4) rfl KR KR KR ?_; clear ha a; intro a ha
  refine stepp ha 7 (.pointer (some ⟨b3102, 5, none⟩)) KR KR ?_; clear ha a; intro a ha
  refine stepl ha 8 (HW.ca (i := 1) (b := b3102) (C := #[.int .i64 a0.f0, .int .i64 a0.f1, .int .i64 a0.f2, .int .i64 a0.f3, .int .i64 a0.f4, .int .i64 a0.f5]) (T := 284) (fr := (0, 0)) KR) 3 5 (.tmp 7) (.int .i64 a0.f5) rfl KR KR KR ?_; clear ha a; intro a ha
  refine stepp ha 9 (.agg #[.int .i64 a0.f3, .int .i64 a0.f4, .int .i64 a0.f5, .int .i64 (-1)]) KR KR ?_; clear ha a; intro a ha
  refine stepst ha HW 0 (b := b3104) (C := #[.int .i64 0, .int .i64 0, .int .i64 0, .int .i64 0]) (T := 40) KR 40 0 (.tmp 2) (.tmp 9) (.agg #[.int .i64 a0.f3, .int .i64 a0.f4, .int .i64 a0.f5, .int .i64 (-1)]) #[.int .i64 a0.f3, .int .i64 a0.f4, .int .i64 a0.f5, .int .i64 (-1)] rfl KR KR KR KR KR KR KR ?_; clear ha HW a; intro a W3108 HW ha
  refine endl ?_
  refine thenN (hK3107 _ _ ?_); clear hK3107
  refine wp_ret ?_
  obtain rfl := Option.some.inj h
  exact finv ha _ _ rfl (.cell (ad := ⟨b3104, 0, none⟩) (v := .agg #[.int .i64 a0.f3, .int .i64 a0.f4, .int .i64 a0.f5, .int .i64 (-1)]) KR (run_loadVar_ca0 (HW.ca (i := 0) (b := b3104) (C := #[.int .i64 a0.f3, .int .i64 a0.f4, .int .i64 a0.f5, .int .i64 (-1)]) (T := 40) (fr := (0, 0)) KR) 40 0 (.agg #[.int .i64 a0.f3, .int .i64 a0.f4, .int .i64 a0.f5, .int .i64 (-1)]) KR) .nil) (.agg #[.int .i64 a0.f3, .int .i64 a0.f4, .int .i64 a0.f5, .int .i64 (-1)]) rfl ⟨rfl, HW.pick [] [] (by decide) (by decide) rfl KR⟩
/-! ### (headgate/sense.row).outcome: function 212 -/
def sense_row_outcome.f (a0 : T_sense_row) (a1 : T_api_Out) : Option Bool :=
  if a0.f0 = a1.f0 then (if a0.f0 = 7 then (some (a0.f1 == a1.f3)) else (some true)) else (some false)
set_option maxRecDepth 100000 in
set_option maxHeartbeats 4000000 in
theorem sense_row_outcome.calls (a0 : T_sense_row) (a1 : T_api_Out) (A1_0 : Option Addr) (c1_0 : Nat) (r : Bool) (w : World) (hr1_0 : Rd 2 w (.slice A1_0 a1.f4.length c1_0) a1.f4.length (encs T_api_Reg.enc a1.f4)) (h : sense_row_outcome.f a0 a1 = some r) :
    Calls Tryz.prog 212 #[.agg #[.int .i64 a0.f0, .int .i64 a0.f1, .int .i64 a0.f2, .int .i64 a0.f3, .int .i64 a0.f4, .int .i64 a0.f5], .agg #[.int .i64 a1.f0, .string a1.f1, .int .i64 a1.f2, .int .i64 a1.f3, .slice A1_0 a1.f4.length c1_0, .int .u32 a1.f5, .int .i64 a1.f6.f0, .string a1.f6.f1, .int .i64 a1.f7]] w (fun e W' => e = .returned (.bool r) ∧ Wd w W' [] [] ) := by
  refine sxstart (n := 22) (l := [(0, .agg #[.int .i64 a0.f0, .int .i64 a0.f1, .int .i64 a0.f2, .int .i64 a0.f3, .int .i64 a0.f4, .int .i64 a0.f5]), (1, .agg #[.int .i64 a1.f0, .string a1.f1, .int .i64 a1.f2, .int .i64 a1.f3, .slice A1_0 a1.f4.length c1_0, .int .u32 a1.f5, .int .i64 a1.f6.f0, .string a1.f6.f1, .int .i64 a1.f7])]) Tryz.func212 rfl rfl (Nat.le_of_ble_eq_true KR) (subsA_cons rfl (subsA_cons rfl (subsA_nil _))) ?_
  intro a ha
  have HW := Wd.refl w
  unfold sense_row_outcome.f at h
  refine wp_seq_k (fun K3109 hK3110 => ?_)
  refine wp_region_lit ?_
  refine stepnew ha HW 2 #[.int .i64 a0.f0, .int .i64 a0.f1, .int .i64 a0.f2, .int .i64 a0.f3, .int .i64 a0.f4, .int .i64 a0.f5] 284 KR KR ?_; clear ha HW a; intro b3111 a W3112 HW ha
  refine stepnew ha HW 3 #[.int .i64 a1.f0, .string a1.f1, .int .i64 a1.f2, .int .i64 a1.f3, .slice A1_0 a1.f4.length c1_0, .int .u32 a1.f5, .int .i64 a1.f6.f0, .string a1.f6.f1, .int .i64 a1.f7] 66 KR KR ?_; clear ha HW a; intro b3113 a W3114 HW ha
  refine stepp ha 4 (.bool false) KR KR ?_; clear ha a; intro a ha
  refine endl ?_
  refine thenN (hK3110 _ _ ?_); clear hK3110
  refine wp_seq_k (fun K3115 hK3116 => ?_)
  refine wp_region_lit ?_
  refine stepp ha 5 (.pointer (some ⟨b3111, 0, none⟩)) KR KR ?_; clear ha a; intro a ha
  refine stepl ha 6 (HW.ca (i := 1) (b := b3111) (C := #[.int .i64 a0.f0, .int .i64 a0.f1, .int .i64 a0.f2, .int .i64 a0.f3, .int .i64 a0.f4, .int .i64 a0.f5]) (T := 284) (fr := (0, 0)) KR) 3 0 (.tmp 5) (.int .i64 a0.f0) rfl KR KR KR ?_; clear ha a; intro a ha
  refine stepp ha 7 (.pointer (some ⟨b3113, 0, none⟩)) KR KR ?_; clear ha a; intro a ha
  refine stepl ha 8 (HW.ca (i := 0) (b := b3113) (C := #[.int .i64 a1.f0, .string a1.f1, .int .i64 a1.f2, .int .i64 a1.f3, .slice A1_0 a1.f4.length c1_0, .int .u32 a1.f5, .int .i64 a1.f6.f0, .string a1.f6.f1, .int .i64 a1.f7]) (T := 66) (fr := (0, 0)) KR) 3 0 (.tmp 7) (.int .i64 a1.f0) rfl KR KR KR ?_; clear ha a; intro a ha
  refine stepp ha 9 (.bool (a0.f0 == a1.f0)) KR KR ?_; clear ha a; intro a ha
  refine stepp ha 10 (.bool (a0.f0 == a1.f0)) KR KR ?_; clear ha a; intro a ha
  by_cases hp3117 : a0.f0 = a1.f0
  · skip
    replace h := ite_pos' h hp3117
    replace ha := ha.bool 10 KR (ieq_t hp3117)
    refine stepp ha 11 (.pointer (some ⟨b3111, 0, none⟩)) KR KR ?_; clear ha a; intro a ha
    refine stepl ha 12 (HW.ca (i := 1) (b := b3111) (C := #[.int .i64 a0.f0, .int .i64 a0.f1, .int .i64 a0.f2, .int .i64 a0.f3, .int .i64 a0.f4, .int .i64 a0.f5]) (T := 284) (fr := (0, 0)) KR) 3 0 (.tmp 11) (.int .i64 a0.f0) rfl KR KR KR ?_; clear ha a; intro a ha
    refine stepp ha 13 (.bool (a0.f0 != 7)) KR KR ?_; clear ha a; intro a ha
    refine stepp ha 14 (.bool (a0.f0 != 7)) KR KR ?_; clear ha a; intro a ha
    by_cases hp3118 : a0.f0 = 7
    · skip
      replace h := ite_pos' h hp3118
      replace ha := ha.bool 14 KR (ineq_f hp3118)
      refine stepp ha 15 (.pointer (some ⟨b3111, 1, none⟩)) KR KR ?_; clear ha a; intro a ha
      refine stepl ha 16 (HW.ca (i := 1) (b := b3111) (C := #[.int .i64 a0.f0, .int .i64 a0.f1, .int .i64 a0.f2, .int .i64 a0.f3, .int .i64 a0.f4, .int .i64 a0.f5]) (T := 284) (fr := (0, 0)) KR) 3 1 (.tmp 15) (.int .i64 a0.f1) rfl KR KR KR ?_; clear ha a; intro a ha
      refine stepp ha 17 (.pointer (some ⟨b3113, 3, none⟩)) KR KR ?_; clear ha a; intro a ha
      refine stepl ha 18 (HW.ca (i := 0) (b := b3113) (C := #[.int .i64 a1.f0, .string a1.f1, .int .i64 a1.f2, .int .i64 a1.f3, .slice A1_0 a1.f4.length c1_0, .int .u32 a1.f5, .int .i64 a1.f6.f0, .string a1.f6.f1, .int .i64 a1.f7]) (T := 66) (fr := (0, 0)) KR) 3 3 (.tmp 17) (.int .i64 a1.f3) rfl KR KR KR ?_; clear ha a; intro a ha
      refine stepp ha 19 (.bool (a0.f1 == a1.f3)) KR KR ?_; clear ha a; intro a ha
      refine stepp ha 20 (.bool (a0.f1 == a1.f3)) KR KR ?_; clear ha a; intro a ha
      refine stepp ha 21 (.bool (a0.f1 == a1.f3)) KR KR ?_; clear ha a; intro a ha
      refine stepp ha 4 (.bool (a0.f1 == a1.f3)) KR KR ?_; clear ha a; intro a ha
      refine endl ?_
      refine thenN (hK3116 _ _ ?_); clear hK3116
      refine wp_ret ?_
      obtain rfl := Option.some.inj h
      exact finv ha _ _ rfl (.tmp (v := .bool (a0.f1 == a1.f3)) KR .nil) (.bool (a0.f1 == a1.f3)) rfl ⟨rfl, HW.pick [] [] (by decide) (by decide) rfl KR⟩
    · skip
      replace h := ite_neg' h hp3118
      replace ha := ha.bool 14 KR (ineq_t hp3118)
      refine stepo ha 15 KR ?_; clear ha a; intro a ha
      refine stepo ha 16 KR ?_; clear ha a; intro a ha
      refine stepo ha 17 KR ?_; clear ha a; intro a ha
      refine stepo ha 18 KR ?_; clear ha a; intro a ha
      refine stepo ha 19 KR ?_; clear ha a; intro a ha
      refine stepp ha 20 (.bool true) KR KR ?_; clear ha a; intro a ha
      refine stepp ha 21 (.bool true) KR KR ?_; clear ha a; intro a ha
      refine stepp ha 4 (.bool true) KR KR ?_; clear ha a; intro a ha
      refine endl ?_
      refine thenN (hK3116 _ _ ?_); clear hK3116
      refine wp_ret ?_
      obtain rfl := Option.some.inj h
      exact finv ha _ _ rfl (.tmp (v := .bool true) KR .nil) (.bool true) rfl ⟨rfl, HW.pick [] [] (by decide) (by decide) rfl KR⟩
  · skip
    replace h := ite_neg' h hp3117
    replace ha := ha.bool 10 KR (ieq_f hp3117)
    refine stepo ha 11 KR ?_; clear ha a; intro a ha
    refine stepo ha 12 KR ?_; clear ha a; intro a ha
    refine stepo ha 13 KR ?_; clear ha a; intro a ha
    refine stepo ha 14 KR ?_; clear ha a; intro a ha
    refine stepo ha 15 KR ?_; clear ha a; intro a ha
    refine stepo ha 16 KR ?_; clear ha a; intro a ha
    refine stepo ha 17 KR ?_; clear ha a; intro a ha
    refine stepo ha 18 KR ?_; clear ha a; intro a ha
    refine stepo ha 19 KR ?_; clear ha a; intro a ha
    refine stepo ha 20 KR ?_; clear ha a; intro a ha
    refine stepp ha 21 (.bool false) KR KR ?_; clear ha a; intro a ha
    refine stepp ha 4 (.bool false) KR KR ?_; clear ha a; intro a ha
    refine endl ?_
    refine thenN (hK3116 _ _ ?_); clear hK3116
    refine wp_ret ?_
    obtain rfl := Option.some.inj h
    exact finv ha _ _ rfl (.tmp (v := .bool false) KR .nil) (.bool false) rfl ⟨rfl, HW.pick [] [] (by decide) (by decide) rfl KR⟩
/-! ### headgate/sense.Of: function 127 -/
def sense_Of_0.b0 (K : Nat) (x3134 : Int) (x3135 : ByteArray) (x3136 : Int) (x3137 : Int) (x3138 : List T_api_Reg) (x3142 : Int) (x3143 : Int) (x3144 : ByteArray) (x3145 : Int) (again3234 : Int → Option (Int × T_api_Sense)) (x3235 : Int) : Option (Int × T_api_Sense) :=
  if x3235 < 11 then (asrt (0 ≤ x3235) ((sense_row_outcome.f (⟨(rdL T_sense_row.z G_sense_rows x3235).f0, (rdL T_sense_row.z G_sense_rows x3235).f1, (rdL T_sense_row.z G_sense_rows x3235).f2, (rdL T_sense_row.z G_sense_rows x3235).f3, (rdL T_sense_row.z G_sense_rows x3235).f4, (rdL T_sense_row.z G_sense_rows x3235).f5⟩ : T_sense_row) (⟨x3134, x3135, x3136, x3137, x3138, x3142, (⟨x3143, x3144⟩ : T_api_Hold), x3145⟩ : T_api_Out)).bind fun t3254 => (if t3254 = true then ((sense_row_sense.f (⟨(rdL T_sense_row.z G_sense_rows x3235).f0, (rdL T_sense_row.z G_sense_rows x3235).f1, (rdL T_sense_row.z G_sense_rows x3235).f2, (rdL T_sense_row.z G_sense_rows x3235).f3, (rdL T_sense_row.z G_sense_rows x3235).f4, (rdL T_sense_row.z G_sense_rows x3235).f5⟩ : T_sense_row)).bind fun t3261 => (if ((rdL T_sense_row.z G_sense_rows x3235).f0) = 3 then (some ((rdL T_sense_row.z G_sense_rows x3235).f2, (⟨t3261.f0, t3261.f1, t3261.f2, x3136⟩ : T_api_Sense))) else (some ((rdL T_sense_row.z G_sense_rows x3235).f2, t3261)))) else (again3234 (IntKind.wrap .i64 (x3235 + 1)))))) else (none)
def sense_Of_0.l0 (K : Nat) (x3134 : Int) (x3135 : ByteArray) (x3136 : Int) (x3137 : Int) (x3138 : List T_api_Reg) (x3142 : Int) (x3143 : Int) (x3144 : ByteArray) (x3145 : Int) : Nat → Int → Option (Int × T_api_Sense)
  | 0, _ => none
  | k_ + 1, x3235 => sense_Of_0.b0 K x3134 x3135 x3136 x3137 x3138 x3142 x3143 x3144 x3145 (sense_Of_0.l0 K x3134 x3135 x3136 x3137 x3138 x3142 x3143 x3144 x3145 k_) x3235
def sense_Of_0.j0 (K : Nat) (x3134 : Int) (x3135 : ByteArray) (x3136 : Int) (x3137 : Int) (x3138 : List T_api_Reg) (x3142 : Int) (x3143 : Int) (x3144 : ByteArray) (x3145 : Int) : Option (Int × T_api_Sense) :=
  sense_Of_0.l0 K x3134 x3135 x3136 x3137 x3138 x3142 x3143 x3144 x3145 K 0
def sense_Of_0.f (K : Nat) (a0 : T_api_Out) : Option (Int × T_api_Sense) :=
  if a0.f0 = 3 then (if a0.f2 < 0 then (sense_Of_0.j0 K  8 (⟨#[]⟩ : ByteArray) 0 0 ([] : List T_api_Reg) 0 0 (⟨#[]⟩ : ByteArray) 0) else (if a0.f2 ≥ 4294967296 then (sense_Of_0.j0 K  8 (⟨#[]⟩ : ByteArray) 0 0 ([] : List T_api_Reg) 0 0 (⟨#[]⟩ : ByteArray) 0) else (sense_Of_0.j0 K  a0.f0 a0.f1 a0.f2 a0.f3 a0.f4 a0.f5 a0.f6.f0 a0.f6.f1 a0.f7))) else (sense_Of_0.j0 K  a0.f0 a0.f1 a0.f2 a0.f3 a0.f4 a0.f5 a0.f6.f0 a0.f6.f1 a0.f7)
set_option maxRecDepth 100000 in
set_option maxHeartbeats 4000000 in
theorem sense_Of_0.calls (K : Nat) (a0 : T_api_Out) (A0_0 : Option Addr) (c0_0 : Nat) (r : Int × T_api_Sense) (w : World) (hG1 : CA w 1 0 (encs T_sense_row.enc G_sense_rows).toArray) (hr0_0 : Rd 2 w (.slice A0_0 a0.f4.length c0_0) a0.f4.length (encs T_api_Reg.enc a0.f4)) (h : sense_Of_0.f K a0 = some r) :
    Calls Tryz.prog 127 #[.agg #[.int .i64 a0.f0, .string a0.f1, .int .i64 a0.f2, .int .i64 a0.f3, .slice A0_0 a0.f4.length c0_0, .int .u32 a0.f5, .int .i64 a0.f6.f0, .string a0.f6.f1, .int .i64 a0.f7]] w (fun e W' => e = .returned (.tuple #[.int .i64 r.1, .agg #[.int .i64 r.2.f0, .int .i64 r.2.f1, .int .i64 r.2.f2, .int .i64 r.2.f3]]) ∧ Wd w W' [] [] ) := by
  refine sxstart (n := 43) (l := [(0, .agg #[.int .i64 a0.f0, .string a0.f1, .int .i64 a0.f2, .int .i64 a0.f3, .slice A0_0 a0.f4.length c0_0, .int .u32 a0.f5, .int .i64 a0.f6.f0, .string a0.f6.f1, .int .i64 a0.f7])]) Tryz.func127 rfl rfl (Nat.le_of_ble_eq_true KR) (subsA_cons rfl (subsA_nil _)) ?_
  intro a ha
  have HW := Wd.refl w
  unfold sense_Of_0.f at h
  refine wp_seq_k (fun K3119 hK3120 => ?_)
  refine wp_region_lit ?_
  refine stepnew ha HW 1 #[.int .i64 a0.f0, .string a0.f1, .int .i64 a0.f2, .int .i64 a0.f3, .slice A0_0 a0.f4.length c0_0, .int .u32 a0.f5, .int .i64 a0.f6.f0, .string a0.f6.f1, .int .i64 a0.f7] 66 KR KR ?_; clear ha HW a; intro b3121 a W3122 HW ha
  refine stepp ha 2 (.int .i64 0) KR KR ?_; clear ha a; intro a ha
  refine stepnew ha HW 3 #[.int .i64 0, .int .i64 0, .int .i64 0, .int .i64 0] 40 KR KR ?_; clear ha HW a; intro b3123 a W3124 HW ha
  refine endl ?_
  refine thenN (hK3120 _ _ ?_); clear hK3120
  refine wp_seq_k (fun K3125 hK3126 => ?_)
  refine cutn (fun a W3146 => ∃ (x3134 : Int), ∃ (x3135 : ByteArray), ∃ (x3136 : Int), ∃ (x3137 : Int), ∃ (x3138 : List T_api_Reg), ∃ A3139, ∃ c3140, ∃ (x3142 : Int), ∃ (x3143 : Int), ∃ (x3144 : ByteArray), ∃ (x3145 : Int), sense_Of_0.j0 K  x3134 x3135 x3136 x3137 x3138 x3142 x3143 x3144 x3145 = some r ∧ Has 43 [(1, .pointer (some ⟨b3121, 0, none⟩)), (3, .pointer (some ⟨b3123, 0, none⟩))] a ∧ Wd w W3146 [(b3121, .cells #[.int .i64 x3134, .string x3135, .int .i64 x3136, .int .i64 x3137, .slice A3139 x3138.length c3140, .int .u32 x3142, .int .i64 x3143, .string x3144, .int .i64 x3145] 66 (0, 0)), (b3123, .cells #[.int .i64 0, .int .i64 0, .int .i64 0, .int .i64 0] 40 (0, 0))] [] ∧ Rd 2 w (.slice A3139 x3138.length c3140) x3138.length (encs T_api_Reg.enc x3138)) ?_ ?_
  · skip
    refine wp_seq_k (fun K3127 hK3128 => ?_)
    refine wp_region_lit ?_
    refine stepp ha 6 (.pointer (some ⟨b3121, 0, none⟩)) KR KR ?_; clear ha a; intro a ha
    refine stepl ha 7 (HW.ca (i := 1) (b := b3121) (C := #[.int .i64 a0.f0, .string a0.f1, .int .i64 a0.f2, .int .i64 a0.f3, .slice A0_0 a0.f4.length c0_0, .int .u32 a0.f5, .int .i64 a0.f6.f0, .string a0.f6.f1, .int .i64 a0.f7]) (T := 66) (fr := (0, 0)) KR) 3 0 (.tmp 6) (.int .i64 a0.f0) rfl KR KR KR ?_; clear ha a; intro a ha
    refine stepp ha 8 (.bool (a0.f0 == 3)) KR KR ?_; clear ha a; intro a ha
    refine stepp ha 9 (.bool (a0.f0 == 3)) KR KR ?_; clear ha a; intro a ha
    by_cases hp3129 : a0.f0 = 3
    · skip
      replace h := ite_pos' h hp3129
      replace ha := ha.bool 9 KR (ieq_t hp3129)
      refine stepp ha 10 (.pointer (some ⟨b3121, 2, none⟩)) KR KR ?_; clear ha a; intro a ha
      refine stepl ha 11 (HW.ca (i := 1) (b := b3121) (C := #[.int .i64 a0.f0, .string a0.f1, .int .i64 a0.f2, .int .i64 a0.f3, .slice A0_0 a0.f4.length c0_0, .int .u32 a0.f5, .int .i64 a0.f6.f0, .string a0.f6.f1, .int .i64 a0.f7]) (T := 66) (fr := (0, 0)) KR) 3 2 (.tmp 10) (.int .i64 a0.f2) rfl KR KR KR ?_; clear ha a; intro a ha
      refine stepp ha 12 (.bool (decide (a0.f2 < 0))) KR KR ?_; clear ha a; intro a ha
      refine stepp ha 13 (.bool (decide (a0.f2 < 0))) KR KR ?_; clear ha a; intro a ha
      by_cases hp3130 : a0.f2 < 0
      · skip
        replace h := ite_pos' h hp3130
        replace ha := ha.bool 13 KR (decide_eq_true hp3130)
        refine stepo ha 14 KR ?_; clear ha a; intro a ha
        refine stepo ha 15 KR ?_; clear ha a; intro a ha
        refine stepo ha 16 KR ?_; clear ha a; intro a ha
        refine stepp ha 17 (.bool true) KR KR ?_; clear ha a; intro a ha
        refine stepp ha 18 (.bool true) KR KR ?_; clear ha a; intro a ha
        refine endl ?_
        refine thenN (hK3128 _ _ ?_); clear hK3128
        refine condT ha KR KR (t := true) (rfl) ?_
        refine wp_region_lit ?_
        refine stepp ha 19 (.agg #[.int .i64 8, .string (⟨#[]⟩ : ByteArray), .int .i64 0, .int .i64 0, .slice none 0 0, .int .u32 0, .int .i64 0, .string (⟨#[]⟩ : ByteArray), .int .i64 0]) KR KR ?_; clear ha a; intro a ha
        refine stepst ha HW 1 (b := b3121) (C := #[.int .i64 a0.f0, .string a0.f1, .int .i64 a0.f2, .int .i64 a0.f3, .slice A0_0 a0.f4.length c0_0, .int .u32 a0.f5, .int .i64 a0.f6.f0, .string a0.f6.f1, .int .i64 a0.f7]) (T := 66) KR 66 0 (.tmp 1) (.tmp 19) (.agg #[.int .i64 8, .string (⟨#[]⟩ : ByteArray), .int .i64 0, .int .i64 0, .slice none 0 0, .int .u32 0, .int .i64 0, .string (⟨#[]⟩ : ByteArray), .int .i64 0]) #[.int .i64 8, .string (⟨#[]⟩ : ByteArray), .int .i64 0, .int .i64 0, .slice none 0 0, .int .u32 0, .int .i64 0, .string (⟨#[]⟩ : ByteArray), .int .i64 0] rfl KR KR KR KR KR KR KR ?_; clear ha HW a; intro a W3131 HW ha
        refine endl ?_
        exact thenN ⟨8, (⟨#[]⟩ : ByteArray), 0, 0, ([] : List T_api_Reg), none, 0, 0, 0, (⟨#[]⟩ : ByteArray), 0, h, ha.sub (subs_cons KR (subs_cons KR (subs_nil _))), HW.pick [1, 0] [] (by decide) (by decide) KR KR, Rd.nil _ _⟩
      · skip
        replace h := ite_neg' h hp3130
        replace ha := ha.bool 13 KR (decide_eq_false hp3130)
        refine stepp ha 14 (.pointer (some ⟨b3121, 2, none⟩)) KR KR ?_; clear ha a; intro a ha
        refine stepl ha 15 (HW.ca (i := 1) (b := b3121) (C := #[.int .i64 a0.f0, .string a0.f1, .int .i64 a0.f2, .int .i64 a0.f3, .slice A0_0 a0.f4.length c0_0, .int .u32 a0.f5, .int .i64 a0.f6.f0, .string a0.f6.f1, .int .i64 a0.f7]) (T := 66) (fr := (0, 0)) KR) 3 2 (.tmp 14) (.int .i64 a0.f2) rfl KR KR KR ?_; clear ha a; intro a ha
        refine stepp ha 16 (.bool (decide (a0.f2 ≥ 4294967296))) KR KR ?_; clear ha a; intro a ha
        refine stepp ha 17 (.bool (decide (a0.f2 ≥ 4294967296))) KR KR ?_; clear ha a; intro a ha
        refine stepp ha 18 (.bool (decide (a0.f2 ≥ 4294967296))) KR KR ?_; clear ha a; intro a ha
        refine endl ?_
        refine thenN (hK3128 _ _ ?_); clear hK3128
        by_cases hp3132 : a0.f2 ≥ 4294967296
        · skip
          replace h := ite_pos' h hp3132
          refine condT ha KR KR (t := decide (a0.f2 ≥ 4294967296)) (decide_eq_true hp3132) ?_
          refine wp_region_lit ?_
          refine stepp ha 19 (.agg #[.int .i64 8, .string (⟨#[]⟩ : ByteArray), .int .i64 0, .int .i64 0, .slice none 0 0, .int .u32 0, .int .i64 0, .string (⟨#[]⟩ : ByteArray), .int .i64 0]) KR KR ?_; clear ha a; intro a ha
          refine stepst ha HW 1 (b := b3121) (C := #[.int .i64 a0.f0, .string a0.f1, .int .i64 a0.f2, .int .i64 a0.f3, .slice A0_0 a0.f4.length c0_0, .int .u32 a0.f5, .int .i64 a0.f6.f0, .string a0.f6.f1, .int .i64 a0.f7]) (T := 66) KR 66 0 (.tmp 1) (.tmp 19) (.agg #[.int .i64 8, .string (⟨#[]⟩ : ByteArray), .int .i64 0, .int .i64 0, .slice none 0 0, .int .u32 0, .int .i64 0, .string (⟨#[]⟩ : ByteArray), .int .i64 0]) #[.int .i64 8, .string (⟨#[]⟩ : ByteArray), .int .i64 0, .int .i64 0, .slice none 0 0, .int .u32 0, .int .i64 0, .string (⟨#[]⟩ : ByteArray), .int .i64 0] rfl KR KR KR KR KR KR KR ?_; clear ha HW a; intro a W3133 HW ha
          refine endl ?_
          exact thenN ⟨8, (⟨#[]⟩ : ByteArray), 0, 0, ([] : List T_api_Reg), none, 0, 0, 0, (⟨#[]⟩ : ByteArray), 0, h, ha.sub (subs_cons KR (subs_cons KR (subs_nil _))), HW.pick [1, 0] [] (by decide) (by decide) KR KR, Rd.nil _ _⟩
        · skip
          replace h := ite_neg' h hp3132
          refine condF ha KR KR (t := decide (a0.f2 ≥ 4294967296)) (decide_eq_false hp3132) ?_
          refine wp_skip ?_
          exact thenN ⟨a0.f0, a0.f1, a0.f2, a0.f3, a0.f4, A0_0, c0_0, a0.f5, a0.f6.f0, a0.f6.f1, a0.f7, h, ha.sub (subs_cons KR (subs_cons KR (subs_nil _))), HW.pick [1, 0] [] (by decide) (by decide) KR KR, hr0_0⟩
    · skip
      replace h := ite_neg' h hp3129
      replace ha := ha.bool 9 KR (ieq_f hp3129)
      refine stepo ha 10 KR ?_; clear ha a; intro a ha
      refine stepo ha 11 KR ?_; clear ha a; intro a ha
      refine stepo ha 12 KR ?_; clear ha a; intro a ha
      refine stepo ha 13 KR ?_; clear ha a; intro a ha
      refine stepo ha 14 KR ?_; clear ha a; intro a ha
      refine stepo ha 15 KR ?_; clear ha a; intro a ha
      refine stepo ha 16 KR ?_; clear ha a; intro a ha
      refine stepo ha 17 KR ?_; clear ha a; intro a ha
      refine stepp ha 18 (.bool false) KR KR ?_; clear ha a; intro a ha
      refine endl ?_
      refine thenN (hK3128 _ _ ?_); clear hK3128
      refine condF ha KR KR (t := false) (rfl) ?_
      refine wp_skip ?_
      exact thenN ⟨a0.f0, a0.f1, a0.f2, a0.f3, a0.f4, A0_0, c0_0, a0.f5, a0.f6.f0, a0.f6.f1, a0.f7, h, ha.sub (subs_cons KR (subs_cons KR (subs_nil _))), HW.pick [1, 0] [] (by decide) (by decide) KR KR, hr0_0⟩
  · skip
    intro a W3146 hJ
    obtain ⟨x3134, x3135, x3136, x3137, x3138, A3139, c3140, x3142, x3143, x3144, x3145, h, ha, HW, hr3141⟩ := hJ
    replace h : sense_Of_0.j0 K  x3134 x3135 x3136 x3137 x3138 x3142 x3143 x3144 x3145 = some r := h
    unfold sense_Of_0.j0 at h
    refine hK3126 _ _ ?_; clear hK3126
    refine wp_seq_k (fun K3147 hK3148 => ?_)
    refine wp_seq_k (fun K3149 hK3150 => ?_)
    refine wp_region_lit ?_
    refine stepl ha 20 (HW.ca0 hG1) 285 0 (.global 1) (.agg (encs T_sense_row.enc G_sense_rows).toArray) rfl KR KR KR ?_; clear ha a; intro a ha
    refine stepp ha 21 (.int .i64 0) KR KR ?_; clear ha a; intro a ha
    refine endl ?_
    refine thenN (hK3150 _ _ ?_); clear hK3150
    refine wp_block ?_
    refine loopk (fun k => fun a W3236 => ∃ (x3235 : Int), sense_Of_0.l0 K x3134 x3135 x3136 x3137 x3138 x3142 x3143 x3144 x3145 k x3235 = some r ∧ Has 43 [(1, .pointer (some ⟨b3121, 0, none⟩)), (3, .pointer (some ⟨b3123, 0, none⟩)), (20, .agg (encs T_sense_row.enc G_sense_rows).toArray), (21, .int .i64 x3235)] a ∧ Wd w W3236 [(b3121, .cells #[.int .i64 x3134, .string x3135, .int .i64 x3136, .int .i64 x3137, .slice A3139 x3138.length c3140, .int .u32 x3142, .int .i64 x3143, .string x3144, .int .i64 x3145] 66 (0, 0)), (b3123, .cells #[.int .i64 0, .int .i64 0, .int .i64 0, .int .i64 0] 40 (0, 0))] []) K ?_ ?_
    · skip
      exact ⟨0, h, ha.sub (subs_cons KR (subs_cons KR (subs_cons KR (subs_cons KR (subs_nil _))))), HW.pick [0, 1] [] (by decide) (by decide) KR KR⟩
    · skip
      intro k a W3236 hI
      obtain ⟨x3235, h, ha, HW⟩ := hI
      cases k with
      | zero => exact (none_some (show none = some r from h)).elim
      | succ k3237 =>
        replace h : sense_Of_0.b0 K x3134 x3135 x3136 x3137 x3138 x3142 x3143 x3144 x3145 (sense_Of_0.l0 K x3134 x3135 x3136 x3137 x3138 x3142 x3143 x3144 x3145 k3237) x3235 = some r := h
        obtain ⟨again3234, hag3238⟩ : ∃ g_, g_ = sense_Of_0.l0 K x3134 x3135 x3136 x3137 x3138 x3142 x3143 x3144 x3145 k3237 := ⟨_, rfl⟩
        rw [← hag3238] at h
        unfold sense_Of_0.b0 at h
        refine wp_seq_k (fun K3239 hK3240 => ?_)
        refine wp_region_lit ?_
        refine stepp ha 22 (.bool (decide (x3235 < 11))) KR KR ?_; clear ha a; intro a ha
        refine endl ?_
        refine thenN (hK3240 _ _ ?_); clear hK3240
        refine wp_seq_k (fun K3241 hK3242 => ?_)
        by_cases hp3243 : x3235 < 11
        · skip
          replace h := ite_pos' h hp3243
          refine condT ha KR KR (t := decide (x3235 < 11)) (decide_eq_true hp3243) ?_
          refine wp_skip ?_
          refine thenN (hK3242 _ _ ?_); clear hK3242
          refine wp_seq_k (fun K3244 hK3245 => ?_)
          refine wp_block ?_
          refine wp_seq_k (fun K3246 hK3247 => ?_)
          refine wp_region_lit ?_
          obtain ⟨hA3248, h_⟩ := asrt_some h; clear h; have h := h_; clear h_
          refine stepag T_sense_row.enc T_sense_row.z ha 23 285 11 284 (.tmp 20) (.tmp 21) .i64 x3235 G_sense_rows (.agg #[.int .i64 ((rdL T_sense_row.z G_sense_rows x3235).f0), .int .i64 ((rdL T_sense_row.z G_sense_rows x3235).f1), .int .i64 ((rdL T_sense_row.z G_sense_rows x3235).f2), .int .i64 ((rdL T_sense_row.z G_sense_rows x3235).f3), .int .i64 ((rdL T_sense_row.z G_sense_rows x3235).f4), .int .i64 ((rdL T_sense_row.z G_sense_rows x3235).f5)]) rfl KR KR KR KR (fun _ => rfl) hA3248 hp3243 KR rfl ?_; clear ha a; intro a ha
          refine stepnew ha HW 5 #[.int .i64 0, .int .i64 0, .int .i64 0, .int .i64 0, .int .i64 0, .int .i64 0] 284 KR KR ?_; clear ha HW a; intro b3249 a W3250 HW ha
          refine stepst ha HW 0 (b := b3249) (C := #[.int .i64 0, .int .i64 0, .int .i64 0, .int .i64 0, .int .i64 0, .int .i64 0]) (T := 284) KR 284 0 (.tmp 5) (.tmp 23) (.agg #[.int .i64 ((rdL T_sense_row.z G_sense_rows x3235).f0), .int .i64 ((rdL T_sense_row.z G_sense_rows x3235).f1), .int .i64 ((rdL T_sense_row.z G_sense_rows x3235).f2), .int .i64 ((rdL T_sense_row.z G_sense_rows x3235).f3), .int .i64 ((rdL T_sense_row.z G_sense_rows x3235).f4), .int .i64 ((rdL T_sense_row.z G_sense_rows x3235).f5)]) #[.int .i64 ((rdL T_sense_row.z G_sense_rows x3235).f0), .int .i64 ((rdL T_sense_row.z G_sense_rows x3235).f1), .int .i64 ((rdL T_sense_row.z G_sense_rows x3235).f2), .int .i64 ((rdL T_sense_row.z G_sense_rows x3235).f3), .int .i64 ((rdL T_sense_row.z G_sense_rows x3235).f4), .int .i64 ((rdL T_sense_row.z G_sense_rows x3235).f5)] rfl KR KR KR KR KR KR KR ?_; clear ha HW a; intro a W3251 HW ha
          refine endl ?_
          refine thenN (hK3247 _ _ ?_); clear hK3247
          refine wp_seq_k (fun K3252 hK3253 => ?_)
          refine wp_region_lit ?_
          refine stepl ha 24 (HW.ca (i := 0) (b := b3249) (C := #[.int .i64 ((rdL T_sense_row.z G_sense_rows x3235).f0), .int .i64 ((rdL T_sense_row.z G_sense_rows x3235).f1), .int .i64 ((rdL T_sense_row.z G_sense_rows x3235).f2), .int .i64 ((rdL T_sense_row.z G_sense_rows x3235).f3), .int .i64 ((rdL T_sense_row.z G_sense_rows x3235).f4), .int .i64 ((rdL T_sense_row.z G_sense_rows x3235).f5)]) (T := 284) (fr := (0, 0)) KR) 284 0 (.tmp 5) (.agg #[.int .i64 ((rdL T_sense_row.z G_sense_rows x3235).f0), .int .i64 ((rdL T_sense_row.z G_sense_rows x3235).f1), .int .i64 ((rdL T_sense_row.z G_sense_rows x3235).f2), .int .i64 ((rdL T_sense_row.z G_sense_rows x3235).f3), .int .i64 ((rdL T_sense_row.z G_sense_rows x3235).f4), .int .i64 ((rdL T_sense_row.z G_sense_rows x3235).f5)]) rfl KR KR KR ?_; clear ha a; intro a ha
          refine stepl ha 25 (HW.ca (i := 1) (b := b3121) (C := #[.int .i64 x3134, .string x3135, .int .i64 x3136, .int .i64 x3137, .slice A3139 x3138.length c3140, .int .u32 x3142, .int .i64 x3143, .string x3144, .int .i64 x3145]) (T := 66) (fr := (0, 0)) KR) 66 0 (.tmp 1) (.agg #[.int .i64 x3134, .string x3135, .int .i64 x3136, .int .i64 x3137, .slice A3139 x3138.length c3140, .int .u32 x3142, .int .i64 x3143, .string x3144, .int .i64 x3145]) rfl KR KR KR ?_; clear ha a; intro a ha
          obtain ⟨t3254, ht3255, h_⟩ := bind_some' h; clear h; have h := h_; clear h_
          refine stepc ha 26 KR KR (sense_row_outcome.calls (⟨(rdL T_sense_row.z G_sense_rows x3235).f0, (rdL T_sense_row.z G_sense_rows x3235).f1, (rdL T_sense_row.z G_sense_rows x3235).f2, (rdL T_sense_row.z G_sense_rows x3235).f3, (rdL T_sense_row.z G_sense_rows x3235).f4, (rdL T_sense_row.z G_sense_rows x3235).f5⟩ : T_sense_row) (⟨x3134, x3135, x3136, x3137, x3138, x3142, (⟨x3143, x3144⟩ : T_api_Hold), x3145⟩ : T_api_Out) A3139 c3140 t3254 _ ((HW.rd0 hr3141)) ht3255) ?_; clear ha a; rintro e W3256 ⟨rfl, HX3257⟩
          refine ⟨_, rfl, ?_⟩; intro a ha; replace HW := HW.callw HX3257; clear HX3257
          refine endl ?_
          refine thenN (hK3253 _ _ ?_); clear hK3253
          by_cases hp3258 : t3254 = true
          · skip
            replace h := ite_pos' h hp3258
            refine condT ha KR KR (t := t3254) (hp3258) ?_
            refine wp_seq_k (fun K3259 hK3260 => ?_)
            refine wp_region_lit ?_
            refine stepl ha 27 (HW.ca (i := 0) (b := b3249) (C := #[.int .i64 ((rdL T_sense_row.z G_sense_rows x3235).f0), .int .i64 ((rdL T_sense_row.z G_sense_rows x3235).f1), .int .i64 ((rdL T_sense_row.z G_sense_rows x3235).f2), .int .i64 ((rdL T_sense_row.z G_sense_rows x3235).f3), .int .i64 ((rdL T_sense_row.z G_sense_rows x3235).f4), .int .i64 ((rdL T_sense_row.z G_sense_rows x3235).f5)]) (T := 284) (fr := (0, 0)) KR) 284 0 (.tmp 5) (.agg #[.int .i64 ((rdL T_sense_row.z G_sense_rows x3235).f0), .int .i64 ((rdL T_sense_row.z G_sense_rows x3235).f1), .int .i64 ((rdL T_sense_row.z G_sense_rows x3235).f2), .int .i64 ((rdL T_sense_row.z G_sense_rows x3235).f3), .int .i64 ((rdL T_sense_row.z G_sense_rows x3235).f4), .int .i64 ((rdL T_sense_row.z G_sense_rows x3235).f5)]) rfl KR KR KR ?_; clear ha a; intro a ha
            obtain ⟨t3261, ht3262, h_⟩ := bind_some' h; clear h; have h := h_; clear h_
            refine stepc ha 28 KR KR (sense_row_sense.calls (⟨(rdL T_sense_row.z G_sense_rows x3235).f0, (rdL T_sense_row.z G_sense_rows x3235).f1, (rdL T_sense_row.z G_sense_rows x3235).f2, (rdL T_sense_row.z G_sense_rows x3235).f3, (rdL T_sense_row.z G_sense_rows x3235).f4, (rdL T_sense_row.z G_sense_rows x3235).f5⟩ : T_sense_row) t3261 _ ht3262) ?_; clear ha a; rintro e W3263 ⟨rfl, HX3264⟩
            refine ⟨_, rfl, ?_⟩; intro a ha; replace HW := HW.callw HX3264; clear HX3264
            refine stepst ha HW 2 (b := b3123) (C := #[.int .i64 0, .int .i64 0, .int .i64 0, .int .i64 0]) (T := 40) KR 40 0 (.tmp 3) (.tmp 28) (.agg #[.int .i64 t3261.f0, .int .i64 t3261.f1, .int .i64 t3261.f2, .int .i64 t3261.f3]) #[.int .i64 t3261.f0, .int .i64 t3261.f1, .int .i64 t3261.f2, .int .i64 t3261.f3] rfl KR KR KR KR KR KR KR ?_; clear ha HW a; intro a W3265 HW ha
            refine endl ?_
            refine thenN (hK3260 _ _ ?_); clear hK3260
            refine wp_seq_k (fun K3266 hK3267 => ?_)
            refine wp_seq_k (fun K3268 hK3269 => ?_)
            refine wp_region_lit ?_
            refine stepp ha 29 (.pointer (some ⟨b3249, 0, none⟩)) KR KR ?_; clear ha a; intro a ha
            refine stepl ha 30 (HW.ca (i := 0) (b := b3249) (C := #[.int .i64 ((rdL T_sense_row.z G_sense_rows x3235).f0), .int .i64 ((rdL T_sense_row.z G_sense_rows x3235).f1), .int .i64 ((rdL T_sense_row.z G_sense_rows x3235).f2), .int .i64 ((rdL T_sense_row.z G_sense_rows x3235).f3), .int .i64 ((rdL T_sense_row.z G_sense_rows x3235).f4), .int .i64 ((rdL T_sense_row.z G_sense_rows x3235).f5)]) (T := 284) (fr := (0, 0)) KR) 3 0 (.tmp 29) (.int .i64 ((rdL T_sense_row.z G_sense_rows x3235).f0)) rfl KR KR KR ?_; clear ha a; intro a ha
            refine stepp ha 31 (.bool (((rdL T_sense_row.z G_sense_rows x3235).f0) == 3)) KR KR ?_; clear ha a; intro a ha
            refine endl ?_
            refine thenN (hK3269 _ _ ?_); clear hK3269
            by_cases hp3270 : ((rdL T_sense_row.z G_sense_rows x3235).f0) = 3
            · skip
              replace h := ite_pos' h hp3270
              refine condT ha KR KR (t := (((rdL T_sense_row.z G_sense_rows x3235).f0) == 3)) (ieq_t hp3270) ?_
              refine wp_region_lit ?_
              refine stepp ha 32 (.pointer (some ⟨b3121, 2, none⟩)) KR KR ?_; clear ha a; intro a ha
              refine stepl ha 33 (HW.ca (i := 1) (b := b3121) (C := #[.int .i64 x3134, .string x3135, .int .i64 x3136, .int .i64 x3137, .slice A3139 x3138.length c3140, .int .u32 x3142, .int .i64 x3143, .string x3144, .int .i64 x3145]) (T := 66) (fr := (0, 0)) KR) 3 2 (.tmp 32) (.int .i64 x3136) rfl KR KR KR ?_; clear ha a; intro a ha
              refine stepp ha 34 (.pointer (some ⟨b3123, 3, none⟩)) KR KR ?_; clear ha a; intro a ha
              refine stepst ha HW 2 (b := b3123) (C := #[.int .i64 t3261.f0, .int .i64 t3261.f1, .int .i64 t3261.f2, .int .i64 t3261.f3]) (T := 40) KR 3 3 (.tmp 34) (.tmp 33) (.int .i64 x3136) #[.int .i64 t3261.f0, .int .i64 t3261.f1, .int .i64 t3261.f2, .int .i64 x3136] rfl KR KR KR KR KR KR KR ?_; clear ha HW a; intro a W3271 HW ha
              refine endl ?_
              refine thenN (hK3267 _ _ ?_); clear hK3267
              refine wp_seq_k (fun K3272 hK3273 => ?_)
              refine regionG 4 KR KR ha HW [.fix (.pointer (some ⟨b3249, 2, none⟩)), .fix (.int .i64 ((rdL T_sense_row.z G_sense_rows x3235).f2)), .fix (.agg #[.int .i64 t3261.f0, .int .i64 t3261.f1, .int .i64 t3261.f2, .int .i64 x3136]), .fix (.int .i64 ((rdL T_sense_row.z G_sense_rows x3235).f2))] ?_ ?_
              · skip
                refine ⟨?_, ?_, ?_, ?_, trivial⟩
                · skip
                  intro a wr hn hd HW hs; have ha := hasNil hn hd
                  have ha := ha.add (seeE hs 5 (.pointer (some ⟨b3249, 0, none⟩)) KR KR)
                  refine yStep ha 35 KR ?_; intro l_ ha HK
                  refine stepp ha 35 (.pointer (some ⟨b3249, 2, none⟩)) KR KR ?_; intro ax hax; exact HK _ _ _ hax rfl (Below.refl _ _)
                · skip
                  intro a wr hn hd HW hs; have ha := hasNil hn hd
                  have ha := ha.add (seeF hs 35 0 (.pointer (some ⟨b3249, 2, none⟩)) KR KR)
                  refine yStep ha 36 KR ?_; intro l_ ha HK
                  refine stepl ha 36 (HW.ca (i := 0) (b := b3249) (C := #[.int .i64 ((rdL T_sense_row.z G_sense_rows x3235).f0), .int .i64 ((rdL T_sense_row.z G_sense_rows x3235).f1), .int .i64 ((rdL T_sense_row.z G_sense_rows x3235).f2), .int .i64 ((rdL T_sense_row.z G_sense_rows x3235).f3), .int .i64 ((rdL T_sense_row.z G_sense_rows x3235).f4), .int .i64 ((rdL T_sense_row.z G_sense_rows x3235).f5)]) (T := 284) (fr := (0, 0)) KR) 3 2 (.tmp 35) (.int .i64 ((rdL T_sense_row.z G_sense_rows x3235).f2)) rfl KR KR KR ?_; intro ax hax; exact HK _ _ _ hax rfl (Below.refl _ _)
                · skip
                  intro a wr hn hd HW hs; have ha := hasNil hn hd
                  have ha := ha.add (seeE hs 3 (.pointer (some ⟨b3123, 0, none⟩)) KR KR)
                  refine yStep ha 37 KR ?_; intro l_ ha HK
                  refine stepl ha 37 (HW.ca (i := 2) (b := b3123) (C := #[.int .i64 t3261.f0, .int .i64 t3261.f1, .int .i64 t3261.f2, .int .i64 x3136]) (T := 40) (fr := (0, 0)) KR) 40 0 (.tmp 3) (.agg #[.int .i64 t3261.f0, .int .i64 t3261.f1, .int .i64 t3261.f2, .int .i64 x3136]) rfl KR KR KR ?_; intro ax hax; exact HK _ _ _ hax rfl (Below.refl _ _)
                · skip
                  intro a wr hn hd HW hs; have ha := hasNil hn hd
                  have ha := ha.add (seeF hs 36 1 (.int .i64 ((rdL T_sense_row.z G_sense_rows x3235).f2)) KR KR)
                  refine yStep ha 2 KR ?_; intro l_ ha HK
                  refine stepp ha 2 (.int .i64 ((rdL T_sense_row.z G_sense_rows x3235).f2)) KR KR ?_; intro ax hax; exact HK _ _ _ hax rfl (Below.refl _ _)
              · skip
                intro a W3274 ha HW he hf
                replace ha := ha.add (gotF (m := 4) (j := 3) (d := 2) (v := .int .i64 ((rdL T_sense_row.z G_sense_rows x3235).f2)) hf KR KR KR)
                replace ha := ha.add (he 3 (.pointer (some ⟨b3123, 0, none⟩)) KR KR)
                replace ha := ha.add (gotF (m := 4) (j := 2) (d := 37) (v := .agg #[.int .i64 t3261.f0, .int .i64 t3261.f1, .int .i64 t3261.f2, .int .i64 x3136]) hf KR KR KR)
                clear he hf
                refine stepst ha HW 2 (b := b3123) (C := #[.int .i64 t3261.f0, .int .i64 t3261.f1, .int .i64 t3261.f2, .int .i64 x3136]) (T := 40) KR 40 0 (.tmp 3) (.tmp 37) (.agg #[.int .i64 t3261.f0, .int .i64 t3261.f1, .int .i64 t3261.f2, .int .i64 x3136]) #[.int .i64 t3261.f0, .int .i64 t3261.f1, .int .i64 t3261.f2, .int .i64 x3136] rfl KR KR KR KR KR KR KR ?_; clear ha HW a; intro a W3275 HW ha
                refine endl ?_
                refine thenN (hK3273 _ _ ?_); clear hK3273
                refine wp_ret ?_
                refine blkR ?_
                refine thenR ?_
                refine thenR ?_
                refine blkR ?_
                refine thenR ?_
                obtain rfl := Option.some.inj h
                exact finv ha _ _ rfl (.tmp (v := .int .i64 ((rdL T_sense_row.z G_sense_rows x3235).f2)) KR (.cell (ad := ⟨b3123, 0, none⟩) (v := .agg #[.int .i64 t3261.f0, .int .i64 t3261.f1, .int .i64 t3261.f2, .int .i64 x3136]) KR (run_loadVar_ca0 (HW.ca (i := 2) (b := b3123) (C := #[.int .i64 t3261.f0, .int .i64 t3261.f1, .int .i64 t3261.f2, .int .i64 x3136]) (T := 40) (fr := (0, 0)) KR) 40 0 (.agg #[.int .i64 t3261.f0, .int .i64 t3261.f1, .int .i64 t3261.f2, .int .i64 x3136]) KR) .nil)) (.tuple #[.int .i64 ((rdL T_sense_row.z G_sense_rows x3235).f2), .agg #[.int .i64 t3261.f0, .int .i64 t3261.f1, .int .i64 t3261.f2, .int .i64 x3136]]) rfl ⟨rfl, HW.pick [] [] (by decide) (by decide) rfl KR⟩
            · skip
              replace h := ite_neg' h hp3270
              refine condF ha KR KR (t := (((rdL T_sense_row.z G_sense_rows x3235).f0) == 3)) (ieq_f hp3270) ?_
              refine wp_skip ?_
              refine thenN (hK3267 _ _ ?_); clear hK3267
              refine wp_seq_k (fun K3276 hK3277 => ?_)
              refine regionG 4 KR KR ha HW [.fix (.pointer (some ⟨b3249, 2, none⟩)), .fix (.int .i64 ((rdL T_sense_row.z G_sense_rows x3235).f2)), .fix (.agg #[.int .i64 t3261.f0, .int .i64 t3261.f1, .int .i64 t3261.f2, .int .i64 t3261.f3]), .fix (.int .i64 ((rdL T_sense_row.z G_sense_rows x3235).f2))] ?_ ?_
              · skip
                refine ⟨?_, ?_, ?_, ?_, trivial⟩
                · skip
                  intro a wr hn hd HW hs; have ha := hasNil hn hd
                  have ha := ha.add (seeE hs 5 (.pointer (some ⟨b3249, 0, none⟩)) KR KR)
                  refine yStep ha 35 KR ?_; intro l_ ha HK
                  refine stepp ha 35 (.pointer (some ⟨b3249, 2, none⟩)) KR KR ?_; intro ax hax; exact HK _ _ _ hax rfl (Below.refl _ _)
                · skip
                  intro a wr hn hd HW hs; have ha := hasNil hn hd
                  have ha := ha.add (seeF hs 35 0 (.pointer (some ⟨b3249, 2, none⟩)) KR KR)
                  refine yStep ha 36 KR ?_; intro l_ ha HK
                  refine stepl ha 36 (HW.ca (i := 0) (b := b3249) (C := #[.int .i64 ((rdL T_sense_row.z G_sense_rows x3235).f0), .int .i64 ((rdL T_sense_row.z G_sense_rows x3235).f1), .int .i64 ((rdL T_sense_row.z G_sense_rows x3235).f2), .int .i64 ((rdL T_sense_row.z G_sense_rows x3235).f3), .int .i64 ((rdL T_sense_row.z G_sense_rows x3235).f4), .int .i64 ((rdL T_sense_row.z G_sense_rows x3235).f5)]) (T := 284) (fr := (0, 0)) KR) 3 2 (.tmp 35) (.int .i64 ((rdL T_sense_row.z G_sense_rows x3235).f2)) rfl KR KR KR ?_; intro ax hax; exact HK _ _ _ hax rfl (Below.refl _ _)
                · skip
                  intro a wr hn hd HW hs; have ha := hasNil hn hd
                  have ha := ha.add (seeE hs 3 (.pointer (some ⟨b3123, 0, none⟩)) KR KR)
                  refine yStep ha 37 KR ?_; intro l_ ha HK
                  refine stepl ha 37 (HW.ca (i := 2) (b := b3123) (C := #[.int .i64 t3261.f0, .int .i64 t3261.f1, .int .i64 t3261.f2, .int .i64 t3261.f3]) (T := 40) (fr := (0, 0)) KR) 40 0 (.tmp 3) (.agg #[.int .i64 t3261.f0, .int .i64 t3261.f1, .int .i64 t3261.f2, .int .i64 t3261.f3]) rfl KR KR KR ?_; intro ax hax; exact HK _ _ _ hax rfl (Below.refl _ _)
                · skip
                  intro a wr hn hd HW hs; have ha := hasNil hn hd
                  have ha := ha.add (seeF hs 36 1 (.int .i64 ((rdL T_sense_row.z G_sense_rows x3235).f2)) KR KR)
                  refine yStep ha 2 KR ?_; intro l_ ha HK
                  refine stepp ha 2 (.int .i64 ((rdL T_sense_row.z G_sense_rows x3235).f2)) KR KR ?_; intro ax hax; exact HK _ _ _ hax rfl (Below.refl _ _)
              · skip
                intro a W3278 ha HW he hf
                replace ha := ha.add (gotF (m := 4) (j := 3) (d := 2) (v := .int .i64 ((rdL T_sense_row.z G_sense_rows x3235).f2)) hf KR KR KR)
                replace ha := ha.add (he 3 (.pointer (some ⟨b3123, 0, none⟩)) KR KR)
                replace ha := ha.add (gotF (m := 4) (j := 2) (d := 37) (v := .agg #[.int .i64 t3261.f0, .int .i64 t3261.f1, .int .i64 t3261.f2, .int .i64 t3261.f3]) hf KR KR KR)
                clear he hf
                refine stepst ha HW 2 (b := b3123) (C := #[.int .i64 t3261.f0, .int .i64 t3261.f1, .int .i64 t3261.f2, .int .i64 t3261.f3]) (T := 40) KR 40 0 (.tmp 3) (.tmp 37) (.agg #[.int .i64 t3261.f0, .int .i64 t3261.f1, .int .i64 t3261.f2, .int .i64 t3261.f3]) #[.int .i64 t3261.f0, .int .i64 t3261.f1, .int .i64 t3261.f2, .int .i64 t3261.f3] rfl KR KR KR KR KR KR KR ?_; clear ha HW a; intro a W3279 HW ha
                refine endl ?_
                refine thenN (hK3277 _ _ ?_); clear hK3277
                refine wp_ret ?_
                refine blkR ?_
                refine thenR ?_
                refine thenR ?_
                refine blkR ?_
                refine thenR ?_
                obtain rfl := Option.some.inj h
                exact finv ha _ _ rfl (.tmp (v := .int .i64 ((rdL T_sense_row.z G_sense_rows x3235).f2)) KR (.cell (ad := ⟨b3123, 0, none⟩) (v := .agg #[.int .i64 t3261.f0, .int .i64 t3261.f1, .int .i64 t3261.f2, .int .i64 t3261.f3]) KR (run_loadVar_ca0 (HW.ca (i := 2) (b := b3123) (C := #[.int .i64 t3261.f0, .int .i64 t3261.f1, .int .i64 t3261.f2, .int .i64 t3261.f3]) (T := 40) (fr := (0, 0)) KR) 40 0 (.agg #[.int .i64 t3261.f0, .int .i64 t3261.f1, .int .i64 t3261.f2, .int .i64 t3261.f3]) KR) .nil)) (.tuple #[.int .i64 ((rdL T_sense_row.z G_sense_rows x3235).f2), .agg #[.int .i64 t3261.f0, .int .i64 t3261.f1, .int .i64 t3261.f2, .int .i64 t3261.f3]]) rfl ⟨rfl, HW.pick [] [] (by decide) (by decide) rfl KR⟩
          · skip
            replace h := ite_neg' h hp3258
            refine condF ha KR KR (t := t3254) (bool_f hp3258) ?_
            refine wp_skip ?_
            refine blkN ?_
            refine thenN (hK3245 _ _ ?_); clear hK3245
            refine wp_region_lit ?_
            refine stepp ha 38 (.int .i64 (IntKind.wrap .i64 (x3235 + 1))) KR KR ?_; clear ha a; intro a ha
            refine stepp ha 21 (.int .i64 (IntKind.wrap .i64 (x3235 + 1))) KR KR ?_; clear ha a; intro a ha
            refine endl ?_
            exact thenN ⟨k3237, Nat.lt_succ_self k3237, IntKind.wrap .i64 (x3235 + 1), (by rw [← hag3238]; exact h), ha.sub (subs_cons KR (subs_cons KR (subs_cons KR (subs_cons KR (subs_nil _))))), HW.pick [1, 2] [] (by decide) (by decide) KR KR⟩
        · skip
          replace h := ite_neg' h hp3243
          refine condF ha KR KR (t := decide (x3235 < 11)) (decide_eq_false hp3243) ?_
          refine wp_exit ?_
          refine thenE ?_
          refine thenE ?_
          refine inBlk ?_
          refine thenN (hK3148 _ _ ?_); clear hK3148
          refine wp_seq_k (fun K3280 hK3281 => ?_)
          refine wp_region_lit ?_
          refine stepp ha 39 (.agg #[.int .i64 8, .string (⟨#[]⟩ : ByteArray), .int .i64 0, .int .i64 0, .slice none 0 0, .int .u32 0, .int .i64 0, .string (⟨#[]⟩ : ByteArray), .int .i64 0]) KR KR ?_; clear ha a; intro a ha
          exact (none_some h).elim
/-! ### headgate/sense.Of: function 127 -/
def sense_Of.b0 (K : Nat) (x3297 : Int) (x3298 : ByteArray) (x3299 : Int) (x3300 : Int) (x3301 : List T_api_Reg) (x3305 : Int) (x3306 : Int) (x3307 : ByteArray) (x3308 : Int) (again3397 : Int → Option (Int × T_api_Sense)) (x3398 : Int) : Option (Int × T_api_Sense) :=
  if x3398 < 11 then (asrt (0 ≤ x3398) ((sense_row_outcome.f (⟨(rdL T_sense_row.z G_sense_rows x3398).f0, (rdL T_sense_row.z G_sense_rows x3398).f1, (rdL T_sense_row.z G_sense_rows x3398).f2, (rdL T_sense_row.z G_sense_rows x3398).f3, (rdL T_sense_row.z G_sense_rows x3398).f4, (rdL T_sense_row.z G_sense_rows x3398).f5⟩ : T_sense_row) (⟨x3297, x3298, x3299, x3300, x3301, x3305, (⟨x3306, x3307⟩ : T_api_Hold), x3308⟩ : T_api_Out)).bind fun t3417 => (if t3417 = true then ((sense_row_sense.f (⟨(rdL T_sense_row.z G_sense_rows x3398).f0, (rdL T_sense_row.z G_sense_rows x3398).f1, (rdL T_sense_row.z G_sense_rows x3398).f2, (rdL T_sense_row.z G_sense_rows x3398).f3, (rdL T_sense_row.z G_sense_rows x3398).f4, (rdL T_sense_row.z G_sense_rows x3398).f5⟩ : T_sense_row)).bind fun t3424 => (if ((rdL T_sense_row.z G_sense_rows x3398).f0) = 3 then (some ((rdL T_sense_row.z G_sense_rows x3398).f2, (⟨t3424.f0, t3424.f1, t3424.f2, x3299⟩ : T_api_Sense))) else (some ((rdL T_sense_row.z G_sense_rows x3398).f2, t3424)))) else (again3397 (IntKind.wrap .i64 (x3398 + 1)))))) else ((sense_Of_0.f K (⟨8, (⟨#[]⟩ : ByteArray), 0, 0, ([] : List T_api_Reg), 0, (⟨0, (⟨#[]⟩ : ByteArray)⟩ : T_api_Hold), 0⟩ : T_api_Out)).bind fun t3445 => (some (t3445.1, (⟨t3445.2.f0, t3445.2.f1, t3445.2.f2, t3445.2.f3⟩ : T_api_Sense))))
def sense_Of.l0 (K : Nat) (x3297 : Int) (x3298 : ByteArray) (x3299 : Int) (x3300 : Int) (x3301 : List T_api_Reg) (x3305 : Int) (x3306 : Int) (x3307 : ByteArray) (x3308 : Int) : Nat → Int → Option (Int × T_api_Sense)
  | 0, _ => none
  | k_ + 1, x3398 => sense_Of.b0 K x3297 x3298 x3299 x3300 x3301 x3305 x3306 x3307 x3308 (sense_Of.l0 K x3297 x3298 x3299 x3300 x3301 x3305 x3306 x3307 x3308 k_) x3398
def sense_Of.j0 (K : Nat) (x3297 : Int) (x3298 : ByteArray) (x3299 : Int) (x3300 : Int) (x3301 : List T_api_Reg) (x3305 : Int) (x3306 : Int) (x3307 : ByteArray) (x3308 : Int) : Option (Int × T_api_Sense) :=
  sense_Of.l0 K x3297 x3298 x3299 x3300 x3301 x3305 x3306 x3307 x3308 K 0
def sense_Of.f (K : Nat) (a0 : T_api_Out) : Option (Int × T_api_Sense) :=
  if a0.f0 = 3 then (if a0.f2 < 0 then (sense_Of.j0 K  8 (⟨#[]⟩ : ByteArray) 0 0 ([] : List T_api_Reg) 0 0 (⟨#[]⟩ : ByteArray) 0) else (if a0.f2 ≥ 4294967296 then (sense_Of.j0 K  8 (⟨#[]⟩ : ByteArray) 0 0 ([] : List T_api_Reg) 0 0 (⟨#[]⟩ : ByteArray) 0) else (sense_Of.j0 K  a0.f0 a0.f1 a0.f2 a0.f3 a0.f4 a0.f5 a0.f6.f0 a0.f6.f1 a0.f7))) else (sense_Of.j0 K  a0.f0 a0.f1 a0.f2 a0.f3 a0.f4 a0.f5 a0.f6.f0 a0.f6.f1 a0.f7)
set_option maxRecDepth 100000 in
set_option maxHeartbeats 4000000 in
theorem sense_Of.calls (K : Nat) (a0 : T_api_Out) (A0_0 : Option Addr) (c0_0 : Nat) (r : Int × T_api_Sense) (w : World) (hG1 : CA w 1 0 (encs T_sense_row.enc G_sense_rows).toArray) (hr0_0 : Rd 2 w (.slice A0_0 a0.f4.length c0_0) a0.f4.length (encs T_api_Reg.enc a0.f4)) (h : sense_Of.f K a0 = some r) :
    Calls Tryz.prog 127 #[.agg #[.int .i64 a0.f0, .string a0.f1, .int .i64 a0.f2, .int .i64 a0.f3, .slice A0_0 a0.f4.length c0_0, .int .u32 a0.f5, .int .i64 a0.f6.f0, .string a0.f6.f1, .int .i64 a0.f7]] w (fun e W' => e = .returned (.tuple #[.int .i64 r.1, .agg #[.int .i64 r.2.f0, .int .i64 r.2.f1, .int .i64 r.2.f2, .int .i64 r.2.f3]]) ∧ Wd w W' [] [] ) := by
  refine sxstart (n := 43) (l := [(0, .agg #[.int .i64 a0.f0, .string a0.f1, .int .i64 a0.f2, .int .i64 a0.f3, .slice A0_0 a0.f4.length c0_0, .int .u32 a0.f5, .int .i64 a0.f6.f0, .string a0.f6.f1, .int .i64 a0.f7])]) Tryz.func127 rfl rfl (Nat.le_of_ble_eq_true KR) (subsA_cons rfl (subsA_nil _)) ?_
  intro a ha
  have HW := Wd.refl w
  unfold sense_Of.f at h
  refine wp_seq_k (fun K3282 hK3283 => ?_)
  refine wp_region_lit ?_
  refine stepnew ha HW 1 #[.int .i64 a0.f0, .string a0.f1, .int .i64 a0.f2, .int .i64 a0.f3, .slice A0_0 a0.f4.length c0_0, .int .u32 a0.f5, .int .i64 a0.f6.f0, .string a0.f6.f1, .int .i64 a0.f7] 66 KR KR ?_; clear ha HW a; intro b3284 a W3285 HW ha
  refine stepp ha 2 (.int .i64 0) KR KR ?_; clear ha a; intro a ha
  refine stepnew ha HW 3 #[.int .i64 0, .int .i64 0, .int .i64 0, .int .i64 0] 40 KR KR ?_; clear ha HW a; intro b3286 a W3287 HW ha
  refine endl ?_
  refine thenN (hK3283 _ _ ?_); clear hK3283
  refine wp_seq_k (fun K3288 hK3289 => ?_)
  refine cutn (fun a W3309 => ∃ (x3297 : Int), ∃ (x3298 : ByteArray), ∃ (x3299 : Int), ∃ (x3300 : Int), ∃ (x3301 : List T_api_Reg), ∃ A3302, ∃ c3303, ∃ (x3305 : Int), ∃ (x3306 : Int), ∃ (x3307 : ByteArray), ∃ (x3308 : Int), sense_Of.j0 K  x3297 x3298 x3299 x3300 x3301 x3305 x3306 x3307 x3308 = some r ∧ Has 43 [(1, .pointer (some ⟨b3284, 0, none⟩)), (3, .pointer (some ⟨b3286, 0, none⟩))] a ∧ Wd w W3309 [(b3284, .cells #[.int .i64 x3297, .string x3298, .int .i64 x3299, .int .i64 x3300, .slice A3302 x3301.length c3303, .int .u32 x3305, .int .i64 x3306, .string x3307, .int .i64 x3308] 66 (0, 0)), (b3286, .cells #[.int .i64 0, .int .i64 0, .int .i64 0, .int .i64 0] 40 (0, 0))] [] ∧ Rd 2 w (.slice A3302 x3301.length c3303) x3301.length (encs T_api_Reg.enc x3301)) ?_ ?_
  · skip
    refine wp_seq_k (fun K3290 hK3291 => ?_)
    refine wp_region_lit ?_
    refine stepp ha 6 (.pointer (some ⟨b3284, 0, none⟩)) KR KR ?_; clear ha a; intro a ha
    refine stepl ha 7 (HW.ca (i := 1) (b := b3284) (C := #[.int .i64 a0.f0, .string a0.f1, .int .i64 a0.f2, .int .i64 a0.f3, .slice A0_0 a0.f4.length c0_0, .int .u32 a0.f5, .int .i64 a0.f6.f0, .string a0.f6.f1, .int .i64 a0.f7]) (T := 66) (fr := (0, 0)) KR) 3 0 (.tmp 6) (.int .i64 a0.f0) rfl KR KR KR ?_; clear ha a; intro a ha
    refine stepp ha 8 (.bool (a0.f0 == 3)) KR KR ?_; clear ha a; intro a ha
    refine stepp ha 9 (.bool (a0.f0 == 3)) KR KR ?_; clear ha a; intro a ha
    by_cases hp3292 : a0.f0 = 3
    · skip
      replace h := ite_pos' h hp3292
      replace ha := ha.bool 9 KR (ieq_t hp3292)
      refine stepp ha 10 (.pointer (some ⟨b3284, 2, none⟩)) KR KR ?_; clear ha a; intro a ha
      refine stepl ha 11 (HW.ca (i := 1) (b := b3284) (C := #[.int .i64 a0.f0, .string a0.f1, .int .i64 a0.f2, .int .i64 a0.f3, .slice A0_0 a0.f4.length c0_0, .int .u32 a0.f5, .int .i64 a0.f6.f0, .string a0.f6.f1, .int .i64 a0.f7]) (T := 66) (fr := (0, 0)) KR) 3 2 (.tmp 10) (.int .i64 a0.f2) rfl KR KR KR ?_; clear ha a; intro a ha
      refine stepp ha 12 (.bool (decide (a0.f2 < 0))) KR KR ?_; clear ha a; intro a ha
      refine stepp ha 13 (.bool (decide (a0.f2 < 0))) KR KR ?_; clear ha a; intro a ha
      by_cases hp3293 : a0.f2 < 0
      · skip
        replace h := ite_pos' h hp3293
        replace ha := ha.bool 13 KR (decide_eq_true hp3293)
        refine stepo ha 14 KR ?_; clear ha a; intro a ha
        refine stepo ha 15 KR ?_; clear ha a; intro a ha
        refine stepo ha 16 KR ?_; clear ha a; intro a ha
        refine stepp ha 17 (.bool true) KR KR ?_; clear ha a; intro a ha
        refine stepp ha 18 (.bool true) KR KR ?_; clear ha a; intro a ha
        refine endl ?_
        refine thenN (hK3291 _ _ ?_); clear hK3291
        refine condT ha KR KR (t := true) (rfl) ?_
        refine wp_region_lit ?_
        refine stepp ha 19 (.agg #[.int .i64 8, .string (⟨#[]⟩ : ByteArray), .int .i64 0, .int .i64 0, .slice none 0 0, .int .u32 0, .int .i64 0, .string (⟨#[]⟩ : ByteArray), .int .i64 0]) KR KR ?_; clear ha a; intro a ha
        refine stepst ha HW 1 (b := b3284) (C := #[.int .i64 a0.f0, .string a0.f1, .int .i64 a0.f2, .int .i64 a0.f3, .slice A0_0 a0.f4.length c0_0, .int .u32 a0.f5, .int .i64 a0.f6.f0, .string a0.f6.f1, .int .i64 a0.f7]) (T := 66) KR 66 0 (.tmp 1) (.tmp 19) (.agg #[.int .i64 8, .string (⟨#[]⟩ : ByteArray), .int .i64 0, .int .i64 0, .slice none 0 0, .int .u32 0, .int .i64 0, .string (⟨#[]⟩ : ByteArray), .int .i64 0]) #[.int .i64 8, .string (⟨#[]⟩ : ByteArray), .int .i64 0, .int .i64 0, .slice none 0 0, .int .u32 0, .int .i64 0, .string (⟨#[]⟩ : ByteArray), .int .i64 0] rfl KR KR KR KR KR KR KR ?_; clear ha HW a; intro a W3294 HW ha
        refine endl ?_
        exact thenN ⟨8, (⟨#[]⟩ : ByteArray), 0, 0, ([] : List T_api_Reg), none, 0, 0, 0, (⟨#[]⟩ : ByteArray), 0, h, ha.sub (subs_cons KR (subs_cons KR (subs_nil _))), HW.pick [1, 0] [] (by decide) (by decide) KR KR, Rd.nil _ _⟩
      · skip
        replace h := ite_neg' h hp3293
        replace ha := ha.bool 13 KR (decide_eq_false hp3293)
        refine stepp ha 14 (.pointer (some ⟨b3284, 2, none⟩)) KR KR ?_; clear ha a; intro a ha
        refine stepl ha 15 (HW.ca (i := 1) (b := b3284) (C := #[.int .i64 a0.f0, .string a0.f1, .int .i64 a0.f2, .int .i64 a0.f3, .slice A0_0 a0.f4.length c0_0, .int .u32 a0.f5, .int .i64 a0.f6.f0, .string a0.f6.f1, .int .i64 a0.f7]) (T := 66) (fr := (0, 0)) KR) 3 2 (.tmp 14) (.int .i64 a0.f2) rfl KR KR KR ?_; clear ha a; intro a ha
        refine stepp ha 16 (.bool (decide (a0.f2 ≥ 4294967296))) KR KR ?_; clear ha a; intro a ha
        refine stepp ha 17 (.bool (decide (a0.f2 ≥ 4294967296))) KR KR ?_; clear ha a; intro a ha
        refine stepp ha 18 (.bool (decide (a0.f2 ≥ 4294967296))) KR KR ?_; clear ha a; intro a ha
        refine endl ?_
        refine thenN (hK3291 _ _ ?_); clear hK3291
        by_cases hp3295 : a0.f2 ≥ 4294967296
        · skip
          replace h := ite_pos' h hp3295
          refine condT ha KR KR (t := decide (a0.f2 ≥ 4294967296)) (decide_eq_true hp3295) ?_
          refine wp_region_lit ?_
          refine stepp ha 19 (.agg #[.int .i64 8, .string (⟨#[]⟩ : ByteArray), .int .i64 0, .int .i64 0, .slice none 0 0, .int .u32 0, .int .i64 0, .string (⟨#[]⟩ : ByteArray), .int .i64 0]) KR KR ?_; clear ha a; intro a ha
          refine stepst ha HW 1 (b := b3284) (C := #[.int .i64 a0.f0, .string a0.f1, .int .i64 a0.f2, .int .i64 a0.f3, .slice A0_0 a0.f4.length c0_0, .int .u32 a0.f5, .int .i64 a0.f6.f0, .string a0.f6.f1, .int .i64 a0.f7]) (T := 66) KR 66 0 (.tmp 1) (.tmp 19) (.agg #[.int .i64 8, .string (⟨#[]⟩ : ByteArray), .int .i64 0, .int .i64 0, .slice none 0 0, .int .u32 0, .int .i64 0, .string (⟨#[]⟩ : ByteArray), .int .i64 0]) #[.int .i64 8, .string (⟨#[]⟩ : ByteArray), .int .i64 0, .int .i64 0, .slice none 0 0, .int .u32 0, .int .i64 0, .string (⟨#[]⟩ : ByteArray), .int .i64 0] rfl KR KR KR KR KR KR KR ?_; clear ha HW a; intro a W3296 HW ha
          refine endl ?_
          exact thenN ⟨8, (⟨#[]⟩ : ByteArray), 0, 0, ([] : List T_api_Reg), none, 0, 0, 0, (⟨#[]⟩ : ByteArray), 0, h, ha.sub (subs_cons KR (subs_cons KR (subs_nil _))), HW.pick [1, 0] [] (by decide) (by decide) KR KR, Rd.nil _ _⟩
        · skip
          replace h := ite_neg' h hp3295
          refine condF ha KR KR (t := decide (a0.f2 ≥ 4294967296)) (decide_eq_false hp3295) ?_
          refine wp_skip ?_
          exact thenN ⟨a0.f0, a0.f1, a0.f2, a0.f3, a0.f4, A0_0, c0_0, a0.f5, a0.f6.f0, a0.f6.f1, a0.f7, h, ha.sub (subs_cons KR (subs_cons KR (subs_nil _))), HW.pick [1, 0] [] (by decide) (by decide) KR KR, hr0_0⟩
    · skip
      replace h := ite_neg' h hp3292
      replace ha := ha.bool 9 KR (ieq_f hp3292)
      refine stepo ha 10 KR ?_; clear ha a; intro a ha
      refine stepo ha 11 KR ?_; clear ha a; intro a ha
      refine stepo ha 12 KR ?_; clear ha a; intro a ha
      refine stepo ha 13 KR ?_; clear ha a; intro a ha
      refine stepo ha 14 KR ?_; clear ha a; intro a ha
      refine stepo ha 15 KR ?_; clear ha a; intro a ha
      refine stepo ha 16 KR ?_; clear ha a; intro a ha
      refine stepo ha 17 KR ?_; clear ha a; intro a ha
      refine stepp ha 18 (.bool false) KR KR ?_; clear ha a; intro a ha
      refine endl ?_
      refine thenN (hK3291 _ _ ?_); clear hK3291
      refine condF ha KR KR (t := false) (rfl) ?_
      refine wp_skip ?_
      exact thenN ⟨a0.f0, a0.f1, a0.f2, a0.f3, a0.f4, A0_0, c0_0, a0.f5, a0.f6.f0, a0.f6.f1, a0.f7, h, ha.sub (subs_cons KR (subs_cons KR (subs_nil _))), HW.pick [1, 0] [] (by decide) (by decide) KR KR, hr0_0⟩
  · skip
    intro a W3309 hJ
    obtain ⟨x3297, x3298, x3299, x3300, x3301, A3302, c3303, x3305, x3306, x3307, x3308, h, ha, HW, hr3304⟩ := hJ
    replace h : sense_Of.j0 K  x3297 x3298 x3299 x3300 x3301 x3305 x3306 x3307 x3308 = some r := h
    unfold sense_Of.j0 at h
    refine hK3289 _ _ ?_; clear hK3289
    refine wp_seq_k (fun K3310 hK3311 => ?_)
    refine wp_seq_k (fun K3312 hK3313 => ?_)
    refine wp_region_lit ?_
    refine stepl ha 20 (HW.ca0 hG1) 285 0 (.global 1) (.agg (encs T_sense_row.enc G_sense_rows).toArray) rfl KR KR KR ?_; clear ha a; intro a ha
    refine stepp ha 21 (.int .i64 0) KR KR ?_; clear ha a; intro a ha
    refine endl ?_
    refine thenN (hK3313 _ _ ?_); clear hK3313
    refine wp_block ?_
    refine loopk (fun k => fun a W3399 => ∃ (x3398 : Int), sense_Of.l0 K x3297 x3298 x3299 x3300 x3301 x3305 x3306 x3307 x3308 k x3398 = some r ∧ Has 43 [(1, .pointer (some ⟨b3284, 0, none⟩)), (3, .pointer (some ⟨b3286, 0, none⟩)), (20, .agg (encs T_sense_row.enc G_sense_rows).toArray), (21, .int .i64 x3398)] a ∧ Wd w W3399 [(b3284, .cells #[.int .i64 x3297, .string x3298, .int .i64 x3299, .int .i64 x3300, .slice A3302 x3301.length c3303, .int .u32 x3305, .int .i64 x3306, .string x3307, .int .i64 x3308] 66 (0, 0)), (b3286, .cells #[.int .i64 0, .int .i64 0, .int .i64 0, .int .i64 0] 40 (0, 0))] []) K ?_ ?_
    · skip
      exact ⟨0, h, ha.sub (subs_cons KR (subs_cons KR (subs_cons KR (subs_cons KR (subs_nil _))))), HW.pick [0, 1] [] (by decide) (by decide) KR KR⟩
    · skip
      intro k a W3399 hI
      obtain ⟨x3398, h, ha, HW⟩ := hI
      cases k with
      | zero => exact (none_some (show none = some r from h)).elim
      | succ k3400 =>
        replace h : sense_Of.b0 K x3297 x3298 x3299 x3300 x3301 x3305 x3306 x3307 x3308 (sense_Of.l0 K x3297 x3298 x3299 x3300 x3301 x3305 x3306 x3307 x3308 k3400) x3398 = some r := h
        obtain ⟨again3397, hag3401⟩ : ∃ g_, g_ = sense_Of.l0 K x3297 x3298 x3299 x3300 x3301 x3305 x3306 x3307 x3308 k3400 := ⟨_, rfl⟩
        rw [← hag3401] at h
        unfold sense_Of.b0 at h
        refine wp_seq_k (fun K3402 hK3403 => ?_)
        refine wp_region_lit ?_
        refine stepp ha 22 (.bool (decide (x3398 < 11))) KR KR ?_; clear ha a; intro a ha
        refine endl ?_
        refine thenN (hK3403 _ _ ?_); clear hK3403
        refine wp_seq_k (fun K3404 hK3405 => ?_)
        by_cases hp3406 : x3398 < 11
        · skip
          replace h := ite_pos' h hp3406
          refine condT ha KR KR (t := decide (x3398 < 11)) (decide_eq_true hp3406) ?_
          refine wp_skip ?_
          refine thenN (hK3405 _ _ ?_); clear hK3405
          refine wp_seq_k (fun K3407 hK3408 => ?_)
          refine wp_block ?_
          refine wp_seq_k (fun K3409 hK3410 => ?_)
          refine wp_region_lit ?_
          obtain ⟨hA3411, h_⟩ := asrt_some h; clear h; have h := h_; clear h_
          refine stepag T_sense_row.enc T_sense_row.z ha 23 285 11 284 (.tmp 20) (.tmp 21) .i64 x3398 G_sense_rows (.agg #[.int .i64 ((rdL T_sense_row.z G_sense_rows x3398).f0), .int .i64 ((rdL T_sense_row.z G_sense_rows x3398).f1), .int .i64 ((rdL T_sense_row.z G_sense_rows x3398).f2), .int .i64 ((rdL T_sense_row.z G_sense_rows x3398).f3), .int .i64 ((rdL T_sense_row.z G_sense_rows x3398).f4), .int .i64 ((rdL T_sense_row.z G_sense_rows x3398).f5)]) rfl KR KR KR KR (fun _ => rfl) hA3411 hp3406 KR rfl ?_; clear ha a; intro a ha
          refine stepnew ha HW 5 #[.int .i64 0, .int .i64 0, .int .i64 0, .int .i64 0, .int .i64 0, .int .i64 0] 284 KR KR ?_; clear ha HW a; intro b3412 a W3413 HW ha
          refine stepst ha HW 0 (b := b3412) (C := #[.int .i64 0, .int .i64 0, .int .i64 0, .int .i64 0, .int .i64 0, .int .i64 0]) (T := 284) KR 284 0 (.tmp 5) (.tmp 23) (.agg #[.int .i64 ((rdL T_sense_row.z G_sense_rows x3398).f0), .int .i64 ((rdL T_sense_row.z G_sense_rows x3398).f1), .int .i64 ((rdL T_sense_row.z G_sense_rows x3398).f2), .int .i64 ((rdL T_sense_row.z G_sense_rows x3398).f3), .int .i64 ((rdL T_sense_row.z G_sense_rows x3398).f4), .int .i64 ((rdL T_sense_row.z G_sense_rows x3398).f5)]) #[.int .i64 ((rdL T_sense_row.z G_sense_rows x3398).f0), .int .i64 ((rdL T_sense_row.z G_sense_rows x3398).f1), .int .i64 ((rdL T_sense_row.z G_sense_rows x3398).f2), .int .i64 ((rdL T_sense_row.z G_sense_rows x3398).f3), .int .i64 ((rdL T_sense_row.z G_sense_rows x3398).f4), .int .i64 ((rdL T_sense_row.z G_sense_rows x3398).f5)] rfl KR KR KR KR KR KR KR ?_; clear ha HW a; intro a W3414 HW ha
          refine endl ?_
          refine thenN (hK3410 _ _ ?_); clear hK3410
          refine wp_seq_k (fun K3415 hK3416 => ?_)
          refine wp_region_lit ?_
          refine stepl ha 24 (HW.ca (i := 0) (b := b3412) (C := #[.int .i64 ((rdL T_sense_row.z G_sense_rows x3398).f0), .int .i64 ((rdL T_sense_row.z G_sense_rows x3398).f1), .int .i64 ((rdL T_sense_row.z G_sense_rows x3398).f2), .int .i64 ((rdL T_sense_row.z G_sense_rows x3398).f3), .int .i64 ((rdL T_sense_row.z G_sense_rows x3398).f4), .int .i64 ((rdL T_sense_row.z G_sense_rows x3398).f5)]) (T := 284) (fr := (0, 0)) KR) 284 0 (.tmp 5) (.agg #[.int .i64 ((rdL T_sense_row.z G_sense_rows x3398).f0), .int .i64 ((rdL T_sense_row.z G_sense_rows x3398).f1), .int .i64 ((rdL T_sense_row.z G_sense_rows x3398).f2), .int .i64 ((rdL T_sense_row.z G_sense_rows x3398).f3), .int .i64 ((rdL T_sense_row.z G_sense_rows x3398).f4), .int .i64 ((rdL T_sense_row.z G_sense_rows x3398).f5)]) rfl KR KR KR ?_; clear ha a; intro a ha
          refine stepl ha 25 (HW.ca (i := 1) (b := b3284) (C := #[.int .i64 x3297, .string x3298, .int .i64 x3299, .int .i64 x3300, .slice A3302 x3301.length c3303, .int .u32 x3305, .int .i64 x3306, .string x3307, .int .i64 x3308]) (T := 66) (fr := (0, 0)) KR) 66 0 (.tmp 1) (.agg #[.int .i64 x3297, .string x3298, .int .i64 x3299, .int .i64 x3300, .slice A3302 x3301.length c3303, .int .u32 x3305, .int .i64 x3306, .string x3307, .int .i64 x3308]) rfl KR KR KR ?_; clear ha a; intro a ha
          obtain ⟨t3417, ht3418, h_⟩ := bind_some' h; clear h; have h := h_; clear h_
          refine stepc ha 26 KR KR (sense_row_outcome.calls (⟨(rdL T_sense_row.z G_sense_rows x3398).f0, (rdL T_sense_row.z G_sense_rows x3398).f1, (rdL T_sense_row.z G_sense_rows x3398).f2, (rdL T_sense_row.z G_sense_rows x3398).f3, (rdL T_sense_row.z G_sense_rows x3398).f4, (rdL T_sense_row.z G_sense_rows x3398).f5⟩ : T_sense_row) (⟨x3297, x3298, x3299, x3300, x3301, x3305, (⟨x3306, x3307⟩ : T_api_Hold), x3308⟩ : T_api_Out) A3302 c3303 t3417 _ ((HW.rd0 hr3304)) ht3418) ?_; clear ha a; rintro e W3419 ⟨rfl, HX3420⟩
          refine ⟨_, rfl, ?_⟩; intro a ha; replace HW := HW.callw HX3420; clear HX3420
          refine endl ?_
          refine thenN (hK3416 _ _ ?_); clear hK3416
          by_cases hp3421 : t3417 = true
          · skip
            replace h := ite_pos' h hp3421
            refine condT ha KR KR (t := t3417) (hp3421) ?_
            refine wp_seq_k (fun K3422 hK3423 => ?_)
            refine wp_region_lit ?_
            refine stepl ha 27 (HW.ca (i := 0) (b := b3412) (C := #[.int .i64 ((rdL T_sense_row.z G_sense_rows x3398).f0), .int .i64 ((rdL T_sense_row.z G_sense_rows x3398).f1), .int .i64 ((rdL T_sense_row.z G_sense_rows x3398).f2), .int .i64 ((rdL T_sense_row.z G_sense_rows x3398).f3), .int .i64 ((rdL T_sense_row.z G_sense_rows x3398).f4), .int .i64 ((rdL T_sense_row.z G_sense_rows x3398).f5)]) (T := 284) (fr := (0, 0)) KR) 284 0 (.tmp 5) (.agg #[.int .i64 ((rdL T_sense_row.z G_sense_rows x3398).f0), .int .i64 ((rdL T_sense_row.z G_sense_rows x3398).f1), .int .i64 ((rdL T_sense_row.z G_sense_rows x3398).f2), .int .i64 ((rdL T_sense_row.z G_sense_rows x3398).f3), .int .i64 ((rdL T_sense_row.z G_sense_rows x3398).f4), .int .i64 ((rdL T_sense_row.z G_sense_rows x3398).f5)]) rfl KR KR KR ?_; clear ha a; intro a ha
            obtain ⟨t3424, ht3425, h_⟩ := bind_some' h; clear h; have h := h_; clear h_
            refine stepc ha 28 KR KR (sense_row_sense.calls (⟨(rdL T_sense_row.z G_sense_rows x3398).f0, (rdL T_sense_row.z G_sense_rows x3398).f1, (rdL T_sense_row.z G_sense_rows x3398).f2, (rdL T_sense_row.z G_sense_rows x3398).f3, (rdL T_sense_row.z G_sense_rows x3398).f4, (rdL T_sense_row.z G_sense_rows x3398).f5⟩ : T_sense_row) t3424 _ ht3425) ?_; clear ha a; rintro e W3426 ⟨rfl, HX3427⟩
            refine ⟨_, rfl, ?_⟩; intro a ha; replace HW := HW.callw HX3427; clear HX3427
            refine stepst ha HW 2 (b := b3286) (C := #[.int .i64 0, .int .i64 0, .int .i64 0, .int .i64 0]) (T := 40) KR 40 0 (.tmp 3) (.tmp 28) (.agg #[.int .i64 t3424.f0, .int .i64 t3424.f1, .int .i64 t3424.f2, .int .i64 t3424.f3]) #[.int .i64 t3424.f0, .int .i64 t3424.f1, .int .i64 t3424.f2, .int .i64 t3424.f3] rfl KR KR KR KR KR KR KR ?_; clear ha HW a; intro a W3428 HW ha
            refine endl ?_
            refine thenN (hK3423 _ _ ?_); clear hK3423
            refine wp_seq_k (fun K3429 hK3430 => ?_)
            refine wp_seq_k (fun K3431 hK3432 => ?_)
            refine wp_region_lit ?_
            refine stepp ha 29 (.pointer (some ⟨b3412, 0, none⟩)) KR KR ?_; clear ha a; intro a ha
            refine stepl ha 30 (HW.ca (i := 0) (b := b3412) (C := #[.int .i64 ((rdL T_sense_row.z G_sense_rows x3398).f0), .int .i64 ((rdL T_sense_row.z G_sense_rows x3398).f1), .int .i64 ((rdL T_sense_row.z G_sense_rows x3398).f2), .int .i64 ((rdL T_sense_row.z G_sense_rows x3398).f3), .int .i64 ((rdL T_sense_row.z G_sense_rows x3398).f4), .int .i64 ((rdL T_sense_row.z G_sense_rows x3398).f5)]) (T := 284) (fr := (0, 0)) KR) 3 0 (.tmp 29) (.int .i64 ((rdL T_sense_row.z G_sense_rows x3398).f0)) rfl KR KR KR ?_; clear ha a; intro a ha
            refine stepp ha 31 (.bool (((rdL T_sense_row.z G_sense_rows x3398).f0) == 3)) KR KR ?_; clear ha a; intro a ha
            refine endl ?_
            refine thenN (hK3432 _ _ ?_); clear hK3432
            by_cases hp3433 : ((rdL T_sense_row.z G_sense_rows x3398).f0) = 3
            · skip
              replace h := ite_pos' h hp3433
              refine condT ha KR KR (t := (((rdL T_sense_row.z G_sense_rows x3398).f0) == 3)) (ieq_t hp3433) ?_
              refine wp_region_lit ?_
              refine stepp ha 32 (.pointer (some ⟨b3284, 2, none⟩)) KR KR ?_; clear ha a; intro a ha
              refine stepl ha 33 (HW.ca (i := 1) (b := b3284) (C := #[.int .i64 x3297, .string x3298, .int .i64 x3299, .int .i64 x3300, .slice A3302 x3301.length c3303, .int .u32 x3305, .int .i64 x3306, .string x3307, .int .i64 x3308]) (T := 66) (fr := (0, 0)) KR) 3 2 (.tmp 32) (.int .i64 x3299) rfl KR KR KR ?_; clear ha a; intro a ha
              refine stepp ha 34 (.pointer (some ⟨b3286, 3, none⟩)) KR KR ?_; clear ha a; intro a ha
              refine stepst ha HW 2 (b := b3286) (C := #[.int .i64 t3424.f0, .int .i64 t3424.f1, .int .i64 t3424.f2, .int .i64 t3424.f3]) (T := 40) KR 3 3 (.tmp 34) (.tmp 33) (.int .i64 x3299) #[.int .i64 t3424.f0, .int .i64 t3424.f1, .int .i64 t3424.f2, .int .i64 x3299] rfl KR KR KR KR KR KR KR ?_; clear ha HW a; intro a W3434 HW ha
              refine endl ?_
              refine thenN (hK3430 _ _ ?_); clear hK3430
              refine wp_seq_k (fun K3435 hK3436 => ?_)
              refine regionG 4 KR KR ha HW [.fix (.pointer (some ⟨b3412, 2, none⟩)), .fix (.int .i64 ((rdL T_sense_row.z G_sense_rows x3398).f2)), .fix (.agg #[.int .i64 t3424.f0, .int .i64 t3424.f1, .int .i64 t3424.f2, .int .i64 x3299]), .fix (.int .i64 ((rdL T_sense_row.z G_sense_rows x3398).f2))] ?_ ?_
              · skip
                refine ⟨?_, ?_, ?_, ?_, trivial⟩
                · skip
                  intro a wr hn hd HW hs; have ha := hasNil hn hd
                  have ha := ha.add (seeE hs 5 (.pointer (some ⟨b3412, 0, none⟩)) KR KR)
                  refine yStep ha 35 KR ?_; intro l_ ha HK
                  refine stepp ha 35 (.pointer (some ⟨b3412, 2, none⟩)) KR KR ?_; intro ax hax; exact HK _ _ _ hax rfl (Below.refl _ _)
                · skip
                  intro a wr hn hd HW hs; have ha := hasNil hn hd
                  have ha := ha.add (seeF hs 35 0 (.pointer (some ⟨b3412, 2, none⟩)) KR KR)
                  refine yStep ha 36 KR ?_; intro l_ ha HK
                  refine stepl ha 36 (HW.ca (i := 0) (b := b3412) (C := #[.int .i64 ((rdL T_sense_row.z G_sense_rows x3398).f0), .int .i64 ((rdL T_sense_row.z G_sense_rows x3398).f1), .int .i64 ((rdL T_sense_row.z G_sense_rows x3398).f2), .int .i64 ((rdL T_sense_row.z G_sense_rows x3398).f3), .int .i64 ((rdL T_sense_row.z G_sense_rows x3398).f4), .int .i64 ((rdL T_sense_row.z G_sense_rows x3398).f5)]) (T := 284) (fr := (0, 0)) KR) 3 2 (.tmp 35) (.int .i64 ((rdL T_sense_row.z G_sense_rows x3398).f2)) rfl KR KR KR ?_; intro ax hax; exact HK _ _ _ hax rfl (Below.refl _ _)
                · skip
                  intro a wr hn hd HW hs; have ha := hasNil hn hd
                  have ha := ha.add (seeE hs 3 (.pointer (some ⟨b3286, 0, none⟩)) KR KR)
                  refine yStep ha 37 KR ?_; intro l_ ha HK
                  refine stepl ha 37 (HW.ca (i := 2) (b := b3286) (C := #[.int .i64 t3424.f0, .int .i64 t3424.f1, .int .i64 t3424.f2, .int .i64 x3299]) (T := 40) (fr := (0, 0)) KR) 40 0 (.tmp 3) (.agg #[.int .i64 t3424.f0, .int .i64 t3424.f1, .int .i64 t3424.f2, .int .i64 x3299]) rfl KR KR KR ?_; intro ax hax; exact HK _ _ _ hax rfl (Below.refl _ _)
                · skip
                  intro a wr hn hd HW hs; have ha := hasNil hn hd
                  have ha := ha.add (seeF hs 36 1 (.int .i64 ((rdL T_sense_row.z G_sense_rows x3398).f2)) KR KR)
                  refine yStep ha 2 KR ?_; intro l_ ha HK
                  refine stepp ha 2 (.int .i64 ((rdL T_sense_row.z G_sense_rows x3398).f2)) KR KR ?_; intro ax hax; exact HK _ _ _ hax rfl (Below.refl _ _)
              · skip
                intro a W3437 ha HW he hf
                replace ha := ha.add (gotF (m := 4) (j := 3) (d := 2) (v := .int .i64 ((rdL T_sense_row.z G_sense_rows x3398).f2)) hf KR KR KR)
                replace ha := ha.add (he 3 (.pointer (some ⟨b3286, 0, none⟩)) KR KR)
                replace ha := ha.add (gotF (m := 4) (j := 2) (d := 37) (v := .agg #[.int .i64 t3424.f0, .int .i64 t3424.f1, .int .i64 t3424.f2, .int .i64 x3299]) hf KR KR KR)
                clear he hf
                refine stepst ha HW 2 (b := b3286) (C := #[.int .i64 t3424.f0, .int .i64 t3424.f1, .int .i64 t3424.f2, .int .i64 x3299]) (T := 40) KR 40 0 (.tmp 3) (.tmp 37) (.agg #[.int .i64 t3424.f0, .int .i64 t3424.f1, .int .i64 t3424.f2, .int .i64 x3299]) #[.int .i64 t3424.f0, .int .i64 t3424.f1, .int .i64 t3424.f2, .int .i64 x3299] rfl KR KR KR KR KR KR KR ?_; clear ha HW a; intro a W3438 HW ha
                refine endl ?_
                refine thenN (hK3436 _ _ ?_); clear hK3436
                refine wp_ret ?_
                refine blkR ?_
                refine thenR ?_
                refine thenR ?_
                refine blkR ?_
                refine thenR ?_
                obtain rfl := Option.some.inj h
                exact finv ha _ _ rfl (.tmp (v := .int .i64 ((rdL T_sense_row.z G_sense_rows x3398).f2)) KR (.cell (ad := ⟨b3286, 0, none⟩) (v := .agg #[.int .i64 t3424.f0, .int .i64 t3424.f1, .int .i64 t3424.f2, .int .i64 x3299]) KR (run_loadVar_ca0 (HW.ca (i := 2) (b := b3286) (C := #[.int .i64 t3424.f0, .int .i64 t3424.f1, .int .i64 t3424.f2, .int .i64 x3299]) (T := 40) (fr := (0, 0)) KR) 40 0 (.agg #[.int .i64 t3424.f0, .int .i64 t3424.f1, .int .i64 t3424.f2, .int .i64 x3299]) KR) .nil)) (.tuple #[.int .i64 ((rdL T_sense_row.z G_sense_rows x3398).f2), .agg #[.int .i64 t3424.f0, .int .i64 t3424.f1, .int .i64 t3424.f2, .int .i64 x3299]]) rfl ⟨rfl, HW.pick [] [] (by decide) (by decide) rfl KR⟩
            · skip
              replace h := ite_neg' h hp3433
              refine condF ha KR KR (t := (((rdL T_sense_row.z G_sense_rows x3398).f0) == 3)) (ieq_f hp3433) ?_
              refine wp_skip ?_
              refine thenN (hK3430 _ _ ?_); clear hK3430
              refine wp_seq_k (fun K3439 hK3440 => ?_)
              refine regionG 4 KR KR ha HW [.fix (.pointer (some ⟨b3412, 2, none⟩)), .fix (.int .i64 ((rdL T_sense_row.z G_sense_rows x3398).f2)), .fix (.agg #[.int .i64 t3424.f0, .int .i64 t3424.f1, .int .i64 t3424.f2, .int .i64 t3424.f3]), .fix (.int .i64 ((rdL T_sense_row.z G_sense_rows x3398).f2))] ?_ ?_
              · skip
                refine ⟨?_, ?_, ?_, ?_, trivial⟩
                · skip
                  intro a wr hn hd HW hs; have ha := hasNil hn hd
                  have ha := ha.add (seeE hs 5 (.pointer (some ⟨b3412, 0, none⟩)) KR KR)
                  refine yStep ha 35 KR ?_; intro l_ ha HK
                  refine stepp ha 35 (.pointer (some ⟨b3412, 2, none⟩)) KR KR ?_; intro ax hax; exact HK _ _ _ hax rfl (Below.refl _ _)
                · skip
                  intro a wr hn hd HW hs; have ha := hasNil hn hd
                  have ha := ha.add (seeF hs 35 0 (.pointer (some ⟨b3412, 2, none⟩)) KR KR)
                  refine yStep ha 36 KR ?_; intro l_ ha HK
                  refine stepl ha 36 (HW.ca (i := 0) (b := b3412) (C := #[.int .i64 ((rdL T_sense_row.z G_sense_rows x3398).f0), .int .i64 ((rdL T_sense_row.z G_sense_rows x3398).f1), .int .i64 ((rdL T_sense_row.z G_sense_rows x3398).f2), .int .i64 ((rdL T_sense_row.z G_sense_rows x3398).f3), .int .i64 ((rdL T_sense_row.z G_sense_rows x3398).f4), .int .i64 ((rdL T_sense_row.z G_sense_rows x3398).f5)]) (T := 284) (fr := (0, 0)) KR) 3 2 (.tmp 35) (.int .i64 ((rdL T_sense_row.z G_sense_rows x3398).f2)) rfl KR KR KR ?_; intro ax hax; exact HK _ _ _ hax rfl (Below.refl _ _)
                · skip
                  intro a wr hn hd HW hs; have ha := hasNil hn hd
                  have ha := ha.add (seeE hs 3 (.pointer (some ⟨b3286, 0, none⟩)) KR KR)
                  refine yStep ha 37 KR ?_; intro l_ ha HK
                  refine stepl ha 37 (HW.ca (i := 2) (b := b3286) (C := #[.int .i64 t3424.f0, .int .i64 t3424.f1, .int .i64 t3424.f2, .int .i64 t3424.f3]) (T := 40) (fr := (0, 0)) KR) 40 0 (.tmp 3) (.agg #[.int .i64 t3424.f0, .int .i64 t3424.f1, .int .i64 t3424.f2, .int .i64 t3424.f3]) rfl KR KR KR ?_; intro ax hax; exact HK _ _ _ hax rfl (Below.refl _ _)
                · skip
                  intro a wr hn hd HW hs; have ha := hasNil hn hd
                  have ha := ha.add (seeF hs 36 1 (.int .i64 ((rdL T_sense_row.z G_sense_rows x3398).f2)) KR KR)
                  refine yStep ha 2 KR ?_; intro l_ ha HK
                  refine stepp ha 2 (.int .i64 ((rdL T_sense_row.z G_sense_rows x3398).f2)) KR KR ?_; intro ax hax; exact HK _ _ _ hax rfl (Below.refl _ _)
              · skip
                intro a W3441 ha HW he hf
                replace ha := ha.add (gotF (m := 4) (j := 3) (d := 2) (v := .int .i64 ((rdL T_sense_row.z G_sense_rows x3398).f2)) hf KR KR KR)
                replace ha := ha.add (he 3 (.pointer (some ⟨b3286, 0, none⟩)) KR KR)
                replace ha := ha.add (gotF (m := 4) (j := 2) (d := 37) (v := .agg #[.int .i64 t3424.f0, .int .i64 t3424.f1, .int .i64 t3424.f2, .int .i64 t3424.f3]) hf KR KR KR)
                clear he hf
                refine stepst ha HW 2 (b := b3286) (C := #[.int .i64 t3424.f0, .int .i64 t3424.f1, .int .i64 t3424.f2, .int .i64 t3424.f3]) (T := 40) KR 40 0 (.tmp 3) (.tmp 37) (.agg #[.int .i64 t3424.f0, .int .i64 t3424.f1, .int .i64 t3424.f2, .int .i64 t3424.f3]) #[.int .i64 t3424.f0, .int .i64 t3424.f1, .int .i64 t3424.f2, .int .i64 t3424.f3] rfl KR KR KR KR KR KR KR ?_; clear ha HW a; intro a W3442 HW ha
                refine endl ?_
                refine thenN (hK3440 _ _ ?_); clear hK3440
                refine wp_ret ?_
                refine blkR ?_
                refine thenR ?_
                refine thenR ?_
                refine blkR ?_
                refine thenR ?_
                obtain rfl := Option.some.inj h
                exact finv ha _ _ rfl (.tmp (v := .int .i64 ((rdL T_sense_row.z G_sense_rows x3398).f2)) KR (.cell (ad := ⟨b3286, 0, none⟩) (v := .agg #[.int .i64 t3424.f0, .int .i64 t3424.f1, .int .i64 t3424.f2, .int .i64 t3424.f3]) KR (run_loadVar_ca0 (HW.ca (i := 2) (b := b3286) (C := #[.int .i64 t3424.f0, .int .i64 t3424.f1, .int .i64 t3424.f2, .int .i64 t3424.f3]) (T := 40) (fr := (0, 0)) KR) 40 0 (.agg #[.int .i64 t3424.f0, .int .i64 t3424.f1, .int .i64 t3424.f2, .int .i64 t3424.f3]) KR) .nil)) (.tuple #[.int .i64 ((rdL T_sense_row.z G_sense_rows x3398).f2), .agg #[.int .i64 t3424.f0, .int .i64 t3424.f1, .int .i64 t3424.f2, .int .i64 t3424.f3]]) rfl ⟨rfl, HW.pick [] [] (by decide) (by decide) rfl KR⟩
          · skip
            replace h := ite_neg' h hp3421
            refine condF ha KR KR (t := t3417) (bool_f hp3421) ?_
            refine wp_skip ?_
            refine blkN ?_
            refine thenN (hK3408 _ _ ?_); clear hK3408
            refine wp_region_lit ?_
            refine stepp ha 38 (.int .i64 (IntKind.wrap .i64 (x3398 + 1))) KR KR ?_; clear ha a; intro a ha
            refine stepp ha 21 (.int .i64 (IntKind.wrap .i64 (x3398 + 1))) KR KR ?_; clear ha a; intro a ha
            refine endl ?_
            exact thenN ⟨k3400, Nat.lt_succ_self k3400, IntKind.wrap .i64 (x3398 + 1), (by rw [← hag3401]; exact h), ha.sub (subs_cons KR (subs_cons KR (subs_cons KR (subs_cons KR (subs_nil _))))), HW.pick [1, 2] [] (by decide) (by decide) KR KR⟩
        · skip
          replace h := ite_neg' h hp3406
          refine condF ha KR KR (t := decide (x3398 < 11)) (decide_eq_false hp3406) ?_
          refine wp_exit ?_
          refine thenE ?_
          refine thenE ?_
          refine inBlk ?_
          refine thenN (hK3311 _ _ ?_); clear hK3311
          refine wp_seq_k (fun K3443 hK3444 => ?_)
          refine wp_region_lit ?_
          refine stepp ha 39 (.agg #[.int .i64 8, .string (⟨#[]⟩ : ByteArray), .int .i64 0, .int .i64 0, .slice none 0 0, .int .u32 0, .int .i64 0, .string (⟨#[]⟩ : ByteArray), .int .i64 0]) KR KR ?_; clear ha a; intro a ha
          obtain ⟨t3445, ht3446, h_⟩ := bind_some' h; clear h; have h := h_; clear h_
          refine stepc ha 40 KR KR (sense_Of_0.calls K (⟨8, (⟨#[]⟩ : ByteArray), 0, 0, ([] : List T_api_Reg), 0, (⟨0, (⟨#[]⟩ : ByteArray)⟩ : T_api_Hold), 0⟩ : T_api_Out) none 0 t3445 _ (HW.ca0 hG1) (Rd.nil _ _) ht3446) ?_; clear ha a; rintro e W3447 ⟨rfl, HX3448⟩
          refine ⟨_, rfl, ?_⟩; intro a ha; replace HW := HW.callw HX3448; clear HX3448
          refine stepp ha 41 (.int .i64 t3445.1) KR KR ?_; clear ha a; intro a ha
          refine stepp ha 42 (.agg #[.int .i64 t3445.2.f0, .int .i64 t3445.2.f1, .int .i64 t3445.2.f2, .int .i64 t3445.2.f3]) KR KR ?_; clear ha a; intro a ha
          refine stepp ha 2 (.int .i64 t3445.1) KR KR ?_; clear ha a; intro a ha
          refine stepst ha HW 1 (b := b3286) (C := #[.int .i64 0, .int .i64 0, .int .i64 0, .int .i64 0]) (T := 40) KR 40 0 (.tmp 3) (.tmp 42) (.agg #[.int .i64 t3445.2.f0, .int .i64 t3445.2.f1, .int .i64 t3445.2.f2, .int .i64 t3445.2.f3]) #[.int .i64 t3445.2.f0, .int .i64 t3445.2.f1, .int .i64 t3445.2.f2, .int .i64 t3445.2.f3] rfl KR KR KR KR KR KR KR ?_; clear ha HW a; intro a W3449 HW ha
          refine endl ?_
          refine thenN (hK3444 _ _ ?_); clear hK3444
          refine wp_ret ?_
          obtain rfl := Option.some.inj h
          exact finv ha _ _ rfl (.tmp (v := .int .i64 t3445.1) KR (.cell (ad := ⟨b3286, 0, none⟩) (v := .agg #[.int .i64 t3445.2.f0, .int .i64 t3445.2.f1, .int .i64 t3445.2.f2, .int .i64 t3445.2.f3]) KR (run_loadVar_ca0 (HW.ca (i := 1) (b := b3286) (C := #[.int .i64 t3445.2.f0, .int .i64 t3445.2.f1, .int .i64 t3445.2.f2, .int .i64 t3445.2.f3]) (T := 40) (fr := (0, 0)) KR) 40 0 (.agg #[.int .i64 t3445.2.f0, .int .i64 t3445.2.f1, .int .i64 t3445.2.f2, .int .i64 t3445.2.f3]) KR) .nil)) (.tuple #[.int .i64 t3445.1, .agg #[.int .i64 t3445.2.f0, .int .i64 t3445.2.f1, .int .i64 t3445.2.f2, .int .i64 t3445.2.f3]]) rfl ⟨rfl, HW.pick [] [] (by decide) (by decide) rfl KR⟩
/-! ### headgate/scsi.reply: function 50 -/
def scsi_reply.f (K : Nat) (a0 : T_api_Out) : Option T_api_Reply :=
  (sense_Of.f K (⟨a0.f0, a0.f1, a0.f2, a0.f3, a0.f4, a0.f5, (⟨a0.f6.f0, a0.f6.f1⟩ : T_api_Hold), a0.f7⟩ : T_api_Out)).bind fun t3458 => (some (⟨t3458.1, (⟨t3458.2.f0, t3458.2.f1, t3458.2.f2, t3458.2.f3⟩ : T_api_Sense), (⟨#[]⟩ : ByteArray)⟩ : T_api_Reply))
set_option maxRecDepth 100000 in
set_option maxHeartbeats 4000000 in
theorem scsi_reply.calls (K : Nat) (a0 : T_api_Out) (A0_0 : Option Addr) (c0_0 : Nat) (r : T_api_Reply) (w : World) (hG1 : CA w 1 0 (encs T_sense_row.enc G_sense_rows).toArray) (hr0_0 : Rd 2 w (.slice A0_0 a0.f4.length c0_0) a0.f4.length (encs T_api_Reg.enc a0.f4)) (h : scsi_reply.f K a0 = some r) :
    Calls Tryz.prog 50 #[.agg #[.int .i64 a0.f0, .string a0.f1, .int .i64 a0.f2, .int .i64 a0.f3, .slice A0_0 a0.f4.length c0_0, .int .u32 a0.f5, .int .i64 a0.f6.f0, .string a0.f6.f1, .int .i64 a0.f7]] w (fun e W' => e = .returned (.agg #[.int .i64 r.f0, .int .i64 r.f1.f0, .int .i64 r.f1.f1, .int .i64 r.f1.f2, .int .i64 r.f1.f3, .string r.f2]) ∧ Wd w W' [] [] ) := by
  refine sxstart (n := 13) (l := [(0, .agg #[.int .i64 a0.f0, .string a0.f1, .int .i64 a0.f2, .int .i64 a0.f3, .slice A0_0 a0.f4.length c0_0, .int .u32 a0.f5, .int .i64 a0.f6.f0, .string a0.f6.f1, .int .i64 a0.f7])]) Tryz.func50 rfl rfl (Nat.le_of_ble_eq_true KR) (subsA_cons rfl (subsA_nil _)) ?_
  intro a ha
  have HW := Wd.refl w
  unfold scsi_reply.f at h
  refine wp_seq_k (fun K3450 hK3451 => ?_)
  refine wp_region_lit ?_
  refine stepnew ha HW 1 #[.int .i64 a0.f0, .string a0.f1, .int .i64 a0.f2, .int .i64 a0.f3, .slice A0_0 a0.f4.length c0_0, .int .u32 a0.f5, .int .i64 a0.f6.f0, .string a0.f6.f1, .int .i64 a0.f7] 66 KR KR ?_; clear ha HW a; intro b3452 a W3453 HW ha
  refine stepnew ha HW 2 #[.int .i64 0, .int .i64 0, .int .i64 0, .int .i64 0, .int .i64 0, .string (⟨#[]⟩ : ByteArray)] 42 KR KR ?_; clear ha HW a; intro b3454 a W3455 HW ha
  refine endl ?_
  refine thenN (hK3451 _ _ ?_); clear hK3451
  refine wp_seq_k (fun K3456 hK3457 => ?_)
  refine wp_region_lit ?_
  refine stepl ha 6 (HW.ca (i := 1) (b := b3452) (C := #[.int .i64 a0.f0, .string a0.f1, .int .i64 a0.f2, .int .i64 a0.f3, .slice A0_0 a0.f4.length c0_0, .int .u32 a0.f5, .int .i64 a0.f6.f0, .string a0.f6.f1, .int .i64 a0.f7]) (T := 66) (fr := (0, 0)) KR) 66 0 (.tmp 1) (.agg #[.int .i64 a0.f0, .string a0.f1, .int .i64 a0.f2, .int .i64 a0.f3, .slice A0_0 a0.f4.length c0_0, .int .u32 a0.f5, .int .i64 a0.f6.f0, .string a0.f6.f1, .int .i64 a0.f7]) rfl KR KR KR ?_; clear ha a; intro a ha
  obtain ⟨t3458, ht3459, h_⟩ := bind_some' h; clear h; have h := h_; clear h_
  refine stepc ha 7 KR KR (sense_Of.calls K (⟨a0.f0, a0.f1, a0.f2, a0.f3, a0.f4, a0.f5, (⟨a0.f6.f0, a0.f6.f1⟩ : T_api_Hold), a0.f7⟩ : T_api_Out) A0_0 c0_0 t3458 _ (HW.ca0 hG1) ((HW.rd0 hr0_0)) ht3459) ?_; clear ha a; rintro e W3460 ⟨rfl, HX3461⟩
  refine ⟨_, rfl, ?_⟩; intro a ha; replace HW := HW.callw HX3461; clear HX3461
  refine stepp ha 5 (.tuple #[.int .i64 t3458.1, .agg #[.int .i64 t3458.2.f0, .int .i64 t3458.2.f1, .int .i64 t3458.2.f2, .int .i64 t3458.2.f3]]) KR KR ?_; clear ha a; intro a ha
  refine stepp ha 8 (.int .i64 t3458.1) KR KR ?_; clear ha a; intro a ha
  refine stepp ha 9 (.agg #[.int .i64 t3458.2.f0, .int .i64 t3458.2.f1, .int .i64 t3458.2.f2, .int .i64 t3458.2.f3]) KR KR ?_; clear ha a; intro a ha
  refine stepnew ha HW 4 #[.int .i64 0, .int .i64 0, .int .i64 0, .int .i64 0] 40 KR KR ?_; clear ha HW a; intro b3462 a W3463 HW ha
  refine stepp ha 3 (.int .i64 t3458.1) KR KR ?_; clear ha a; intro a ha
  refine stepst ha HW 0 (b := b3462) (C := #[.int .i64 0, .int .i64 0, .int .i64 0, .int .i64 0]) (T := 40) KR 40 0 (.tmp 4) (.tmp 9) (.agg #[.int .i64 t3458.2.f0, .int .i64 t3458.2.f1, .int .i64 t3458.2.f2, .int .i64 t3458.2.f3]) #[.int .i64 t3458.2.f0, .int .i64 t3458.2.f1, .int .i64 t3458.2.f2, .int .i64 t3458.2.f3] rfl KR KR KR KR KR KR KR ?_; clear ha HW a; intro a W3464 HW ha
  refine endl ?_
  refine thenN (hK3457 _ _ ?_); clear hK3457
  refine wp_seq_k (fun K3465 hK3466 => ?_)
  refine wp_region_lit ?_
  refine stepp ha 10 (.int .i64 t3458.1) KR KR ?_; clear ha a; intro a ha
  refine stepl ha 11 (HW.ca (i := 0) (b := b3462) (C := #[.int .i64 t3458.2.f0, .int .i64 t3458.2.f1, .int .i64 t3458.2.f2, .int .i64 t3458.2.f3]) (T := 40) (fr := (0, 0)) KR) 40 0 (.tmp 4) (.agg #[.int .i64 t3458.2.f0, .int .i64 t3458.2.f1, .int .i64 t3458.2.f2, .int .i64 t3458.2.f3]) rfl KR KR KR ?_; clear ha a; intro a ha
  refine stepp ha 12 (.agg #[.int .i64 t3458.1, .int .i64 t3458.2.f0, .int .i64 t3458.2.f1, .int .i64 t3458.2.f2, .int .i64 t3458.2.f3, .string (⟨#[]⟩ : ByteArray)]) KR KR ?_; clear ha a; intro a ha
  refine stepst ha HW 1 (b := b3454) (C := #[.int .i64 0, .int .i64 0, .int .i64 0, .int .i64 0, .int .i64 0, .string (⟨#[]⟩ : ByteArray)]) (T := 42) KR 42 0 (.tmp 2) (.tmp 12) (.agg #[.int .i64 t3458.1, .int .i64 t3458.2.f0, .int .i64 t3458.2.f1, .int .i64 t3458.2.f2, .int .i64 t3458.2.f3, .string (⟨#[]⟩ : ByteArray)]) #[.int .i64 t3458.1, .int .i64 t3458.2.f0, .int .i64 t3458.2.f1, .int .i64 t3458.2.f2, .int .i64 t3458.2.f3, .string (⟨#[]⟩ : ByteArray)] rfl KR KR KR KR KR KR KR ?_; clear ha HW a; intro a W3467 HW ha
  refine endl ?_
  refine thenN (hK3466 _ _ ?_); clear hK3466
  refine wp_ret ?_
  obtain rfl := Option.some.inj h
  exact finv ha _ _ rfl (.cell (ad := ⟨b3454, 0, none⟩) (v := .agg #[.int .i64 t3458.1, .int .i64 t3458.2.f0, .int .i64 t3458.2.f1, .int .i64 t3458.2.f2, .int .i64 t3458.2.f3, .string (⟨#[]⟩ : ByteArray)]) KR (run_loadVar_ca0 (HW.ca (i := 1) (b := b3454) (C := #[.int .i64 t3458.1, .int .i64 t3458.2.f0, .int .i64 t3458.2.f1, .int .i64 t3458.2.f2, .int .i64 t3458.2.f3, .string (⟨#[]⟩ : ByteArray)]) (T := 42) (fr := (0, 0)) KR) 42 0 (.agg #[.int .i64 t3458.1, .int .i64 t3458.2.f0, .int .i64 t3458.2.f1, .int .i64 t3458.2.f2, .int .i64 t3458.2.f3, .string (⟨#[]⟩ : ByteArray)]) KR) .nil) (.agg #[.int .i64 t3458.1, .int .i64 t3458.2.f0, .int .i64 t3458.2.f1, .int .i64 t3458.2.f2, .int .i64 t3458.2.f3, .string (⟨#[]⟩ : ByteArray)]) rfl ⟨rfl, HW.pick [] [] (by decide) (by decide) rfl KR⟩
/-! ### headgate/scsi.wrong: function 43 -/
def scsi_wrong.f (K : Nat)  : Option T_api_Reply :=
  (scsi_reply.f K (⟨5, (⟨#[]⟩ : ByteArray), 0, 0, ([] : List T_api_Reg), 0, (⟨0, (⟨#[]⟩ : ByteArray)⟩ : T_api_Hold), 0⟩ : T_api_Out)).bind fun t3474 => (some (⟨t3474.f0, (⟨t3474.f1.f0, t3474.f1.f1, t3474.f1.f2, t3474.f1.f3⟩ : T_api_Sense), t3474.f2⟩ : T_api_Reply))
set_option maxRecDepth 100000 in
set_option maxHeartbeats 4000000 in
theorem scsi_wrong.calls (K : Nat)   (r : T_api_Reply) (w : World) (hG1 : CA w 1 0 (encs T_sense_row.enc G_sense_rows).toArray) (h : scsi_wrong.f K  = some r) :
    Calls Tryz.prog 43 #[] w (fun e W' => e = .returned (.agg #[.int .i64 r.f0, .int .i64 r.f1.f0, .int .i64 r.f1.f1, .int .i64 r.f1.f2, .int .i64 r.f1.f3, .string r.f2]) ∧ Wd w W' [] [] ) := by
  refine sxstart (n := 3) (l := []) Tryz.func43 rfl rfl (Nat.le_of_ble_eq_true KR) (subsA_nil _) ?_
  intro a ha
  have HW := Wd.refl w
  unfold scsi_wrong.f at h
  refine wp_seq_k (fun K3468 hK3469 => ?_)
  refine wp_region_lit ?_
  refine stepnew ha HW 0 #[.int .i64 0, .int .i64 0, .int .i64 0, .int .i64 0, .int .i64 0, .string (⟨#[]⟩ : ByteArray)] 42 KR KR ?_; clear ha HW a; intro b3470 a W3471 HW ha
  refine endl ?_
  refine thenN (hK3469 _ _ ?_); clear hK3469
  refine wp_seq_k (fun K3472 hK3473 => ?_)
  refine wp_region_lit ?_
  refine stepp ha 1 (.agg #[.int .i64 5, .string (⟨#[]⟩ : ByteArray), .int .i64 0, .int .i64 0, .slice none 0 0, .int .u32 0, .int .i64 0, .string (⟨#[]⟩ : ByteArray), .int .i64 0]) KR KR ?_; clear ha a; intro a ha
  obtain ⟨t3474, ht3475, h_⟩ := bind_some' h; clear h; have h := h_; clear h_
  refine stepc ha 2 KR KR (scsi_reply.calls K (⟨5, (⟨#[]⟩ : ByteArray), 0, 0, ([] : List T_api_Reg), 0, (⟨0, (⟨#[]⟩ : ByteArray)⟩ : T_api_Hold), 0⟩ : T_api_Out) none 0 t3474 _ (HW.ca0 hG1) (Rd.nil _ _) ht3475) ?_; clear ha a; rintro e W3476 ⟨rfl, HX3477⟩
  refine ⟨_, rfl, ?_⟩; intro a ha; replace HW := HW.callw HX3477; clear HX3477
  refine stepst ha HW 0 (b := b3470) (C := #[.int .i64 0, .int .i64 0, .int .i64 0, .int .i64 0, .int .i64 0, .string (⟨#[]⟩ : ByteArray)]) (T := 42) KR 42 0 (.tmp 0) (.tmp 2) (.agg #[.int .i64 t3474.f0, .int .i64 t3474.f1.f0, .int .i64 t3474.f1.f1, .int .i64 t3474.f1.f2, .int .i64 t3474.f1.f3, .string t3474.f2]) #[.int .i64 t3474.f0, .int .i64 t3474.f1.f0, .int .i64 t3474.f1.f1, .int .i64 t3474.f1.f2, .int .i64 t3474.f1.f3, .string t3474.f2] rfl KR KR KR KR KR KR KR ?_; clear ha HW a; intro a W3478 HW ha
  refine endl ?_
  refine thenN (hK3473 _ _ ?_); clear hK3473
  refine wp_ret ?_
  obtain rfl := Option.some.inj h
  exact finv ha _ _ rfl (.cell (ad := ⟨b3470, 0, none⟩) (v := .agg #[.int .i64 t3474.f0, .int .i64 t3474.f1.f0, .int .i64 t3474.f1.f1, .int .i64 t3474.f1.f2, .int .i64 t3474.f1.f3, .string t3474.f2]) KR (run_loadVar_ca0 (HW.ca (i := 0) (b := b3470) (C := #[.int .i64 t3474.f0, .int .i64 t3474.f1.f0, .int .i64 t3474.f1.f1, .int .i64 t3474.f1.f2, .int .i64 t3474.f1.f3, .string t3474.f2]) (T := 42) (fr := (0, 0)) KR) 42 0 (.agg #[.int .i64 t3474.f0, .int .i64 t3474.f1.f0, .int .i64 t3474.f1.f1, .int .i64 t3474.f1.f2, .int .i64 t3474.f1.f3, .string t3474.f2]) KR) .nil) (.agg #[.int .i64 t3474.f0, .int .i64 t3474.f1.f0, .int .i64 t3474.f1.f1, .int .i64 t3474.f1.f2, .int .i64 t3474.f1.f3, .string t3474.f2]) rfl ⟨rfl, HW.pick [] [] (by decide) (by decide) rfl KR⟩
/-! ### headgate/scsi.Do: function 16 -/
def scsi_Do_nil.f (K : Nat) (a1 : ByteArray) (a2 : Int) (a3 : ByteArray) (a4 : ByteArray) : Option T_api_Reply :=
  (cdb_Parse.f K a3).bind fun t6491 => ((scsi_Need.f K a3).bind fun t6500 => ((scsi_wrong.f K).bind fun t6510 => (some (⟨t6510.f0, (⟨t6510.f1.f0, t6510.f1.f1, t6510.f1.f2, t6510.f1.f3⟩ : T_api_Sense), t6510.f2⟩ : T_api_Reply))))
set_option maxRecDepth 100000 in
set_option maxHeartbeats 4000000 in
theorem scsi_Do_nil.calls (K : Nat) (a1 : ByteArray) (a2 : Int) (a3 : ByteArray) (a4 : ByteArray)  (r : T_api_Reply) (w : World) (hG1 : CA w 1 0 (encs T_sense_row.enc G_sense_rows).toArray) (hG2 : CA w 2 0 (encs T_cdb_form.enc G_cdb_forms).toArray) (hG3 : CA w 3 0 (encs (encIK .i64) G_cdb_numbers).toArray) (h : scsi_Do_nil.f K a1 a2 a3 a4 = some r) :
    Calls Tryz.prog 16 #[.pointer none, .string a1, .int .i64 a2, .string a3, .string a4] w (fun e W' => e = .returned (.agg #[.int .i64 r.f0, .int .i64 r.f1.f0, .int .i64 r.f1.f1, .int .i64 r.f1.f2, .int .i64 r.f1.f3, .string r.f2]) ∧ Wd w W' [] [] ) := by
  refine sxstart (n := 125) (l := [(0, .pointer none), (1, .string a1), (2, .int .i64 a2), (3, .string a3), (4, .string a4)]) Tryz.func16 rfl rfl (Nat.le_of_ble_eq_true KR) (subsA_cons rfl (subsA_cons rfl (subsA_cons rfl (subsA_cons rfl (subsA_cons rfl (subsA_nil _)))))) ?_
  intro a ha
  have HW := Wd.refl w
  unfold scsi_Do_nil.f at h
  refine wp_seq_k (fun K6485 hK6486 => ?_)
  refine wp_region_lit ?_
  refine stepnew ha HW 10 #[.int .i64 0, .int .i64 0, .int .i64 0, .int .i64 0, .int .i64 0, .string (⟨#[]⟩ : ByteArray)] 42 KR KR ?_; clear ha HW a; intro b6487 a W6488 HW ha
  refine endl ?_
  refine thenN (hK6486 _ _ ?_); clear hK6486
  refine wp_seq_k (fun K6489 hK6490 => ?_)
  refine wp_region_lit ?_
  refine stepp ha 24 (.string a3) KR KR ?_; clear ha a; intro a ha
  obtain ⟨t6491, ht6492, h_⟩ := bind_some' h; clear h; have h := h_; clear h_
  refine stepc ha 25 KR KR (cdb_Parse.calls K a3 t6491 _ (HW.ca0 hG2) (HW.ca0 hG3) ht6492) ?_; clear ha a; rintro e W6493 ⟨rfl, HX6494⟩
  refine ⟨_, rfl, ?_⟩; intro a ha; replace HW := HW.callw HX6494; clear HX6494
  refine stepp ha 23 (.tuple #[.agg #[.int .i64 t6491.1.f0, .int .i64 t6491.1.f1, .int .i64 t6491.1.f2, .bool t6491.1.f3, .int .i64 t6491.1.f4, .int .i64 t6491.1.f5, .int .i64 t6491.1.f6], .int .i64 t6491.2]) KR KR ?_; clear ha a; intro a ha
  refine stepp ha 26 (.agg #[.int .i64 t6491.1.f0, .int .i64 t6491.1.f1, .int .i64 t6491.1.f2, .bool t6491.1.f3, .int .i64 t6491.1.f4, .int .i64 t6491.1.f5, .int .i64 t6491.1.f6]) KR KR ?_; clear ha a; intro a ha
  refine stepp ha 27 (.int .i64 t6491.2) KR KR ?_; clear ha a; intro a ha
  refine stepnew ha HW 11 #[.int .i64 0, .int .i64 0, .int .i64 0, .bool false, .int .i64 0, .int .i64 0, .int .i64 0] 126 KR KR ?_; clear ha HW a; intro b6495 a W6496 HW ha
  refine stepst ha HW 0 (b := b6495) (C := #[.int .i64 0, .int .i64 0, .int .i64 0, .bool false, .int .i64 0, .int .i64 0, .int .i64 0]) (T := 126) KR 126 0 (.tmp 11) (.tmp 26) (.agg #[.int .i64 t6491.1.f0, .int .i64 t6491.1.f1, .int .i64 t6491.1.f2, .bool t6491.1.f3, .int .i64 t6491.1.f4, .int .i64 t6491.1.f5, .int .i64 t6491.1.f6]) #[.int .i64 t6491.1.f0, .int .i64 t6491.1.f1, .int .i64 t6491.1.f2, .bool t6491.1.f3, .int .i64 t6491.1.f4, .int .i64 t6491.1.f5, .int .i64 t6491.1.f6] rfl KR KR KR KR KR KR KR ?_; clear ha HW a; intro a W6497 HW ha
  refine stepp ha 12 (.int .i64 t6491.2) KR KR ?_; clear ha a; intro a ha
  refine endl ?_
  refine thenN (hK6490 _ _ ?_); clear hK6490
  refine wp_seq_k (fun K6498 hK6499 => ?_)
  refine wp_region_lit ?_
  refine stepp ha 29 (.string a3) KR KR ?_; clear ha a; intro a ha
  obtain ⟨t6500, ht6501, h_⟩ := bind_some' h; clear h; have h := h_; clear h_
  refine stepc ha 30 KR KR (scsi_Need.calls K a3 t6500 _ (HW.ca0 hG2) (HW.ca0 hG3) ht6501) ?_; clear ha a; rintro e W6502 ⟨rfl, HX6503⟩
  refine ⟨_, rfl, ?_⟩; intro a ha; replace HW := HW.callw HX6503; clear HX6503
  refine stepp ha 28 (.tuple #[.int .i64 t6500.1, .int .i64 t6500.2]) KR KR ?_; clear ha a; intro a ha
  refine stepp ha 31 (.int .i64 t6500.1) KR KR ?_; clear ha a; intro a ha
  refine stepp ha 32 (.int .i64 t6500.2) KR KR ?_; clear ha a; intro a ha
  refine stepp ha 13 (.int .i64 t6500.1) KR KR ?_; clear ha a; intro a ha
  refine stepp ha 14 (.int .i64 t6500.2) KR KR ?_; clear ha a; intro a ha
  refine endl ?_
  refine thenN (hK6499 _ _ ?_); clear hK6499
  refine wp_seq_k (fun K6504 hK6505 => ?_)
  refine wp_seq_k (fun K6506 hK6507 => ?_)
  refine wp_region_lit ?_
  refine stepp ha 33 (.pointer none) KR KR ?_; clear ha a; intro a ha
  refine stepp ha 34 (.bool true) KR KR ?_; clear ha a; intro a ha
  refine stepp ha 35 (.bool true) KR KR ?_; clear ha a; intro a ha
  refine stepo ha 36 KR ?_; clear ha a; intro a ha
  refine stepo ha 37 KR ?_; clear ha a; intro a ha
  refine stepp ha 38 (.bool true) KR KR ?_; clear ha a; intro a ha
  refine stepp ha 39 (.bool true) KR KR ?_; clear ha a; intro a ha
  refine stepo ha 40 KR ?_; clear ha a; intro a ha
  refine stepo ha 41 KR ?_; clear ha a; intro a ha
  refine stepo ha 42 KR ?_; clear ha a; intro a ha
  refine stepo ha 43 KR ?_; clear ha a; intro a ha
  refine stepp ha 44 (.bool true) KR KR ?_; clear ha a; intro a ha
  refine endl ?_
  refine thenN (hK6507 _ _ ?_); clear hK6507
  refine condT ha KR KR (t := true) (rfl) ?_
  refine wp_seq_k (fun K6508 hK6509 => ?_)
  refine wp_region_lit ?_
  obtain ⟨t6510, ht6511, h_⟩ := bind_some' h; clear h; have h := h_; clear h_
  refine stepc ha 45 KR KR (scsi_wrong.calls K t6510 _ (HW.ca0 hG1) ht6511) ?_; clear ha a; rintro e W6512 ⟨rfl, HX6513⟩
  refine ⟨_, rfl, ?_⟩; intro a ha; replace HW := HW.callw HX6513; clear HX6513
  refine stepst ha HW 1 (b := b6487) (C := #[.int .i64 0, .int .i64 0, .int .i64 0, .int .i64 0, .int .i64 0, .string (⟨#[]⟩ : ByteArray)]) (T := 42) KR 42 0 (.tmp 10) (.tmp 45) (.agg #[.int .i64 t6510.f0, .int .i64 t6510.f1.f0, .int .i64 t6510.f1.f1, .int .i64 t6510.f1.f2, .int .i64 t6510.f1.f3, .string t6510.f2]) #[.int .i64 t6510.f0, .int .i64 t6510.f1.f0, .int .i64 t6510.f1.f1, .int .i64 t6510.f1.f2, .int .i64 t6510.f1.f3, .string t6510.f2] rfl KR KR KR KR KR KR KR ?_; clear ha HW a; intro a W6514 HW ha
  refine endl ?_
  refine thenN (hK6509 _ _ ?_); clear hK6509
  refine wp_ret ?_
  refine thenR ?_
  obtain rfl := Option.some.inj h
  exact finv ha _ _ rfl (.cell (ad := ⟨b6487, 0, none⟩) (v := .agg #[.int .i64 t6510.f0, .int .i64 t6510.f1.f0, .int .i64 t6510.f1.f1, .int .i64 t6510.f1.f2, .int .i64 t6510.f1.f3, .string t6510.f2]) KR (run_loadVar_ca0 (HW.ca (i := 1) (b := b6487) (C := #[.int .i64 t6510.f0, .int .i64 t6510.f1.f0, .int .i64 t6510.f1.f1, .int .i64 t6510.f1.f2, .int .i64 t6510.f1.f3, .string t6510.f2]) (T := 42) (fr := (0, 0)) KR) 42 0 (.agg #[.int .i64 t6510.f0, .int .i64 t6510.f1.f0, .int .i64 t6510.f1.f1, .int .i64 t6510.f1.f2, .int .i64 t6510.f1.f3, .string t6510.f2]) KR) .nil) (.agg #[.int .i64 t6510.f0, .int .i64 t6510.f1.f0, .int .i64 t6510.f1.f1, .int .i64 t6510.f1.f2, .int .i64 t6510.f1.f3, .string t6510.f2]) rfl ⟨rfl, HW.pick [] [] (by decide) (by decide) rfl KR⟩
end Go.Proofs.YteilejfncdacfaaGreatDoor.F
