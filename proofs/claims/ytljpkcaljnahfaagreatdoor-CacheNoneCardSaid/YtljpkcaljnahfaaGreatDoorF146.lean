/- headgate/extents.alone, headgate/extents.Good, headgate/headgatekeep.Zeros, headgate/headgatelaw08.Id, headgate/headgatelaw09.Small, headgate/headgatekeep.Mod, headgate/headgatelaw09.fair, (headgate/cache.change).block, headgate/fields.get[uint64], headgate/fields.Big: plain functions, and that the calls come to what they say. No condition. -/
import Derived.Test.YtljpkcaljnahfaaGreatDoorFT
import Derived.Test.YtljpkcaljnahfaaGreatDoorF31
namespace Go.Proofs.YtljpkcaljnahfaaGreatDoor.F
open Go Go.RowKit Go.Proofs.YtljpkcaljnahfaaGreatDoor.X
set_option linter.unusedVariables false
set_option linter.unusedSimpArgs false
/-! ### headgate/extents.alone: function 146 -/
def extents_alone.f (a0 : T_api_Extent) : Option Bool :=
  if a0.f0 ≥ 0 then (if a0.f2 ≥ 0 then (if a0.f1 ≥ 1 then (if a0.f1 ≤ 4096 then (if a0.f0 ≤ (IntKind.wrap .i64 (4096 - a0.f1)) then (some (decide (a0.f2 ≤ (IntKind.wrap .i64 (8192 - a0.f1))))) else (some false)) else (some false)) else (some false)) else (some false)) else (some false)
set_option maxRecDepth 100000 in
set_option maxHeartbeats 4000000 in
theorem extents_alone.calls (a0 : T_api_Extent)  (r : Bool) (w : World)  (h : extents_alone.f a0 = some r) :
    Calls Tryz.prog 146 #[.agg #[.int .i64 a0.f0, .int .i64 a0.f1, .int .i64 a0.f2]] w (fun e W' => e = .returned (.bool r) ∧ Wd w W' [] [] ) := by
  refine sxstart (n := 37) (l := [(0, .agg #[.int .i64 a0.f0, .int .i64 a0.f1, .int .i64 a0.f2])]) Tryz.func146 rfl rfl (Nat.le_of_ble_eq_true KR) (subsA_cons rfl (subsA_nil _)) ?_
  intro a ha
  have HW := Wd.refl w
  unfold extents_alone.f at h
  refine wp_seq_k (fun K543 hK544 => ?_)
  refine wp_region_lit ?_
  refine stepnew ha HW 1 #[.int .i64 a0.f0, .int .i64 a0.f1, .int .i64 a0.f2] 164 KR KR ?_; clear ha HW a; intro b545 a W546 HW ha
  refine stepp ha 2 (.bool false) KR KR ?_; clear ha a; intro a ha
  refine endl ?_
  refine thenN (hK544 _ _ ?_); clear hK544
  refine wp_seq_k (fun K547 hK548 => ?_)
  refine wp_region_lit ?_
  refine stepp ha 3 (.pointer (some ⟨b545, 0, none⟩)) KR KR ?_; clear ha a; intro a ha
  refine stepl ha 4 (HW.ca (i := 0) (b := b545) (C := #[.int .i64 a0.f0, .int .i64 a0.f1, .int .i64 a0.f2]) (T := 164) (fr := (0, 0)) KR) 3 0 (.tmp 3) (.int .i64 a0.f0) rfl KR KR KR ?_; clear ha a; intro a ha
  refine stepp ha 5 (.bool (decide (a0.f0 ≥ 0))) KR KR ?_; clear ha a; intro a ha
  refine stepp ha 6 (.bool (decide (a0.f0 ≥ 0))) KR KR ?_; clear ha a; intro a ha
  by_cases hp549 : a0.f0 ≥ 0
  · skip
    replace h := ite_pos' h hp549
    replace ha := ha.bool 6 KR (decide_eq_true hp549)
    refine stepp ha 7 (.pointer (some ⟨b545, 2, none⟩)) KR KR ?_; clear ha a; intro a ha
    refine stepl ha 8 (HW.ca (i := 0) (b := b545) (C := #[.int .i64 a0.f0, .int .i64 a0.f1, .int .i64 a0.f2]) (T := 164) (fr := (0, 0)) KR) 3 2 (.tmp 7) (.int .i64 a0.f2) rfl KR KR KR ?_; clear ha a; intro a ha
    refine stepp ha 9 (.bool (decide (a0.f2 ≥ 0))) KR KR ?_; clear ha a; intro a ha
    refine stepp ha 10 (.bool (decide (a0.f2 ≥ 0))) KR KR ?_; clear ha a; intro a ha
    refine stepp ha 11 (.bool (decide (a0.f2 ≥ 0))) KR KR ?_; clear ha a; intro a ha
    by_cases hp550 : a0.f2 ≥ 0
    · skip
      replace h := ite_pos' h hp550
      replace ha := ha.bool 11 KR (decide_eq_true hp550)
      refine stepp ha 12 (.pointer (some ⟨b545, 1, none⟩)) KR KR ?_; clear ha a; intro a ha
      refine stepl ha 13 (HW.ca (i := 0) (b := b545) (C := #[.int .i64 a0.f0, .int .i64 a0.f1, .int .i64 a0.f2]) (T := 164) (fr := (0, 0)) KR) 3 1 (.tmp 12) (.int .i64 a0.f1) rfl KR KR KR ?_; clear ha a; intro a ha
      refine stepp ha 14 (.bool (decide (a0.f1 ≥ 1))) KR KR ?_; clear ha a; intro a ha
      refine stepp ha 15 (.bool (decide (a0.f1 ≥ 1))) KR KR ?_; clear ha a; intro a ha
      refine stepp ha 16 (.bool (decide (a0.f1 ≥ 1))) KR KR ?_; clear ha a; intro a ha
      by_cases hp551 : a0.f1 ≥ 1
      · skip
        replace h := ite_pos' h hp551
        replace ha := ha.bool 16 KR (decide_eq_true hp551)
        refine stepp ha 17 (.pointer (some ⟨b545, 1, none⟩)) KR KR ?_; clear ha a; intro a ha
        refine stepl ha 18 (HW.ca (i := 0) (b := b545) (C := #[.int .i64 a0.f0, .int .i64 a0.f1, .int .i64 a0.f2]) (T := 164) (fr := (0, 0)) KR) 3 1 (.tmp 17) (.int .i64 a0.f1) rfl KR KR KR ?_; clear ha a; intro a ha
        refine stepp ha 19 (.bool (decide (a0.f1 ≤ 4096))) KR KR ?_; clear ha a; intro a ha
        refine stepp ha 20 (.bool (decide (a0.f1 ≤ 4096))) KR KR ?_; clear ha a; intro a ha
        refine stepp ha 21 (.bool (decide (a0.f1 ≤ 4096))) KR KR ?_; clear ha a; intro a ha
        by_cases hp552 : a0.f1 ≤ 4096
        · skip
          replace h := ite_pos' h hp552
          replace ha := ha.bool 21 KR (decide_eq_true hp552)
          refine stepp ha 22 (.pointer (some ⟨b545, 0, none⟩)) KR KR ?_; clear ha a; intro a ha
          refine stepl ha 23 (HW.ca (i := 0) (b := b545) (C := #[.int .i64 a0.f0, .int .i64 a0.f1, .int .i64 a0.f2]) (T := 164) (fr := (0, 0)) KR) 3 0 (.tmp 22) (.int .i64 a0.f0) rfl KR KR KR ?_; clear ha a; intro a ha
          refine stepp ha 24 (.pointer (some ⟨b545, 1, none⟩)) KR KR ?_; clear ha a; intro a ha
          refine stepl ha 25 (HW.ca (i := 0) (b := b545) (C := #[.int .i64 a0.f0, .int .i64 a0.f1, .int .i64 a0.f2]) (T := 164) (fr := (0, 0)) KR) 3 1 (.tmp 24) (.int .i64 a0.f1) rfl KR KR KR ?_; clear ha a; intro a ha
          refine stepp ha 26 (.int .i64 (IntKind.wrap .i64 (4096 - a0.f1))) KR KR ?_; clear ha a; intro a ha
          refine stepp ha 27 (.bool (decide (a0.f0 ≤ (IntKind.wrap .i64 (4096 - a0.f1))))) KR KR ?_; clear ha a; intro a ha
          refine stepp ha 28 (.bool (decide (a0.f0 ≤ (IntKind.wrap .i64 (4096 - a0.f1))))) KR KR ?_; clear ha a; intro a ha
          refine stepp ha 29 (.bool (decide (a0.f0 ≤ (IntKind.wrap .i64 (4096 - a0.f1))))) KR KR ?_; clear ha a; intro a ha
          by_cases hp553 : a0.f0 ≤ (IntKind.wrap .i64 (4096 - a0.f1))
          · skip
            replace h := ite_pos' h hp553
            replace ha := ha.bool 29 KR (decide_eq_true hp553)
            refine stepp ha 30 (.pointer (some ⟨b545, 2, none⟩)) KR KR ?_; clear ha a; intro a ha
            refine stepl ha 31 (HW.ca (i := 0) (b := b545) (C := #[.int .i64 a0.f0, .int .i64 a0.f1, .int .i64 a0.f2]) (T := 164) (fr := (0, 0)) KR) 3 2 (.tmp 30) (.int .i64 a0.f2) rfl KR KR KR ?_; clear ha a; intro a ha
            refine stepp ha 32 (.pointer (some ⟨b545, 1, none⟩)) KR KR ?_; clear ha a; intro a ha
            refine stepl ha 33 (HW.ca (i := 0) (b := b545) (C := #[.int .i64 a0.f0, .int .i64 a0.f1, .int .i64 a0.f2]) (T := 164) (fr := (0, 0)) KR) 3 1 (.tmp 32) (.int .i64 a0.f1) rfl KR KR KR ?_; clear ha a; intro a ha
            refine stepp ha 34 (.int .i64 (IntKind.wrap .i64 (8192 - a0.f1))) KR KR ?_; clear ha a; intro a ha
            refine stepp ha 35 (.bool (decide (a0.f2 ≤ (IntKind.wrap .i64 (8192 - a0.f1))))) KR KR ?_; clear ha a; intro a ha
            refine stepp ha 36 (.bool (decide (a0.f2 ≤ (IntKind.wrap .i64 (8192 - a0.f1))))) KR KR ?_; clear ha a; intro a ha
            refine stepp ha 2 (.bool (decide (a0.f2 ≤ (IntKind.wrap .i64 (8192 - a0.f1))))) KR KR ?_; clear ha a; intro a ha
            refine endl ?_
            refine thenN (hK548 _ _ ?_); clear hK548
            refine wp_ret ?_
            obtain rfl := Option.some.inj h
            exact finv ha _ _ rfl (.tmp (v := .bool (decide (a0.f2 ≤ (IntKind.wrap .i64 (8192 - a0.f1))))) KR .nil) (.bool (decide (a0.f2 ≤ (IntKind.wrap .i64 (8192 - a0.f1))))) rfl ⟨rfl, HW.pick [] [] (by decide) (by decide) rfl KR⟩
          · skip
            replace h := ite_neg' h hp553
            replace ha := ha.bool 29 KR (decide_eq_false hp553)
            refine stepo ha 30 KR ?_; clear ha a; intro a ha
            refine stepo ha 31 KR ?_; clear ha a; intro a ha
            refine stepo ha 32 KR ?_; clear ha a; intro a ha
            refine stepo ha 33 KR ?_; clear ha a; intro a ha
            refine stepo ha 34 KR ?_; clear ha a; intro a ha
            refine stepo ha 35 KR ?_; clear ha a; intro a ha
            refine stepp ha 36 (.bool false) KR KR ?_; clear ha a; intro a ha
            refine stepp ha 2 (.bool false) KR KR ?_; clear ha a; intro a ha
            refine endl ?_
            refine thenN (hK548 _ _ ?_); clear hK548
            refine wp_ret ?_
            obtain rfl := Option.some.inj h
            exact finv ha _ _ rfl (.tmp (v := .bool false) KR .nil) (.bool false) rfl ⟨rfl, HW.pick [] [] (by decide) (by decide) rfl KR⟩
        · skip
          replace h := ite_neg' h hp552
          replace ha := ha.bool 21 KR (decide_eq_false hp552)
          refine stepo ha 22 KR ?_; clear ha a; intro a ha
          refine stepo ha 23 KR ?_; clear ha a; intro a ha
          refine stepo ha 24 KR ?_; clear ha a; intro a ha
          refine stepo ha 25 KR ?_; clear ha a; intro a ha
          refine stepo ha 26 KR ?_; clear ha a; intro a ha
          refine stepo ha 27 KR ?_; clear ha a; intro a ha
          refine stepp ha 28 (.bool false) KR KR ?_; clear ha a; intro a ha
          refine stepp ha 29 (.bool false) KR KR ?_; clear ha a; intro a ha
          refine stepo ha 30 KR ?_; clear ha a; intro a ha
          refine stepo ha 31 KR ?_; clear ha a; intro a ha
          refine stepo ha 32 KR ?_; clear ha a; intro a ha
          refine stepo ha 33 KR ?_; clear ha a; intro a ha
          refine stepo ha 34 KR ?_; clear ha a; intro a ha
          refine stepo ha 35 KR ?_; clear ha a; intro a ha
          refine stepp ha 36 (.bool false) KR KR ?_; clear ha a; intro a ha
          refine stepp ha 2 (.bool false) KR KR ?_; clear ha a; intro a ha
          refine endl ?_
          refine thenN (hK548 _ _ ?_); clear hK548
          refine wp_ret ?_
          obtain rfl := Option.some.inj h
          exact finv ha _ _ rfl (.tmp (v := .bool false) KR .nil) (.bool false) rfl ⟨rfl, HW.pick [] [] (by decide) (by decide) rfl KR⟩
      · skip
        replace h := ite_neg' h hp551
        replace ha := ha.bool 16 KR (decide_eq_false hp551)
        refine stepo ha 17 KR ?_; clear ha a; intro a ha
        refine stepo ha 18 KR ?_; clear ha a; intro a ha
        refine stepo ha 19 KR ?_; clear ha a; intro a ha
        refine stepp ha 20 (.bool false) KR KR ?_; clear ha a; intro a ha
        refine stepp ha 21 (.bool false) KR KR ?_; clear ha a; intro a ha
        refine stepo ha 22 KR ?_; clear ha a; intro a ha
        refine stepo ha 23 KR ?_; clear ha a; intro a ha
        refine stepo ha 24 KR ?_; clear ha a; intro a ha
        refine stepo ha 25 KR ?_; clear ha a; intro a ha
        refine stepo ha 26 KR ?_; clear ha a; intro a ha
        refine stepo ha 27 KR ?_; clear ha a; intro a ha
        refine stepp ha 28 (.bool false) KR KR ?_; clear ha a; intro a ha
        refine stepp ha 29 (.bool false) KR KR ?_; clear ha a; intro a ha
        refine stepo ha 30 KR ?_; clear ha a; intro a ha
        refine stepo ha 31 KR ?_; clear ha a; intro a ha
        refine stepo ha 32 KR ?_; clear ha a; intro a ha
        refine stepo ha 33 KR ?_; clear ha a; intro a ha
        refine stepo ha 34 KR ?_; clear ha a; intro a ha
        refine stepo ha 35 KR ?_; clear ha a; intro a ha
        refine stepp ha 36 (.bool false) KR KR ?_; clear ha a; intro a ha
        refine stepp ha 2 (.bool false) KR KR ?_; clear ha a; intro a ha
        refine endl ?_
        refine thenN (hK548 _ _ ?_); clear hK548
        refine wp_ret ?_
        obtain rfl := Option.some.inj h
        exact finv ha _ _ rfl (.tmp (v := .bool false) KR .nil) (.bool false) rfl ⟨rfl, HW.pick [] [] (by decide) (by decide) rfl KR⟩
    · skip
      replace h := ite_neg' h hp550
      replace ha := ha.bool 11 KR (decide_eq_false hp550)
      refine stepo ha 12 KR ?_; clear ha a; intro a ha
      refine stepo ha 13 KR ?_; clear ha a; intro a ha
      refine stepo ha 14 KR ?_; clear ha a; intro a ha
      refine stepp ha 15 (.bool false) KR KR ?_; clear ha a; intro a ha
      refine stepp ha 16 (.bool false) KR KR ?_; clear ha a; intro a ha
      refine stepo ha 17 KR ?_; clear ha a; intro a ha
      refine stepo ha 18 KR ?_; clear ha a; intro a ha
      refine stepo ha 19 KR ?_; clear ha a; intro a ha
      refine stepp ha 20 (.bool false) KR KR ?_; clear ha a; intro a ha
      refine stepp ha 21 (.bool false) KR KR ?_; clear ha a; intro a ha
      refine stepo ha 22 KR ?_; clear ha a; intro a ha
      refine stepo ha 23 KR ?_; clear ha a; intro a ha
      refine stepo ha 24 KR ?_; clear ha a; intro a ha
      refine stepo ha 25 KR ?_; clear ha a; intro a ha
      refine stepo ha 26 KR ?_; clear ha a; intro a ha
      refine stepo ha 27 KR ?_; clear ha a; intro a ha
      refine stepp ha 28 (.bool false) KR KR ?_; clear ha a; intro a ha
      refine stepp ha 29 (.bool false) KR KR ?_; clear ha a; intro a ha
      refine stepo ha 30 KR ?_; clear ha a; intro a ha
      refine stepo ha 31 KR ?_; clear ha a; intro a ha
      refine stepo ha 32 KR ?_; clear ha a; intro a ha
      refine stepo ha 33 KR ?_; clear ha a; intro a ha
      refine stepo ha 34 KR ?_; clear ha a; intro a ha
      refine stepo ha 35 KR ?_; clear ha a; intro a ha
      refine stepp ha 36 (.bool false) KR KR ?_; clear ha a; intro a ha
      refine stepp ha 2 (.bool false) KR KR ?_; clear ha a; intro a ha
      refine endl ?_
      refine thenN (hK548 _ _ ?_); clear hK548
      refine wp_ret ?_
      obtain rfl := Option.some.inj h
      exact finv ha _ _ rfl (.tmp (v := .bool false) KR .nil) (.bool false) rfl ⟨rfl, HW.pick [] [] (by decide) (by decide) rfl KR⟩
  · skip
    replace h := ite_neg' h hp549
    replace ha := ha.bool 6 KR (decide_eq_false hp549)
    refine stepo ha 7 KR ?_; clear ha a; intro a ha
    refine stepo ha 8 KR ?_; clear ha a; intro a ha
    refine stepo ha 9 KR ?_; clear ha a; intro a ha
    refine stepp ha 10 (.bool false) KR KR ?_; clear ha a; intro a ha
    refine stepp ha 11 (.bool false) KR KR ?_; clear ha a; intro a ha
    refine stepo ha 12 KR ?_; clear ha a; intro a ha
    refine stepo ha 13 KR ?_; clear ha a; intro a ha
    refine stepo ha 14 KR ?_; clear ha a; intro a ha
    refine stepp ha 15 (.bool false) KR KR ?_; clear ha a; intro a ha
    refine stepp ha 16 (.bool false) KR KR ?_; clear ha a; intro a ha
    refine stepo ha 17 KR ?_; clear ha a; intro a ha
    refine stepo ha 18 KR ?_; clear ha a; intro a ha
    refine stepo ha 19 KR ?_; clear ha a; intro a ha
    refine stepp ha 20 (.bool false) KR KR ?_; clear ha a; intro a ha
    refine stepp ha 21 (.bool false) KR KR ?_; clear ha a; intro a ha
    refine stepo ha 22 KR ?_; clear ha a; intro a ha
    refine stepo ha 23 KR ?_; clear ha a; intro a ha
    refine stepo ha 24 KR ?_; clear ha a; intro a ha
    refine stepo ha 25 KR ?_; clear ha a; intro a ha
    refine stepo ha 26 KR ?_; clear ha a; intro a ha
    refine stepo ha 27 KR ?_; clear ha a; intro a ha
    refine stepp ha 28 (.bool false) KR KR ?_; clear ha a; intro a ha
    refine stepp ha 29 (.bool false) KR KR ?_; clear ha a; intro a ha
    refine stepo ha 30 KR ?_; clear ha a; intro a ha
    refine stepo ha 31 KR ?_; clear ha a; intro a ha
    refine stepo ha 32 KR ?_; clear ha a; intro a ha
    refine stepo ha 33 KR ?_; clear ha a; intro a ha
    refine stepo ha 34 KR ?_; clear ha a; intro a ha
    refine stepo ha 35 KR ?_; clear ha a; intro a ha
    refine stepp ha 36 (.bool false) KR KR ?_; clear ha a; intro a ha
    refine stepp ha 2 (.bool false) KR KR ?_; clear ha a; intro a ha
    refine endl ?_
    refine thenN (hK548 _ _ ?_); clear hK548
    refine wp_ret ?_
    obtain rfl := Option.some.inj h
    exact finv ha _ _ rfl (.tmp (v := .bool false) KR .nil) (.bool false) rfl ⟨rfl, HW.pick [] [] (by decide) (by decide) rfl KR⟩
/-! ### headgate/extents.Good: function 121 -/
def extents_Good.b0 (K : Nat) (a0 : List T_api_Extent) (again654 : Int → Option Bool) (x655 : Int) : Option Bool :=
  if x655 < (a0.length : Int) then (asrt (0 ≤ x655) ((extents_alone.f (⟨(rdL T_api_Extent.z a0 x655).f0, (rdL T_api_Extent.z a0 x655).f1, (rdL T_api_Extent.z a0 x655).f2⟩ : T_api_Extent)).bind fun t679 => (if t679 = true then (if x655 = 0 then (again654 (IntKind.wrap .i64 (x655 + 1))) else (asrt (0 ≤ (IntKind.wrap .i64 (x655 - 1))) (asrt ((IntKind.wrap .i64 (x655 - 1)) < (a0.length : Int)) (if ((rdL T_api_Extent.z a0 x655).f0) < (IntKind.wrap .i64 (((rdL T_api_Extent.z a0 (IntKind.wrap .i64 (x655 - 1))).f0) + ((rdL T_api_Extent.z a0 (IntKind.wrap .i64 (x655 - 1))).f1))) then (some false) else (if ((rdL T_api_Extent.z a0 x655).f0) = (IntKind.wrap .i64 (((rdL T_api_Extent.z a0 (IntKind.wrap .i64 (x655 - 1))).f0) + ((rdL T_api_Extent.z a0 (IntKind.wrap .i64 (x655 - 1))).f1))) then (if ((rdL T_api_Extent.z a0 x655).f2) = (IntKind.wrap .i64 (((rdL T_api_Extent.z a0 (IntKind.wrap .i64 (x655 - 1))).f2) + ((rdL T_api_Extent.z a0 (IntKind.wrap .i64 (x655 - 1))).f1))) then (some false) else (again654 (IntKind.wrap .i64 (x655 + 1)))) else (again654 (IntKind.wrap .i64 (x655 + 1)))))))) else (some false)))) else (some true)
def extents_Good.l0 (K : Nat) (a0 : List T_api_Extent) : Nat → Int → Option Bool
  | 0, _ => none
  | k_ + 1, x655 => extents_Good.b0 K a0 (extents_Good.l0 K a0 k_) x655
def extents_Good.f (K : Nat) (a0 : List T_api_Extent) : Option Bool :=
  if (a0.length : Int) > 4096 then (some false) else (extents_Good.l0 K a0 K 0)
set_option maxRecDepth 100000 in
set_option maxHeartbeats 4000000 in
theorem extents_Good.calls (K : Nat) (a0 : List T_api_Extent) (A0_0 : Option Addr) (c0_0 : Nat) (r : Bool) (w : World) (hr0_0 : Rd 3 w (.slice A0_0 a0.length c0_0) a0.length (encs T_api_Extent.enc a0)) (h : extents_Good.f K a0 = some r) :
    Calls Tryz.prog 121 #[.slice A0_0 a0.length c0_0] w (fun e W' => e = .returned (.bool r) ∧ Wd w W' [] [] ) := by
  refine sxstart (n := 53) (l := [(0, .slice A0_0 a0.length c0_0)]) Tryz.func121 rfl rfl (Nat.le_of_ble_eq_true KR) (subsA_cons rfl (subsA_nil _)) ?_
  intro a ha
  have HW := Wd.refl w
  unfold extents_Good.f at h
  refine wp_seq_k (fun K554 hK555 => ?_)
  refine wp_region_lit ?_
  refine stepp ha 2 (.bool false) KR KR ?_; clear ha a; intro a ha
  refine endl ?_
  refine thenN (hK555 _ _ ?_); clear hK555
  refine wp_seq_k (fun K556 hK557 => ?_)
  refine wp_seq_k (fun K558 hK559 => ?_)
  refine wp_region_lit ?_
  refine stepp ha 7 (.slice A0_0 a0.length c0_0) KR KR ?_; clear ha a; intro a ha
  refine stepp ha 8 (.int .i64 (a0.length : Int)) KR KR ?_; clear ha a; intro a ha
  refine stepp ha 9 (.bool (decide ((a0.length : Int) > 4096))) KR KR ?_; clear ha a; intro a ha
  refine endl ?_
  refine thenN (hK559 _ _ ?_); clear hK559
  by_cases hp560 : (a0.length : Int) > 4096
  · skip
    replace h := ite_pos' h hp560
    refine condT ha KR KR (t := decide ((a0.length : Int) > 4096)) (decide_eq_true hp560) ?_
    refine wp_seq_k (fun K561 hK562 => ?_)
    refine wp_region_lit ?_
    refine stepp ha 2 (.bool false) KR KR ?_; clear ha a; intro a ha
    refine endl ?_
    refine thenN (hK562 _ _ ?_); clear hK562
    refine wp_ret ?_
    refine thenR ?_
    obtain rfl := Option.some.inj h
    exact finv ha _ _ rfl (.tmp (v := .bool false) KR .nil) (.bool false) rfl ⟨rfl, HW.pick [] [] (by decide) (by decide) rfl KR⟩
  · skip
    replace h := ite_neg' h hp560
    refine condF ha KR KR (t := decide ((a0.length : Int) > 4096)) (decide_eq_false hp560) ?_
    refine wp_skip ?_
    refine thenN (hK557 _ _ ?_); clear hK557
    refine wp_seq_k (fun K563 hK564 => ?_)
    refine wp_seq_k (fun K565 hK566 => ?_)
    refine wp_region_lit ?_
    refine stepp ha 10 (.slice A0_0 a0.length c0_0) KR KR ?_; clear ha a; intro a ha
    refine stepp ha 11 (.int .i64 (a0.length : Int)) KR KR ?_; clear ha a; intro a ha
    refine stepp ha 12 (.int .i64 0) KR KR ?_; clear ha a; intro a ha
    refine endl ?_
    refine thenN (hK566 _ _ ?_); clear hK566
    refine wp_block ?_
    refine loopk (fun k => fun a W656 => ∃ (x655 : Int), extents_Good.l0 K a0 k x655 = some r ∧ Has 53 [(0, .slice A0_0 a0.length c0_0), (10, .slice A0_0 a0.length c0_0), (11, .int .i64 (a0.length : Int)), (12, .int .i64 x655)] a ∧ Wd w W656 [] []) K ?_ ?_
    · skip
      exact ⟨0, h, ha.sub (subs_cons KR (subs_cons KR (subs_cons KR (subs_cons KR (subs_nil _))))), HW.pick [] [] (by decide) (by decide) KR KR⟩
    · skip
      intro k a W656 hI
      obtain ⟨x655, h, ha, HW⟩ := hI
      cases k with
      | zero => exact (none_some (show none = some r from h)).elim
      | succ k657 =>
        replace h : extents_Good.b0 K a0 (extents_Good.l0 K a0 k657) x655 = some r := h
        obtain ⟨again654, hag658⟩ : ∃ g_, g_ = extents_Good.l0 K a0 k657 := ⟨_, rfl⟩
        rw [← hag658] at h
        unfold extents_Good.b0 at h
        refine wp_seq_k (fun K659 hK660 => ?_)
        refine wp_region_lit ?_
        refine stepp ha 13 (.bool (decide (x655 < (a0.length : Int)))) KR KR ?_; clear ha a; intro a ha
        refine endl ?_
        refine thenN (hK660 _ _ ?_); clear hK660
        refine wp_seq_k (fun K661 hK662 => ?_)
        by_cases hp663 : x655 < (a0.length : Int)
        · skip
          replace h := ite_pos' h hp663
          refine condT ha KR KR (t := decide (x655 < (a0.length : Int))) (decide_eq_true hp663) ?_
          refine wp_skip ?_
          refine thenN (hK662 _ _ ?_); clear hK662
          refine wp_seq_k (fun K664 hK665 => ?_)
          refine wp_block ?_
          refine wp_seq_k (fun K666 hK667 => ?_)
          refine wp_region_lit ?_
          refine stepp ha 14 (.int .i64 x655) KR KR ?_; clear ha a; intro a ha
          obtain ⟨hA668, h_⟩ := asrt_some h; clear h; have h := h_; clear h_
          refine stepie T_api_Extent.enc T_api_Extent.z ha 15 (fun _ => rfl) (v := .slice A0_0 a0.length c0_0) (xs := a0) ((HW.rd0 hr0_0)) 156 164 (.tmp 10) (.tmp 12) .i64 x655 rfl KR KR KR KR hA668 (show (x655 : Int) < ((a0).length : Int) from hp663) KR ?_; clear ha a; intro b669 off670 a hC671 ha
          refine stepl ha 16 hC671 164 0 (.tmp 15) (.agg #[.int .i64 ((rdL T_api_Extent.z a0 x655).f0), .int .i64 ((rdL T_api_Extent.z a0 x655).f1), .int .i64 ((rdL T_api_Extent.z a0 x655).f2)]) rfl KR KR KR ?_; clear ha a; intro a ha
          refine stepnew ha HW 4 #[.int .i64 0, .int .i64 0, .int .i64 0] 164 KR KR ?_; clear ha HW a; intro b672 a W673 HW ha
          refine stepp ha 3 (.int .i64 x655) KR KR ?_; clear ha a; intro a ha
          refine stepst ha HW 0 (b := b672) (C := #[.int .i64 0, .int .i64 0, .int .i64 0]) (T := 164) KR 164 0 (.tmp 4) (.tmp 16) (.agg #[.int .i64 ((rdL T_api_Extent.z a0 x655).f0), .int .i64 ((rdL T_api_Extent.z a0 x655).f1), .int .i64 ((rdL T_api_Extent.z a0 x655).f2)]) #[.int .i64 ((rdL T_api_Extent.z a0 x655).f0), .int .i64 ((rdL T_api_Extent.z a0 x655).f1), .int .i64 ((rdL T_api_Extent.z a0 x655).f2)] rfl KR KR KR KR KR KR KR ?_; clear ha HW a; intro a W674 HW ha
          refine endl ?_
          refine thenN (hK667 _ _ ?_); clear hK667
          refine wp_seq_k (fun K675 hK676 => ?_)
          refine wp_seq_k (fun K677 hK678 => ?_)
          refine wp_region_lit ?_
          refine stepl ha 17 (HW.ca (i := 0) (b := b672) (C := #[.int .i64 ((rdL T_api_Extent.z a0 x655).f0), .int .i64 ((rdL T_api_Extent.z a0 x655).f1), .int .i64 ((rdL T_api_Extent.z a0 x655).f2)]) (T := 164) (fr := (0, 0)) KR) 164 0 (.tmp 4) (.agg #[.int .i64 ((rdL T_api_Extent.z a0 x655).f0), .int .i64 ((rdL T_api_Extent.z a0 x655).f1), .int .i64 ((rdL T_api_Extent.z a0 x655).f2)]) rfl KR KR KR ?_; clear ha a; intro a ha
          obtain ⟨t679, ht680, h_⟩ := bind_some' h; clear h; have h := h_; clear h_
          refine stepc ha 18 KR KR (extents_alone.calls (⟨(rdL T_api_Extent.z a0 x655).f0, (rdL T_api_Extent.z a0 x655).f1, (rdL T_api_Extent.z a0 x655).f2⟩ : T_api_Extent) t679 _ ht680) ?_; clear ha a; rintro e W681 ⟨rfl, HX682⟩
          refine ⟨_, rfl, ?_⟩; intro a ha; replace HW := HW.callw HX682; clear HX682
          refine stepp ha 19 (.bool (!t679)) KR KR ?_; clear ha a; intro a ha
          refine endl ?_
          refine thenN (hK678 _ _ ?_); clear hK678
          by_cases hp683 : t679 = true
          · skip
            replace h := ite_pos' h hp683
            refine condF ha KR KR (t := (!t679)) (not_f (hp683)) ?_
            refine wp_skip ?_
            refine thenN (hK676 _ _ ?_); clear hK676
            refine wp_seq_k (fun K686 hK687 => ?_)
            refine wp_seq_k (fun K688 hK689 => ?_)
            refine wp_region_lit ?_
            refine stepp ha 20 (.int .i64 x655) KR KR ?_; clear ha a; intro a ha
            refine stepp ha 21 (.bool (x655 == 0)) KR KR ?_; clear ha a; intro a ha
            refine endl ?_
            refine thenN (hK689 _ _ ?_); clear hK689
            by_cases hp690 : x655 = 0
            · skip
              replace h := ite_pos' h hp690
              refine condT ha KR KR (t := (x655 == 0)) (ieq_t hp690) ?_
              refine wp_exit ?_
              refine thenE ?_
              refine inBlk ?_
              refine thenN (hK665 _ _ ?_); clear hK665
              refine wp_region_lit ?_
              refine stepp ha 52 (.int .i64 (IntKind.wrap .i64 (x655 + 1))) KR KR ?_; clear ha a; intro a ha
              refine stepp ha 12 (.int .i64 (IntKind.wrap .i64 (x655 + 1))) KR KR ?_; clear ha a; intro a ha
              refine endl ?_
              exact thenN ⟨k657, Nat.lt_succ_self k657, IntKind.wrap .i64 (x655 + 1), (by rw [← hag658]; exact h), ha.sub (subs_cons KR (subs_cons KR (subs_cons KR (subs_cons KR (subs_nil _))))), HW.pick [] [] (by decide) (by decide) KR KR⟩
            · skip
              replace h := ite_neg' h hp690
              refine condF ha KR KR (t := (x655 == 0)) (ieq_f hp690) ?_
              refine wp_skip ?_
              refine thenN (hK687 _ _ ?_); clear hK687
              refine wp_seq_k (fun K691 hK692 => ?_)
              refine wp_region_lit ?_
              refine stepp ha 22 (.slice A0_0 a0.length c0_0) KR KR ?_; clear ha a; intro a ha
              refine stepp ha 23 (.int .i64 x655) KR KR ?_; clear ha a; intro a ha
              refine stepp ha 24 (.int .i64 (IntKind.wrap .i64 (x655 - 1))) KR KR ?_; clear ha a; intro a ha
              obtain ⟨hA693, h_⟩ := asrt_some h; clear h; have h := h_; clear h_
              obtain ⟨hA694, h_⟩ := asrt_some h; clear h; have h := h_; clear h_
              refine stepie T_api_Extent.enc T_api_Extent.z ha 25 (fun _ => rfl) (v := .slice A0_0 a0.length c0_0) (xs := a0) ((HW.rd0 hr0_0)) 156 164 (.tmp 22) (.tmp 24) .i64 (IntKind.wrap .i64 (x655 - 1)) rfl KR KR KR KR hA693 (show (IntKind.wrap .i64 (x655 - 1) : Int) < ((a0).length : Int) from hA694) KR ?_; clear ha a; intro b695 off696 a hC697 ha
              refine stepl ha 26 hC697 164 0 (.tmp 25) (.agg #[.int .i64 ((rdL T_api_Extent.z a0 (IntKind.wrap .i64 (x655 - 1))).f0), .int .i64 ((rdL T_api_Extent.z a0 (IntKind.wrap .i64 (x655 - 1))).f1), .int .i64 ((rdL T_api_Extent.z a0 (IntKind.wrap .i64 (x655 - 1))).f2)]) rfl KR KR KR ?_; clear ha a; intro a ha
              refine stepnew ha HW 5 #[.int .i64 0, .int .i64 0, .int .i64 0] 164 KR KR ?_; clear ha HW a; intro b698 a W699 HW ha
              refine stepst ha HW 0 (b := b698) (C := #[.int .i64 0, .int .i64 0, .int .i64 0]) (T := 164) KR 164 0 (.tmp 5) (.tmp 26) (.agg #[.int .i64 ((rdL T_api_Extent.z a0 (IntKind.wrap .i64 (x655 - 1))).f0), .int .i64 ((rdL T_api_Extent.z a0 (IntKind.wrap .i64 (x655 - 1))).f1), .int .i64 ((rdL T_api_Extent.z a0 (IntKind.wrap .i64 (x655 - 1))).f2)]) #[.int .i64 ((rdL T_api_Extent.z a0 (IntKind.wrap .i64 (x655 - 1))).f0), .int .i64 ((rdL T_api_Extent.z a0 (IntKind.wrap .i64 (x655 - 1))).f1), .int .i64 ((rdL T_api_Extent.z a0 (IntKind.wrap .i64 (x655 - 1))).f2)] rfl KR KR KR KR KR KR KR ?_; clear ha HW a; intro a W700 HW ha
              refine endl ?_
              refine thenN (hK692 _ _ ?_); clear hK692
              refine wp_seq_k (fun K701 hK702 => ?_)
              refine wp_region_lit ?_
              refine stepp ha 27 (.pointer (some ⟨b698, 0, none⟩)) KR KR ?_; clear ha a; intro a ha
              refine stepl ha 28 (HW.ca (i := 0) (b := b698) (C := #[.int .i64 ((rdL T_api_Extent.z a0 (IntKind.wrap .i64 (x655 - 1))).f0), .int .i64 ((rdL T_api_Extent.z a0 (IntKind.wrap .i64 (x655 - 1))).f1), .int .i64 ((rdL T_api_Extent.z a0 (IntKind.wrap .i64 (x655 - 1))).f2)]) (T := 164) (fr := (0, 0)) KR) 3 0 (.tmp 27) (.int .i64 ((rdL T_api_Extent.z a0 (IntKind.wrap .i64 (x655 - 1))).f0)) rfl KR KR KR ?_; clear ha a; intro a ha
              refine stepp ha 29 (.pointer (some ⟨b698, 1, none⟩)) KR KR ?_; clear ha a; intro a ha
              refine stepl ha 30 (HW.ca (i := 0) (b := b698) (C := #[.int .i64 ((rdL T_api_Extent.z a0 (IntKind.wrap .i64 (x655 - 1))).f0), .int .i64 ((rdL T_api_Extent.z a0 (IntKind.wrap .i64 (x655 - 1))).f1), .int .i64 ((rdL T_api_Extent.z a0 (IntKind.wrap .i64 (x655 - 1))).f2)]) (T := 164) (fr := (0, 0)) KR) 3 1 (.tmp 29) (.int .i64 ((rdL T_api_Extent.z a0 (IntKind.wrap .i64 (x655 - 1))).f1)) rfl KR KR KR ?_; clear ha a; intro a ha
              refine stepp ha 31 (.int .i64 (IntKind.wrap .i64 (((rdL T_api_Extent.z a0 (IntKind.wrap .i64 (x655 - 1))).f0) + ((rdL T_api_Extent.z a0 (IntKind.wrap .i64 (x655 - 1))).f1)))) KR KR ?_; clear ha a; intro a ha
              refine stepp ha 6 (.int .i64 (IntKind.wrap .i64 (((rdL T_api_Extent.z a0 (IntKind.wrap .i64 (x655 - 1))).f0) + ((rdL T_api_Extent.z a0 (IntKind.wrap .i64 (x655 - 1))).f1)))) KR KR ?_; clear ha a; intro a ha
              refine endl ?_
              refine thenN (hK702 _ _ ?_); clear hK702
              refine wp_seq_k (fun K703 hK704 => ?_)
              refine wp_region_lit ?_
              refine stepp ha 32 (.pointer (some ⟨b672, 0, none⟩)) KR KR ?_; clear ha a; intro a ha
              refine stepl ha 33 (HW.ca (i := 1) (b := b672) (C := #[.int .i64 ((rdL T_api_Extent.z a0 x655).f0), .int .i64 ((rdL T_api_Extent.z a0 x655).f1), .int .i64 ((rdL T_api_Extent.z a0 x655).f2)]) (T := 164) (fr := (0, 0)) KR) 3 0 (.tmp 32) (.int .i64 ((rdL T_api_Extent.z a0 x655).f0)) rfl KR KR KR ?_; clear ha a; intro a ha
              refine stepp ha 34 (.int .i64 (IntKind.wrap .i64 (((rdL T_api_Extent.z a0 (IntKind.wrap .i64 (x655 - 1))).f0) + ((rdL T_api_Extent.z a0 (IntKind.wrap .i64 (x655 - 1))).f1)))) KR KR ?_; clear ha a; intro a ha
              refine stepp ha 35 (.bool (decide (((rdL T_api_Extent.z a0 x655).f0) < (IntKind.wrap .i64 (((rdL T_api_Extent.z a0 (IntKind.wrap .i64 (x655 - 1))).f0) + ((rdL T_api_Extent.z a0 (IntKind.wrap .i64 (x655 - 1))).f1)))))) KR KR ?_; clear ha a; intro a ha
              refine stepp ha 36 (.bool (decide (((rdL T_api_Extent.z a0 x655).f0) < (IntKind.wrap .i64 (((rdL T_api_Extent.z a0 (IntKind.wrap .i64 (x655 - 1))).f0) + ((rdL T_api_Extent.z a0 (IntKind.wrap .i64 (x655 - 1))).f1)))))) KR KR ?_; clear ha a; intro a ha
              by_cases hp705 : ((rdL T_api_Extent.z a0 x655).f0) < (IntKind.wrap .i64 (((rdL T_api_Extent.z a0 (IntKind.wrap .i64 (x655 - 1))).f0) + ((rdL T_api_Extent.z a0 (IntKind.wrap .i64 (x655 - 1))).f1)))
              · skip
                replace h := ite_pos' h hp705
                replace ha := ha.bool 36 KR (decide_eq_true hp705)
                refine stepo ha 37 KR ?_; clear ha a; intro a ha
                refine stepo ha 38 KR ?_; clear ha a; intro a ha
                refine stepo ha 39 KR ?_; clear ha a; intro a ha
                refine stepo ha 40 KR ?_; clear ha a; intro a ha
                refine stepo ha 41 KR ?_; clear ha a; intro a ha
                refine stepo ha 42 KR ?_; clear ha a; intro a ha
                refine stepo ha 43 KR ?_; clear ha a; intro a ha
                refine stepo ha 44 KR ?_; clear ha a; intro a ha
                refine stepo ha 45 KR ?_; clear ha a; intro a ha
                refine stepo ha 46 KR ?_; clear ha a; intro a ha
                refine stepo ha 47 KR ?_; clear ha a; intro a ha
                refine stepo ha 48 KR ?_; clear ha a; intro a ha
                refine stepo ha 49 KR ?_; clear ha a; intro a ha
                refine stepo ha 50 KR ?_; clear ha a; intro a ha
                refine stepp ha 51 (.bool true) KR KR ?_; clear ha a; intro a ha
                refine endl ?_
                refine thenN (hK704 _ _ ?_); clear hK704
                refine condT ha KR KR (t := true) (rfl) ?_
                refine wp_seq_k (fun K707 hK708 => ?_)
                refine wp_region_lit ?_
                refine stepp ha 2 (.bool false) KR KR ?_; clear ha a; intro a ha
                refine endl ?_
                refine thenN (hK708 _ _ ?_); clear hK708
                refine wp_ret ?_
                refine blkR ?_
                refine thenR ?_
                refine thenR ?_
                refine blkR ?_
                refine thenR ?_
                obtain rfl := Option.some.inj h
                exact finv ha _ _ rfl (.tmp (v := .bool false) KR .nil) (.bool false) rfl ⟨rfl, HW.pick [] [] (by decide) (by decide) rfl KR⟩
              · skip
                replace h := ite_neg' h hp705
                replace ha := ha.bool 36 KR (decide_eq_false hp705)
                refine stepp ha 37 (.pointer (some ⟨b672, 0, none⟩)) KR KR ?_; clear ha a; intro a ha
                refine stepl ha 38 (HW.ca (i := 1) (b := b672) (C := #[.int .i64 ((rdL T_api_Extent.z a0 x655).f0), .int .i64 ((rdL T_api_Extent.z a0 x655).f1), .int .i64 ((rdL T_api_Extent.z a0 x655).f2)]) (T := 164) (fr := (0, 0)) KR) 3 0 (.tmp 37) (.int .i64 ((rdL T_api_Extent.z a0 x655).f0)) rfl KR KR KR ?_; clear ha a; intro a ha
                refine stepp ha 39 (.int .i64 (IntKind.wrap .i64 (((rdL T_api_Extent.z a0 (IntKind.wrap .i64 (x655 - 1))).f0) + ((rdL T_api_Extent.z a0 (IntKind.wrap .i64 (x655 - 1))).f1)))) KR KR ?_; clear ha a; intro a ha
                refine stepp ha 40 (.bool (((rdL T_api_Extent.z a0 x655).f0) == (IntKind.wrap .i64 (((rdL T_api_Extent.z a0 (IntKind.wrap .i64 (x655 - 1))).f0) + ((rdL T_api_Extent.z a0 (IntKind.wrap .i64 (x655 - 1))).f1))))) KR KR ?_; clear ha a; intro a ha
                refine stepp ha 41 (.bool (((rdL T_api_Extent.z a0 x655).f0) == (IntKind.wrap .i64 (((rdL T_api_Extent.z a0 (IntKind.wrap .i64 (x655 - 1))).f0) + ((rdL T_api_Extent.z a0 (IntKind.wrap .i64 (x655 - 1))).f1))))) KR KR ?_; clear ha a; intro a ha
                by_cases hp706 : ((rdL T_api_Extent.z a0 x655).f0) = (IntKind.wrap .i64 (((rdL T_api_Extent.z a0 (IntKind.wrap .i64 (x655 - 1))).f0) + ((rdL T_api_Extent.z a0 (IntKind.wrap .i64 (x655 - 1))).f1)))
                · skip
                  replace h := ite_pos' h hp706
                  replace ha := ha.bool 41 KR (ieq_t hp706)
                  refine stepp ha 42 (.pointer (some ⟨b672, 2, none⟩)) KR KR ?_; clear ha a; intro a ha
                  refine stepl ha 43 (HW.ca (i := 1) (b := b672) (C := #[.int .i64 ((rdL T_api_Extent.z a0 x655).f0), .int .i64 ((rdL T_api_Extent.z a0 x655).f1), .int .i64 ((rdL T_api_Extent.z a0 x655).f2)]) (T := 164) (fr := (0, 0)) KR) 3 2 (.tmp 42) (.int .i64 ((rdL T_api_Extent.z a0 x655).f2)) rfl KR KR KR ?_; clear ha a; intro a ha
                  refine stepp ha 44 (.pointer (some ⟨b698, 2, none⟩)) KR KR ?_; clear ha a; intro a ha
                  refine stepl ha 45 (HW.ca (i := 0) (b := b698) (C := #[.int .i64 ((rdL T_api_Extent.z a0 (IntKind.wrap .i64 (x655 - 1))).f0), .int .i64 ((rdL T_api_Extent.z a0 (IntKind.wrap .i64 (x655 - 1))).f1), .int .i64 ((rdL T_api_Extent.z a0 (IntKind.wrap .i64 (x655 - 1))).f2)]) (T := 164) (fr := (0, 0)) KR) 3 2 (.tmp 44) (.int .i64 ((rdL T_api_Extent.z a0 (IntKind.wrap .i64 (x655 - 1))).f2)) rfl KR KR KR ?_; clear ha a; intro a ha
                  refine stepp ha 46 (.pointer (some ⟨b698, 1, none⟩)) KR KR ?_; clear ha a; intro a ha
                  refine stepl ha 47 (HW.ca (i := 0) (b := b698) (C := #[.int .i64 ((rdL T_api_Extent.z a0 (IntKind.wrap .i64 (x655 - 1))).f0), .int .i64 ((rdL T_api_Extent.z a0 (IntKind.wrap .i64 (x655 - 1))).f1), .int .i64 ((rdL T_api_Extent.z a0 (IntKind.wrap .i64 (x655 - 1))).f2)]) (T := 164) (fr := (0, 0)) KR) 3 1 (.tmp 46) (.int .i64 ((rdL T_api_Extent.z a0 (IntKind.wrap .i64 (x655 - 1))).f1)) rfl KR KR KR ?_; clear ha a; intro a ha
                  refine stepp ha 48 (.int .i64 (IntKind.wrap .i64 (((rdL T_api_Extent.z a0 (IntKind.wrap .i64 (x655 - 1))).f2) + ((rdL T_api_Extent.z a0 (IntKind.wrap .i64 (x655 - 1))).f1)))) KR KR ?_; clear ha a; intro a ha
                  refine stepp ha 49 (.bool (((rdL T_api_Extent.z a0 x655).f2) == (IntKind.wrap .i64 (((rdL T_api_Extent.z a0 (IntKind.wrap .i64 (x655 - 1))).f2) + ((rdL T_api_Extent.z a0 (IntKind.wrap .i64 (x655 - 1))).f1))))) KR KR ?_; clear ha a; intro a ha
                  refine stepp ha 50 (.bool (((rdL T_api_Extent.z a0 x655).f2) == (IntKind.wrap .i64 (((rdL T_api_Extent.z a0 (IntKind.wrap .i64 (x655 - 1))).f2) + ((rdL T_api_Extent.z a0 (IntKind.wrap .i64 (x655 - 1))).f1))))) KR KR ?_; clear ha a; intro a ha
                  refine stepp ha 51 (.bool (((rdL T_api_Extent.z a0 x655).f2) == (IntKind.wrap .i64 (((rdL T_api_Extent.z a0 (IntKind.wrap .i64 (x655 - 1))).f2) + ((rdL T_api_Extent.z a0 (IntKind.wrap .i64 (x655 - 1))).f1))))) KR KR ?_; clear ha a; intro a ha
                  refine endl ?_
                  refine thenN (hK704 _ _ ?_); clear hK704
                  by_cases hp709 : ((rdL T_api_Extent.z a0 x655).f2) = (IntKind.wrap .i64 (((rdL T_api_Extent.z a0 (IntKind.wrap .i64 (x655 - 1))).f2) + ((rdL T_api_Extent.z a0 (IntKind.wrap .i64 (x655 - 1))).f1)))
                  · skip
                    replace h := ite_pos' h hp709
                    refine condT ha KR KR (t := (((rdL T_api_Extent.z a0 x655).f2) == (IntKind.wrap .i64 (((rdL T_api_Extent.z a0 (IntKind.wrap .i64 (x655 - 1))).f2) + ((rdL T_api_Extent.z a0 (IntKind.wrap .i64 (x655 - 1))).f1))))) (ieq_t hp709) ?_
                    refine wp_seq_k (fun K710 hK711 => ?_)
                    refine wp_region_lit ?_
                    refine stepp ha 2 (.bool false) KR KR ?_; clear ha a; intro a ha
                    refine endl ?_
                    refine thenN (hK711 _ _ ?_); clear hK711
                    refine wp_ret ?_
                    refine blkR ?_
                    refine thenR ?_
                    refine thenR ?_
                    refine blkR ?_
                    refine thenR ?_
                    obtain rfl := Option.some.inj h
                    exact finv ha _ _ rfl (.tmp (v := .bool false) KR .nil) (.bool false) rfl ⟨rfl, HW.pick [] [] (by decide) (by decide) rfl KR⟩
                  · skip
                    replace h := ite_neg' h hp709
                    refine condF ha KR KR (t := (((rdL T_api_Extent.z a0 x655).f2) == (IntKind.wrap .i64 (((rdL T_api_Extent.z a0 (IntKind.wrap .i64 (x655 - 1))).f2) + ((rdL T_api_Extent.z a0 (IntKind.wrap .i64 (x655 - 1))).f1))))) (ieq_f hp709) ?_
                    refine wp_skip ?_
                    refine blkN ?_
                    refine thenN (hK665 _ _ ?_); clear hK665
                    refine wp_region_lit ?_
                    refine stepp ha 52 (.int .i64 (IntKind.wrap .i64 (x655 + 1))) KR KR ?_; clear ha a; intro a ha
                    refine stepp ha 12 (.int .i64 (IntKind.wrap .i64 (x655 + 1))) KR KR ?_; clear ha a; intro a ha
                    refine endl ?_
                    exact thenN ⟨k657, Nat.lt_succ_self k657, IntKind.wrap .i64 (x655 + 1), (by rw [← hag658]; exact h), ha.sub (subs_cons KR (subs_cons KR (subs_cons KR (subs_cons KR (subs_nil _))))), HW.pick [] [] (by decide) (by decide) KR KR⟩
                · skip
                  replace h := ite_neg' h hp706
                  replace ha := ha.bool 41 KR (ieq_f hp706)
                  refine stepo ha 42 KR ?_; clear ha a; intro a ha
                  refine stepo ha 43 KR ?_; clear ha a; intro a ha
                  refine stepo ha 44 KR ?_; clear ha a; intro a ha
                  refine stepo ha 45 KR ?_; clear ha a; intro a ha
                  refine stepo ha 46 KR ?_; clear ha a; intro a ha
                  refine stepo ha 47 KR ?_; clear ha a; intro a ha
                  refine stepo ha 48 KR ?_; clear ha a; intro a ha
                  refine stepo ha 49 KR ?_; clear ha a; intro a ha
                  refine stepp ha 50 (.bool false) KR KR ?_; clear ha a; intro a ha
                  refine stepp ha 51 (.bool false) KR KR ?_; clear ha a; intro a ha
                  refine endl ?_
                  refine thenN (hK704 _ _ ?_); clear hK704
                  refine condF ha KR KR (t := false) (rfl) ?_
                  refine wp_skip ?_
                  refine blkN ?_
                  refine thenN (hK665 _ _ ?_); clear hK665
                  refine wp_region_lit ?_
                  refine stepp ha 52 (.int .i64 (IntKind.wrap .i64 (x655 + 1))) KR KR ?_; clear ha a; intro a ha
                  refine stepp ha 12 (.int .i64 (IntKind.wrap .i64 (x655 + 1))) KR KR ?_; clear ha a; intro a ha
                  refine endl ?_
                  exact thenN ⟨k657, Nat.lt_succ_self k657, IntKind.wrap .i64 (x655 + 1), (by rw [← hag658]; exact h), ha.sub (subs_cons KR (subs_cons KR (subs_cons KR (subs_cons KR (subs_nil _))))), HW.pick [] [] (by decide) (by decide) KR KR⟩
          · skip
            replace h := ite_neg' h hp683
            refine condT ha KR KR (t := (!t679)) (not_t (bool_f hp683)) ?_
            refine wp_seq_k (fun K684 hK685 => ?_)
            refine wp_region_lit ?_
            refine stepp ha 2 (.bool false) KR KR ?_; clear ha a; intro a ha
            refine endl ?_
            refine thenN (hK685 _ _ ?_); clear hK685
            refine wp_ret ?_
            refine thenR ?_
            refine blkR ?_
            refine thenR ?_
            refine thenR ?_
            refine blkR ?_
            refine thenR ?_
            obtain rfl := Option.some.inj h
            exact finv ha _ _ rfl (.tmp (v := .bool false) KR .nil) (.bool false) rfl ⟨rfl, HW.pick [] [] (by decide) (by decide) rfl KR⟩
        · skip
          replace h := ite_neg' h hp663
          refine condF ha KR KR (t := decide (x655 < (a0.length : Int))) (decide_eq_false hp663) ?_
          refine wp_exit ?_
          refine thenE ?_
          refine thenE ?_
          refine inBlk ?_
          refine thenN (hK564 _ _ ?_); clear hK564
          refine wp_seq_k (fun K712 hK713 => ?_)
          refine wp_region_lit ?_
          refine stepp ha 2 (.bool true) KR KR ?_; clear ha a; intro a ha
          refine endl ?_
          refine thenN (hK713 _ _ ?_); clear hK713
          refine wp_ret ?_
          obtain rfl := Option.some.inj h
          exact finv ha _ _ rfl (.tmp (v := .bool true) KR .nil) (.bool true) rfl ⟨rfl, HW.pick [] [] (by decide) (by decide) rfl KR⟩
/-! ### headgate/headgatekeep.Zeros: function 49 -/
def headgatekeep_Zeros.f (a0 : Int) : Option ByteArray :=
  asrt (0 ≤ a0) (asrt (a0 ≤ 281474976710656) (some (strOfNums (List.replicate (a0 : Int).toNat (0 : Int)))))
set_option maxRecDepth 100000 in
set_option maxHeartbeats 4000000 in
theorem headgatekeep_Zeros.calls (a0 : Int)  (r : ByteArray) (w : World)  (h : headgatekeep_Zeros.f a0 = some r) :
    Calls Tryz.prog 49 #[.int .i64 a0] w (fun e W' => e = .returned (.string r) ∧ Wd w W' [] [] ) := by
  refine sxstart (n := 6) (l := [(0, .int .i64 a0)]) Tryz.func49 rfl rfl (Nat.le_of_ble_eq_true KR) (subsA_cons rfl (subsA_nil _)) ?_
  intro a ha
  have HW := Wd.refl w
  unfold headgatekeep_Zeros.f at h
  refine wp_seq_k (fun K737 hK738 => ?_)
  refine wp_region_lit ?_
  refine stepp ha 2 (.string (⟨#[]⟩ : ByteArray)) KR KR ?_; clear ha a; intro a ha
  refine endl ?_
  refine thenN (hK738 _ _ ?_); clear hK738
  refine wp_seq_k (fun K739 hK740 => ?_)
  refine wp_region_lit ?_
  refine stepp ha 3 (.int .i64 a0) KR KR ?_; clear ha a; intro a ha
  obtain ⟨hA741, h_⟩ := asrt_some h; clear h; have h := h_; clear h_
  obtain ⟨hA742, h_⟩ := asrt_some h; clear h; have h := h_; clear h_
  refine stepmk (encI .u8) (0 : Int) ha HW 4 105 5 (.tmp 3) (.tmp 3) .i64 .i64 a0 (.int .u8 0) 1 rfl KR KR KR KR rfl rfl hA741 (by have := hA742; omega) (by have := hA742; omega) KR ?_; clear ha HW a; intro b743 a W744 HW ha
  refine stepbt ha 5 105 9 5 (.tmp 4) (v := .slice (some ⟨b743, 0, none⟩) (List.replicate (a0 : Int).toNat (0 : Int)).length ((a0 : Int).toNat)) (xs := List.replicate (a0 : Int).toNat (0 : Int)) (HW.rdo (i := 0) (q := ⟨5, 1, .slice (some ⟨b743, 0, none⟩) (List.replicate (a0 : Int).toNat (0 : Int)).length ((a0 : Int).toNat), (List.replicate (a0 : Int).toNat (0 : Int)).length, encs (encI .u8) (List.replicate (a0 : Int).toNat (0 : Int))⟩) KR) rfl KR KR KR KR KR ?_; clear ha a; intro a ha
  refine stepp ha 2 (.string (strOfNums (List.replicate (a0 : Int).toNat (0 : Int)))) KR KR ?_; clear ha a; intro a ha
  refine endl ?_
  refine thenN (hK740 _ _ ?_); clear hK740
  refine wp_ret ?_
  obtain rfl := Option.some.inj h
  exact finv ha _ _ rfl (.tmp (v := .string (strOfNums (List.replicate (a0 : Int).toNat (0 : Int)))) KR .nil) (.string (strOfNums (List.replicate (a0 : Int).toNat (0 : Int)))) rfl ⟨rfl, HW.pick [] [] (by decide) (by decide) rfl KR⟩
/-! ### headgate/headgatelaw08.Id: function 29 -/
def headgatelaw08_Id.f (a0 : Int) : Option ByteArray :=
  asrt (15 + (strOfNums ([IntKind.wrap .u8 (97 + (Int.tmod a0 26))] : List Int)).size ≤ 9223372036854775807) (some ((⟨#[117, 110, 105, 116, 45, 105, 100, 45, 48, 48, 48, 48, 48, 48, 48]⟩ : ByteArray) ++ (strOfNums ([IntKind.wrap .u8 (97 + (Int.tmod a0 26))] : List Int))))
set_option maxRecDepth 100000 in
set_option maxHeartbeats 4000000 in
theorem headgatelaw08_Id.calls (a0 : Int)  (r : ByteArray) (w : World)  (h : headgatelaw08_Id.f a0 = some r) :
    Calls Tryz.prog 29 #[.int .u8 a0] w (fun e W' => e = .returned (.string r) ∧ Wd w W' [] [] ) := by
  refine sxstart (n := 9) (l := [(0, .int .u8 a0)]) Tryz.func29 rfl rfl (Nat.le_of_ble_eq_true KR) (subsA_cons rfl (subsA_nil _)) ?_
  intro a ha
  have HW := Wd.refl w
  unfold headgatelaw08_Id.f at h
  refine wp_seq_k (fun K746 hK747 => ?_)
  refine wp_region_lit ?_
  refine stepp ha 2 (.string (⟨#[]⟩ : ByteArray)) KR KR ?_; clear ha a; intro a ha
  refine endl ?_
  refine thenN (hK747 _ _ ?_); clear hK747
  refine wp_seq_k (fun K748 hK749 => ?_)
  refine wp_region_lit ?_
  refine stepp ha 3 (.int .u8 a0) KR KR ?_; clear ha a; intro a ha
  refine stepp ha 4 (.int .u8 (Int.tmod a0 26)) KR KR ?_; clear ha a; intro a ha
  refine stepp ha 5 (.int .u8 (IntKind.wrap .u8 (97 + (Int.tmod a0 26)))) KR KR ?_; clear ha a; intro a ha
  refine stepbs ha HW 6 5 1 1 #[.int .u8 (IntKind.wrap .u8 (97 + (Int.tmod a0 26)))] [.int .u8 (IntKind.wrap .u8 (97 + (Int.tmod a0 26)))] (by decide) KR KR KR KR ?_; clear ha HW a; intro b750 a W751 HW ha
  replace HW : Wd w W751 [] [⟨5, 1, .slice (some ⟨b750, 0, none⟩) ([IntKind.wrap .u8 (97 + (Int.tmod a0 26))] : List Int).length 1, ([IntKind.wrap .u8 (97 + (Int.tmod a0 26))] : List Int).length, encs (encI .u8) ([IntKind.wrap .u8 (97 + (Int.tmod a0 26))] : List Int)⟩] := HW
  replace ha := ha.turn 6 (v := .slice (some ⟨b750, 0, none⟩) ([IntKind.wrap .u8 (97 + (Int.tmod a0 26))] : List Int).length 1) KR rfl
  refine stepbt ha 7 105 9 5 (.tmp 6) (v := .slice (some ⟨b750, 0, none⟩) ([IntKind.wrap .u8 (97 + (Int.tmod a0 26))] : List Int).length 1) (xs := ([IntKind.wrap .u8 (97 + (Int.tmod a0 26))] : List Int)) (HW.rdo (i := 0) (q := ⟨5, 1, .slice (some ⟨b750, 0, none⟩) ([IntKind.wrap .u8 (97 + (Int.tmod a0 26))] : List Int).length 1, ([IntKind.wrap .u8 (97 + (Int.tmod a0 26))] : List Int).length, encs (encI .u8) ([IntKind.wrap .u8 (97 + (Int.tmod a0 26))] : List Int)⟩) KR) rfl KR KR KR KR KR ?_; clear ha a; intro a ha
  obtain ⟨hA753, h_⟩ := asrt_some h; clear h; have h := h_; clear h_
  refine stepsa ha 8 9 9 (.const (.string (⟨#[117, 110, 105, 116, 45, 105, 100, 45, 48, 48, 48, 48, 48, 48, 48]⟩ : ByteArray))) (.tmp 7) (⟨#[117, 110, 105, 116, 45, 105, 100, 45, 48, 48, 48, 48, 48, 48, 48]⟩ : ByteArray) (strOfNums ([IntKind.wrap .u8 (97 + (Int.tmod a0 26))] : List Int)) rfl KR KR (show ((⟨#[117, 110, 105, 116, 45, 105, 100, 45, 48, 48, 48, 48, 48, 48, 48]⟩ : ByteArray)).size + (strOfNums ([IntKind.wrap .u8 (97 + (Int.tmod a0 26))] : List Int)).size ≤ 9223372036854775807 from hA753) KR ?_; clear ha a; intro a ha
  refine stepp ha 2 (.string ((⟨#[117, 110, 105, 116, 45, 105, 100, 45, 48, 48, 48, 48, 48, 48, 48]⟩ : ByteArray) ++ (strOfNums ([IntKind.wrap .u8 (97 + (Int.tmod a0 26))] : List Int)))) KR KR ?_; clear ha a; intro a ha
  refine endl ?_
  refine thenN (hK749 _ _ ?_); clear hK749
  refine wp_ret ?_
  obtain rfl := Option.some.inj h
  exact finv ha _ _ rfl (.tmp (v := .string ((⟨#[117, 110, 105, 116, 45, 105, 100, 45, 48, 48, 48, 48, 48, 48, 48]⟩ : ByteArray) ++ (strOfNums ([IntKind.wrap .u8 (97 + (Int.tmod a0 26))] : List Int)))) KR .nil) (.string ((⟨#[117, 110, 105, 116, 45, 105, 100, 45, 48, 48, 48, 48, 48, 48, 48]⟩ : ByteArray) ++ (strOfNums ([IntKind.wrap .u8 (97 + (Int.tmod a0 26))] : List Int)))) rfl ⟨rfl, HW.pick [] [] (by decide) (by decide) rfl KR⟩
/-! ### headgate/headgatelaw09.Small: function 13 -/
def headgatelaw09_Small.f  : Option (List T_api_Unit) :=
  (headgatelaw08_Id.f 0).bind fun t758 => ((headgatelaw08_Id.f 1).bind fun t762 => (some ([(⟨6, t758⟩ : T_api_Unit), (⟨3, t762⟩ : T_api_Unit)] : List T_api_Unit)))
set_option maxRecDepth 100000 in
set_option maxHeartbeats 4000000 in
theorem headgatelaw09_Small.calls   (r : List T_api_Unit) (w : World)  (h : headgatelaw09_Small.f  = some r) :
    Calls Tryz.prog 13 #[] w (fun e W' => ∃ A_0 c_0, e = .returned (.slice A_0 r.length c_0) ∧ Wd w W' [] [⟨42, 2, .slice A_0 r.length c_0, r.length, encs T_api_Unit.enc r⟩] ) := by
  refine sxstart (n := 6) (l := []) Tryz.func13 rfl rfl (Nat.le_of_ble_eq_true KR) (subsA_nil _) ?_
  intro a ha
  have HW := Wd.refl w
  unfold headgatelaw09_Small.f at h
  refine wp_seq_k (fun K754 hK755 => ?_)
  refine wp_region_lit ?_
  refine stepp ha 0 (.slice none 0 0) KR KR ?_; clear ha a; intro a ha
  refine endl ?_
  refine thenN (hK755 _ _ ?_); clear hK755
  refine wp_seq_k (fun K756 hK757 => ?_)
  refine wp_region_lit ?_
  obtain ⟨t758, ht759, h_⟩ := bind_some' h; clear h; have h := h_; clear h_
  refine stepc ha 1 KR KR (headgatelaw08_Id.calls 0 t758 _ ht759) ?_; clear ha a; rintro e W760 ⟨rfl, HX761⟩
  refine ⟨_, rfl, ?_⟩; intro a ha; replace HW := HW.callw HX761; clear HX761
  refine stepp ha 2 (.agg #[.int .i64 6, .string t758]) KR KR ?_; clear ha a; intro a ha
  obtain ⟨t762, ht763, h_⟩ := bind_some' h; clear h; have h := h_; clear h_
  refine stepc ha 3 KR KR (headgatelaw08_Id.calls 1 t762 _ ht763) ?_; clear ha a; rintro e W764 ⟨rfl, HX765⟩
  refine ⟨_, rfl, ?_⟩; intro a ha; replace HW := HW.callw HX765; clear HX765
  refine stepp ha 4 (.agg #[.int .i64 3, .string t762]) KR KR ?_; clear ha a; intro a ha
  refine stepbs ha HW 5 42 2 2 #[.int .i64 6, .string t758, .int .i64 3, .string t762] [.int .i64 6, .string t758, .int .i64 3, .string t762] (by decide) KR KR KR KR ?_; clear ha HW a; intro b766 a W767 HW ha
  replace HW : Wd w W767 [] [⟨42, 2, .slice (some ⟨b766, 0, none⟩) ([(⟨6, t758⟩ : T_api_Unit), (⟨3, t762⟩ : T_api_Unit)] : List T_api_Unit).length 2, ([(⟨6, t758⟩ : T_api_Unit), (⟨3, t762⟩ : T_api_Unit)] : List T_api_Unit).length, encs T_api_Unit.enc ([(⟨6, t758⟩ : T_api_Unit), (⟨3, t762⟩ : T_api_Unit)] : List T_api_Unit)⟩] := HW
  replace ha := ha.turn 5 (v := .slice (some ⟨b766, 0, none⟩) ([(⟨6, t758⟩ : T_api_Unit), (⟨3, t762⟩ : T_api_Unit)] : List T_api_Unit).length 2) KR rfl
  refine stepp ha 0 (.slice (some ⟨b766, 0, none⟩) ([(⟨6, t758⟩ : T_api_Unit), (⟨3, t762⟩ : T_api_Unit)] : List T_api_Unit).length 2) KR KR ?_; clear ha a; intro a ha
  refine endl ?_
  refine thenN (hK757 _ _ ?_); clear hK757
  refine wp_ret ?_
  obtain rfl := Option.some.inj h
  exact finv ha _ _ rfl (.tmp (v := .slice (some ⟨b766, 0, none⟩) ([(⟨6, t758⟩ : T_api_Unit), (⟨3, t762⟩ : T_api_Unit)] : List T_api_Unit).length 2) KR .nil) (.slice (some ⟨b766, 0, none⟩) ([(⟨6, t758⟩ : T_api_Unit), (⟨3, t762⟩ : T_api_Unit)] : List T_api_Unit).length 2) rfl ⟨some ⟨b766, 0, none⟩, 2, rfl, HW.pick [] [0] (by decide) (by decide) rfl KR⟩
/-! ### headgate/headgatekeep.Mod: function 14 -/
def headgatekeep_Mod.f (a0 : Int) (a1 : Int) : Option Int :=
  if a1 < 1 then (some 0) else (asrt (¬ a1 = 0) (some (Int.tmod (IntKind.wrap .i64 ((Int.tmod a0 a1) + a1)) a1)))
set_option maxRecDepth 100000 in
set_option maxHeartbeats 4000000 in
theorem headgatekeep_Mod.calls (a0 : Int) (a1 : Int)  (r : Int) (w : World)  (h : headgatekeep_Mod.f a0 a1 = some r) :
    Calls Tryz.prog 14 #[.int .i64 a0, .int .i64 a1] w (fun e W' => e = .returned (.int .i64 r) ∧ Wd w W' [] [] ) := by
  refine sxstart (n := 14) (l := [(0, .int .i64 a0), (1, .int .i64 a1)]) Tryz.func14 rfl rfl (Nat.le_of_ble_eq_true KR) (subsA_cons rfl (subsA_cons rfl (subsA_nil _))) ?_
  intro a ha
  have HW := Wd.refl w
  unfold headgatekeep_Mod.f at h
  refine wp_seq_k (fun K769 hK770 => ?_)
  refine wp_region_lit ?_
  refine stepp ha 4 (.int .i64 0) KR KR ?_; clear ha a; intro a ha
  refine endl ?_
  refine thenN (hK770 _ _ ?_); clear hK770
  refine wp_seq_k (fun K771 hK772 => ?_)
  refine wp_seq_k (fun K773 hK774 => ?_)
  refine wp_region_lit ?_
  refine stepp ha 5 (.int .i64 a1) KR KR ?_; clear ha a; intro a ha
  refine stepp ha 6 (.bool (decide (a1 < 1))) KR KR ?_; clear ha a; intro a ha
  refine endl ?_
  refine thenN (hK774 _ _ ?_); clear hK774
  by_cases hp775 : a1 < 1
  · skip
    replace h := ite_pos' h hp775
    refine condT ha KR KR (t := decide (a1 < 1)) (decide_eq_true hp775) ?_
    refine wp_seq_k (fun K776 hK777 => ?_)
    refine wp_region_lit ?_
    refine stepp ha 4 (.int .i64 0) KR KR ?_; clear ha a; intro a ha
    refine endl ?_
    refine thenN (hK777 _ _ ?_); clear hK777
    refine wp_ret ?_
    refine thenR ?_
    obtain rfl := Option.some.inj h
    exact finv ha _ _ rfl (.tmp (v := .int .i64 0) KR .nil) (.int .i64 0) rfl ⟨rfl, HW.pick [] [] (by decide) (by decide) rfl KR⟩
  · skip
    replace h := ite_neg' h hp775
    refine condF ha KR KR (t := decide (a1 < 1)) (decide_eq_false hp775) ?_
    refine wp_skip ?_
    refine thenN (hK772 _ _ ?_); clear hK772
    refine wp_seq_k (fun K778 hK779 => ?_)
    refine wp_region_lit ?_
    refine stepp ha 7 (.int .i64 a0) KR KR ?_; clear ha a; intro a ha
    refine stepp ha 8 (.int .i64 a1) KR KR ?_; clear ha a; intro a ha
    obtain ⟨hA780, h_⟩ := asrt_some h; clear h; have h := h_; clear h_
    refine steprem ha 9 3 3 (.tmp 7) (.tmp 8) .i64 a0 a1 rfl KR KR hA780 KR ?_; clear ha a; intro a ha
    refine stepp ha 10 (.int .i64 a1) KR KR ?_; clear ha a; intro a ha
    refine stepp ha 11 (.int .i64 (IntKind.wrap .i64 ((Int.tmod a0 a1) + a1))) KR KR ?_; clear ha a; intro a ha
    refine stepp ha 12 (.int .i64 a1) KR KR ?_; clear ha a; intro a ha
    refine steprem ha 13 3 3 (.tmp 11) (.tmp 12) .i64 (IntKind.wrap .i64 ((Int.tmod a0 a1) + a1)) a1 rfl KR KR hA780 KR ?_; clear ha a; intro a ha
    refine stepp ha 4 (.int .i64 (Int.tmod (IntKind.wrap .i64 ((Int.tmod a0 a1) + a1)) a1)) KR KR ?_; clear ha a; intro a ha
    refine endl ?_
    refine thenN (hK779 _ _ ?_); clear hK779
    refine wp_ret ?_
    obtain rfl := Option.some.inj h
    exact finv ha _ _ rfl (.tmp (v := .int .i64 (Int.tmod (IntKind.wrap .i64 ((Int.tmod a0 a1) + a1)) a1)) KR .nil) (.int .i64 (Int.tmod (IntKind.wrap .i64 ((Int.tmod a0 a1) + a1)) a1)) rfl ⟨rfl, HW.pick [] [] (by decide) (by decide) rfl KR⟩
/-! ### headgate/headgatelaw09.fair: function 15 -/
def headgatelaw09_fair.f (a0 : T_headgatelaw09_Step) : Option Bool :=
  if (a0.f5.size : Int) ≤ 40000 then (some (decide ((a0.f6.length : Int) ≤ 100))) else (some false)
set_option maxRecDepth 100000 in
set_option maxHeartbeats 4000000 in
theorem headgatelaw09_fair.calls (a0 : T_headgatelaw09_Step) (A0_0 : Option Addr) (c0_0 : Nat) (r : Bool) (w : World) (hr0_0 : Rd 2 w (.slice A0_0 a0.f6.length c0_0) a0.f6.length (encs T_api_Range.enc a0.f6)) (h : headgatelaw09_fair.f a0 = some r) :
    Calls Tryz.prog 15 #[.agg #[.int .i64 a0.f0, .int .i64 a0.f1, .int .i64 a0.f2, .int .i64 a0.f3, .int .u8 a0.f4, .string a0.f5, .slice A0_0 a0.f6.length c0_0]] w (fun e W' => e = .returned (.bool r) ∧ Wd w W' [] [] ) := by
  refine sxstart (n := 13) (l := [(0, .agg #[.int .i64 a0.f0, .int .i64 a0.f1, .int .i64 a0.f2, .int .i64 a0.f3, .int .u8 a0.f4, .string a0.f5, .slice A0_0 a0.f6.length c0_0])]) Tryz.func15 rfl rfl (Nat.le_of_ble_eq_true KR) (subsA_cons rfl (subsA_nil _)) ?_
  intro a ha
  have HW := Wd.refl w
  unfold headgatelaw09_fair.f at h
  refine wp_seq_k (fun K781 hK782 => ?_)
  refine wp_region_lit ?_
  refine stepnew ha HW 1 #[.int .i64 a0.f0, .int .i64 a0.f1, .int .i64 a0.f2, .int .i64 a0.f3, .int .u8 a0.f4, .string a0.f5, .slice A0_0 a0.f6.length c0_0] 35 KR KR ?_; clear ha HW a; intro b783 a W784 HW ha
  refine stepp ha 2 (.bool false) KR KR ?_; clear ha a; intro a ha
  refine endl ?_
  refine thenN (hK782 _ _ ?_); clear hK782
  refine wp_seq_k (fun K785 hK786 => ?_)
  refine wp_region_lit ?_
  refine stepp ha 3 (.pointer (some ⟨b783, 5, none⟩)) KR KR ?_; clear ha a; intro a ha
  refine stepl ha 4 (HW.ca (i := 0) (b := b783) (C := #[.int .i64 a0.f0, .int .i64 a0.f1, .int .i64 a0.f2, .int .i64 a0.f3, .int .u8 a0.f4, .string a0.f5, .slice A0_0 a0.f6.length c0_0]) (T := 35) (fr := (0, 0)) KR) 9 5 (.tmp 3) (.string a0.f5) rfl KR KR KR ?_; clear ha a; intro a ha
  refine stepp ha 5 (.int .i64 (a0.f5.size : Int)) KR KR ?_; clear ha a; intro a ha
  refine stepp ha 6 (.bool (decide ((a0.f5.size : Int) ≤ 40000))) KR KR ?_; clear ha a; intro a ha
  refine stepp ha 7 (.bool (decide ((a0.f5.size : Int) ≤ 40000))) KR KR ?_; clear ha a; intro a ha
  by_cases hp787 : (a0.f5.size : Int) ≤ 40000
  · skip
    replace h := ite_pos' h hp787
    replace ha := ha.bool 7 KR (decide_eq_true hp787)
    refine stepp ha 8 (.pointer (some ⟨b783, 6, none⟩)) KR KR ?_; clear ha a; intro a ha
    refine stepl ha 9 (HW.ca (i := 0) (b := b783) (C := #[.int .i64 a0.f0, .int .i64 a0.f1, .int .i64 a0.f2, .int .i64 a0.f3, .int .u8 a0.f4, .string a0.f5, .slice A0_0 a0.f6.length c0_0]) (T := 35) (fr := (0, 0)) KR) 33 6 (.tmp 8) (.slice A0_0 a0.f6.length c0_0) rfl KR KR KR ?_; clear ha a; intro a ha
    refine stepp ha 10 (.int .i64 (a0.f6.length : Int)) KR KR ?_; clear ha a; intro a ha
    refine stepp ha 11 (.bool (decide ((a0.f6.length : Int) ≤ 100))) KR KR ?_; clear ha a; intro a ha
    refine stepp ha 12 (.bool (decide ((a0.f6.length : Int) ≤ 100))) KR KR ?_; clear ha a; intro a ha
    refine stepp ha 2 (.bool (decide ((a0.f6.length : Int) ≤ 100))) KR KR ?_; clear ha a; intro a ha
    refine endl ?_
    refine thenN (hK786 _ _ ?_); clear hK786
    refine wp_ret ?_
    obtain rfl := Option.some.inj h
    exact finv ha _ _ rfl (.tmp (v := .bool (decide ((a0.f6.length : Int) ≤ 100))) KR .nil) (.bool (decide ((a0.f6.length : Int) ≤ 100))) rfl ⟨rfl, HW.pick [] [] (by decide) (by decide) rfl KR⟩
  · skip
    replace h := ite_neg' h hp787
    replace ha := ha.bool 7 KR (decide_eq_false hp787)
    refine stepo ha 8 KR ?_; clear ha a; intro a ha
    refine stepo ha 9 KR ?_; clear ha a; intro a ha
    refine stepo ha 10 KR ?_; clear ha a; intro a ha
    refine stepo ha 11 KR ?_; clear ha a; intro a ha
    refine stepp ha 12 (.bool false) KR KR ?_; clear ha a; intro a ha
    refine stepp ha 2 (.bool false) KR KR ?_; clear ha a; intro a ha
    refine endl ?_
    refine thenN (hK786 _ _ ?_); clear hK786
    refine wp_ret ?_
    obtain rfl := Option.some.inj h
    exact finv ha _ _ rfl (.tmp (v := .bool false) KR .nil) (.bool false) rfl ⟨rfl, HW.pick [] [] (by decide) (by decide) rfl KR⟩
/-! ### (headgate/cache.change).block: function 103 -/
def cache_change_block.b0 (K : Nat) (a0 : T_cache_change) (a1 : Int) (again866 : Int → Option (ByteArray × Bool)) (x867 : Int) : Option (ByteArray × Bool) :=
  if x867 < (a0.f3.length : Int) then (asrt (0 ≤ x867) (if a1 ≥ ((rdL T_api_Range.z a0.f3 x867).f0) then (if a1 < (IntKind.wrap .i64 (((rdL T_api_Range.z a0.f3 x867).f0) + ((rdL T_api_Range.z a0.f3 x867).f1))) then ((strings_Repeat.f (⟨#[0]⟩ : ByteArray) 512).bind fun t893 => (some (t893, true))) else (again866 (IntKind.wrap .i64 (x867 + 1)))) else (again866 (IntKind.wrap .i64 (x867 + 1))))) else (some ((⟨#[]⟩ : ByteArray), false))
def cache_change_block.l0 (K : Nat) (a0 : T_cache_change) (a1 : Int) : Nat → Int → Option (ByteArray × Bool)
  | 0, _ => none
  | k_ + 1, x867 => cache_change_block.b0 K a0 a1 (cache_change_block.l0 K a0 a1 k_) x867
def cache_change_block.j0 (K : Nat) (a0 : T_cache_change) (a1 : Int) (x799 : Bool) : Option (ByteArray × Bool) :=
  if x799 = true then (asrt (0 ≤ (IntKind.wrap .i64 ((IntKind.wrap .i64 (a1 - a0.f1)) * 512))) (asrt ((IntKind.wrap .i64 ((IntKind.wrap .i64 (a1 - a0.f1)) * 512)) ≤ (IntKind.wrap .i64 ((IntKind.wrap .i64 ((IntKind.wrap .i64 (a1 - a0.f1)) * 512)) + 512))) (asrt ((IntKind.wrap .i64 ((IntKind.wrap .i64 ((IntKind.wrap .i64 (a1 - a0.f1)) * 512)) + 512)) ≤ (a0.f2.size : Int)) (some (a0.f2.extract (IntKind.wrap .i64 ((IntKind.wrap .i64 (a1 - a0.f1)) * 512) : Int).toNat (IntKind.wrap .i64 ((IntKind.wrap .i64 ((IntKind.wrap .i64 (a1 - a0.f1)) * 512)) + 512) : Int).toNat, true))))) else (cache_change_block.l0 K a0 a1 K 0)
def cache_change_block.f (K : Nat) (a0 : T_cache_change) (a1 : Int) : Option (ByteArray × Bool) :=
  if a1 ≥ a0.f1 then (cache_change_block.j0 K a0 a1 (decide ((IntKind.wrap .i64 ((IntKind.wrap .i64 (a1 - a0.f1)) * 512)) < (a0.f2.size : Int)))) else (cache_change_block.j0 K a0 a1 false)
set_option maxRecDepth 100000 in
set_option maxHeartbeats 4000000 in
theorem cache_change_block.calls (K : Nat) (a0 : T_cache_change) (a1 : Int) (A0_0 : Option Addr) (c0_0 : Nat) (r : ByteArray × Bool) (w : World) (hr0_0 : Rd 2 w (.slice A0_0 a0.f3.length c0_0) a0.f3.length (encs T_api_Range.enc a0.f3)) (h : cache_change_block.f K a0 a1 = some r) :
    Calls Tryz.prog 103 #[.agg #[.int .i64 a0.f0, .int .i64 a0.f1, .string a0.f2, .slice A0_0 a0.f3.length c0_0], .int .i64 a1] w (fun e W' => e = .returned (.tuple #[.string r.1, .bool r.2]) ∧ Wd w W' [] [] ) := by
  refine sxstart (n := 53) (l := [(0, .agg #[.int .i64 a0.f0, .int .i64 a0.f1, .string a0.f2, .slice A0_0 a0.f3.length c0_0]), (1, .int .i64 a1)]) Tryz.func103 rfl rfl (Nat.le_of_ble_eq_true KR) (subsA_cons rfl (subsA_cons rfl (subsA_nil _))) ?_
  intro a ha
  have HW := Wd.refl w
  unfold cache_change_block.f at h
  refine wp_seq_k (fun K788 hK789 => ?_)
  refine wp_region_lit ?_
  refine stepnew ha HW 2 #[.int .i64 a0.f0, .int .i64 a0.f1, .string a0.f2, .slice A0_0 a0.f3.length c0_0] 128 KR KR ?_; clear ha HW a; intro b790 a W791 HW ha
  refine stepp ha 4 (.string (⟨#[]⟩ : ByteArray)) KR KR ?_; clear ha a; intro a ha
  refine stepp ha 5 (.bool false) KR KR ?_; clear ha a; intro a ha
  refine endl ?_
  refine thenN (hK789 _ _ ?_); clear hK789
  refine wp_seq_k (fun K792 hK793 => ?_)
  refine wp_seq_k (fun K794 hK795 => ?_)
  refine wp_region_lit ?_
  refine stepp ha 9 (.int .i64 a1) KR KR ?_; clear ha a; intro a ha
  refine stepp ha 10 (.pointer (some ⟨b790, 1, none⟩)) KR KR ?_; clear ha a; intro a ha
  refine stepl ha 11 (HW.ca (i := 0) (b := b790) (C := #[.int .i64 a0.f0, .int .i64 a0.f1, .string a0.f2, .slice A0_0 a0.f3.length c0_0]) (T := 128) (fr := (0, 0)) KR) 3 1 (.tmp 10) (.int .i64 a0.f1) rfl KR KR KR ?_; clear ha a; intro a ha
  refine stepp ha 12 (.int .i64 (IntKind.wrap .i64 (a1 - a0.f1))) KR KR ?_; clear ha a; intro a ha
  refine stepp ha 13 (.int .i64 (IntKind.wrap .i64 ((IntKind.wrap .i64 (a1 - a0.f1)) * 512))) KR KR ?_; clear ha a; intro a ha
  refine stepp ha 6 (.int .i64 (IntKind.wrap .i64 ((IntKind.wrap .i64 (a1 - a0.f1)) * 512))) KR KR ?_; clear ha a; intro a ha
  refine endl ?_
  refine thenN (hK795 _ _ ?_); clear hK795
  refine wp_seq_k (fun K796 hK797 => ?_)
  refine cutn (fun a W800 => ∃ (x799 : Bool), cache_change_block.j0 K a0 a1 x799 = some r ∧ Has 53 [(1, .int .i64 a1), (2, .pointer (some ⟨b790, 0, none⟩)), (6, .int .i64 (IntKind.wrap .i64 ((IntKind.wrap .i64 (a1 - a0.f1)) * 512))), (24, .bool x799)] a ∧ Wd w W800 [(b790, .cells #[.int .i64 a0.f0, .int .i64 a0.f1, .string a0.f2, .slice A0_0 a0.f3.length c0_0] 128 (0, 0))] []) ?_ ?_
  · skip
    refine wp_region_lit ?_
    refine stepp ha 14 (.int .i64 a1) KR KR ?_; clear ha a; intro a ha
    refine stepp ha 15 (.pointer (some ⟨b790, 1, none⟩)) KR KR ?_; clear ha a; intro a ha
    refine stepl ha 16 (HW.ca (i := 0) (b := b790) (C := #[.int .i64 a0.f0, .int .i64 a0.f1, .string a0.f2, .slice A0_0 a0.f3.length c0_0]) (T := 128) (fr := (0, 0)) KR) 3 1 (.tmp 15) (.int .i64 a0.f1) rfl KR KR KR ?_; clear ha a; intro a ha
    refine stepp ha 17 (.bool (decide (a1 ≥ a0.f1))) KR KR ?_; clear ha a; intro a ha
    refine stepp ha 18 (.bool (decide (a1 ≥ a0.f1))) KR KR ?_; clear ha a; intro a ha
    by_cases hp798 : a1 ≥ a0.f1
    · skip
      replace h := ite_pos' h hp798
      replace ha := ha.bool 18 KR (decide_eq_true hp798)
      refine stepp ha 19 (.int .i64 (IntKind.wrap .i64 ((IntKind.wrap .i64 (a1 - a0.f1)) * 512))) KR KR ?_; clear ha a; intro a ha
      refine stepp ha 20 (.pointer (some ⟨b790, 2, none⟩)) KR KR ?_; clear ha a; intro a ha
      refine stepl ha 21 (HW.ca (i := 0) (b := b790) (C := #[.int .i64 a0.f0, .int .i64 a0.f1, .string a0.f2, .slice A0_0 a0.f3.length c0_0]) (T := 128) (fr := (0, 0)) KR) 9 2 (.tmp 20) (.string a0.f2) rfl KR KR KR ?_; clear ha a; intro a ha
      refine stepp ha 22 (.int .i64 (a0.f2.size : Int)) KR KR ?_; clear ha a; intro a ha
      refine stepp ha 23 (.bool (decide ((IntKind.wrap .i64 ((IntKind.wrap .i64 (a1 - a0.f1)) * 512)) < (a0.f2.size : Int)))) KR KR ?_; clear ha a; intro a ha
      refine stepp ha 24 (.bool (decide ((IntKind.wrap .i64 ((IntKind.wrap .i64 (a1 - a0.f1)) * 512)) < (a0.f2.size : Int)))) KR KR ?_; clear ha a; intro a ha
      refine endl ?_
      exact thenN ⟨decide ((IntKind.wrap .i64 ((IntKind.wrap .i64 (a1 - a0.f1)) * 512)) < (a0.f2.size : Int)), h, ha.sub (subs_cons KR (subs_cons KR (subs_cons KR (subs_cons KR (subs_nil _))))), HW.pick [0] [] (by decide) (by decide) KR KR⟩
    · skip
      replace h := ite_neg' h hp798
      replace ha := ha.bool 18 KR (decide_eq_false hp798)
      refine stepo ha 19 KR ?_; clear ha a; intro a ha
      refine stepo ha 20 KR ?_; clear ha a; intro a ha
      refine stepo ha 21 KR ?_; clear ha a; intro a ha
      refine stepo ha 22 KR ?_; clear ha a; intro a ha
      refine stepo ha 23 KR ?_; clear ha a; intro a ha
      refine stepp ha 24 (.bool false) KR KR ?_; clear ha a; intro a ha
      refine endl ?_
      exact thenN ⟨false, h, ha.sub (subs_cons KR (subs_cons KR (subs_cons KR (subs_cons KR (subs_nil _))))), HW.pick [0] [] (by decide) (by decide) KR KR⟩
  · skip
    intro a W800 hJ
    obtain ⟨x799, h, ha, HW⟩ := hJ
    replace h : cache_change_block.j0 K a0 a1 x799 = some r := h
    unfold cache_change_block.j0 at h
    refine hK797 _ _ ?_; clear hK797
    by_cases hp801 : x799 = true
    · skip
      replace h := ite_pos' h hp801
      refine condT ha KR KR (t := x799) (hp801) ?_
      refine wp_seq_k (fun K802 hK803 => ?_)
      refine wp_region_lit ?_
      refine stepp ha 25 (.pointer (some ⟨b790, 2, none⟩)) KR KR ?_; clear ha a; intro a ha
      refine stepl ha 26 (HW.ca (i := 0) (b := b790) (C := #[.int .i64 a0.f0, .int .i64 a0.f1, .string a0.f2, .slice A0_0 a0.f3.length c0_0]) (T := 128) (fr := (0, 0)) KR) 9 2 (.tmp 25) (.string a0.f2) rfl KR KR KR ?_; clear ha a; intro a ha
      refine stepp ha 27 (.int .i64 (IntKind.wrap .i64 ((IntKind.wrap .i64 (a1 - a0.f1)) * 512))) KR KR ?_; clear ha a; intro a ha
      refine stepp ha 28 (.int .i64 (IntKind.wrap .i64 ((IntKind.wrap .i64 (a1 - a0.f1)) * 512))) KR KR ?_; clear ha a; intro a ha
      refine stepp ha 29 (.int .i64 (IntKind.wrap .i64 ((IntKind.wrap .i64 ((IntKind.wrap .i64 (a1 - a0.f1)) * 512)) + 512))) KR KR ?_; clear ha a; intro a ha
      obtain ⟨hA804, h_⟩ := asrt_some h; clear h; have h := h_; clear h_
      obtain ⟨hA805, h_⟩ := asrt_some h; clear h; have h := h_; clear h_
      obtain ⟨hA806, h_⟩ := asrt_some h; clear h; have h := h_; clear h_
      refine stepss ha 30 9 (.tmp 26) (.tmp 27) (.tmp 29) a0.f2 .i64 .i64 (IntKind.wrap .i64 ((IntKind.wrap .i64 (a1 - a0.f1)) * 512)) (IntKind.wrap .i64 ((IntKind.wrap .i64 ((IntKind.wrap .i64 (a1 - a0.f1)) * 512)) + 512)) rfl KR KR KR KR hA804 hA805 (show (IntKind.wrap .i64 ((IntKind.wrap .i64 ((IntKind.wrap .i64 (a1 - a0.f1)) * 512)) + 512) : Int) ≤ ((a0.f2).size : Int) from hA806) KR ?_; clear ha a; intro a ha
      refine stepp ha 4 (.string (a0.f2.extract (IntKind.wrap .i64 ((IntKind.wrap .i64 (a1 - a0.f1)) * 512) : Int).toNat (IntKind.wrap .i64 ((IntKind.wrap .i64 ((IntKind.wrap .i64 (a1 - a0.f1)) * 512)) + 512) : Int).toNat)) KR KR ?_; clear ha a; intro a ha
      refine stepp ha 5 (.bool true) KR KR ?_; clear ha a; intro a ha
      refine endl ?_
      refine thenN (hK803 _ _ ?_); clear hK803
      refine wp_ret ?_
      refine thenR ?_
      obtain rfl := Option.some.inj h
      exact finv ha _ _ rfl (.tmp (v := .string (a0.f2.extract (IntKind.wrap .i64 ((IntKind.wrap .i64 (a1 - a0.f1)) * 512) : Int).toNat (IntKind.wrap .i64 ((IntKind.wrap .i64 ((IntKind.wrap .i64 (a1 - a0.f1)) * 512)) + 512) : Int).toNat)) KR (.tmp (v := .bool true) KR .nil)) (.tuple #[.string (a0.f2.extract (IntKind.wrap .i64 ((IntKind.wrap .i64 (a1 - a0.f1)) * 512) : Int).toNat (IntKind.wrap .i64 ((IntKind.wrap .i64 ((IntKind.wrap .i64 (a1 - a0.f1)) * 512)) + 512) : Int).toNat), .bool true]) rfl ⟨rfl, HW.pick [] [] (by decide) (by decide) rfl KR⟩
    · skip
      replace h := ite_neg' h hp801
      refine condF ha KR KR (t := x799) (bool_f hp801) ?_
      refine wp_skip ?_
      refine thenN (hK793 _ _ ?_); clear hK793
      refine wp_seq_k (fun K807 hK808 => ?_)
      refine wp_seq_k (fun K809 hK810 => ?_)
      refine wp_region_lit ?_
      refine stepp ha 31 (.pointer (some ⟨b790, 3, none⟩)) KR KR ?_; clear ha a; intro a ha
      refine stepl ha 32 (HW.ca (i := 0) (b := b790) (C := #[.int .i64 a0.f0, .int .i64 a0.f1, .string a0.f2, .slice A0_0 a0.f3.length c0_0]) (T := 128) (fr := (0, 0)) KR) 33 3 (.tmp 31) (.slice A0_0 a0.f3.length c0_0) rfl KR KR KR ?_; clear ha a; intro a ha
      refine stepp ha 33 (.int .i64 (a0.f3.length : Int)) KR KR ?_; clear ha a; intro a ha
      refine stepp ha 34 (.int .i64 0) KR KR ?_; clear ha a; intro a ha
      refine endl ?_
      refine thenN (hK810 _ _ ?_); clear hK810
      refine wp_block ?_
      refine loopk (fun k => fun a W868 => ∃ (x867 : Int), cache_change_block.l0 K a0 a1 k x867 = some r ∧ Has 53 [(1, .int .i64 a1), (32, .slice A0_0 a0.f3.length c0_0), (33, .int .i64 (a0.f3.length : Int)), (34, .int .i64 x867)] a ∧ Wd w W868 [] []) K ?_ ?_
      · skip
        exact ⟨0, h, ha.sub (subs_cons KR (subs_cons KR (subs_cons KR (subs_cons KR (subs_nil _))))), HW.pick [] [] (by decide) (by decide) KR KR⟩
      · skip
        intro k a W868 hI
        obtain ⟨x867, h, ha, HW⟩ := hI
        cases k with
        | zero => exact (none_some (show none = some r from h)).elim
        | succ k869 =>
          replace h : cache_change_block.b0 K a0 a1 (cache_change_block.l0 K a0 a1 k869) x867 = some r := h
          obtain ⟨again866, hag870⟩ : ∃ g_, g_ = cache_change_block.l0 K a0 a1 k869 := ⟨_, rfl⟩
          rw [← hag870] at h
          unfold cache_change_block.b0 at h
          refine wp_seq_k (fun K871 hK872 => ?_)
          refine wp_region_lit ?_
          refine stepp ha 35 (.bool (decide (x867 < (a0.f3.length : Int)))) KR KR ?_; clear ha a; intro a ha
          refine endl ?_
          refine thenN (hK872 _ _ ?_); clear hK872
          refine wp_seq_k (fun K873 hK874 => ?_)
          by_cases hp875 : x867 < (a0.f3.length : Int)
          · skip
            replace h := ite_pos' h hp875
            refine condT ha KR KR (t := decide (x867 < (a0.f3.length : Int))) (decide_eq_true hp875) ?_
            refine wp_skip ?_
            refine thenN (hK874 _ _ ?_); clear hK874
            refine wp_seq_k (fun K876 hK877 => ?_)
            refine wp_block ?_
            refine wp_seq_k (fun K878 hK879 => ?_)
            refine wp_region_lit ?_
            obtain ⟨hA880, h_⟩ := asrt_some h; clear h; have h := h_; clear h_
            refine stepie T_api_Range.enc T_api_Range.z ha 36 (fun _ => rfl) (v := .slice A0_0 a0.f3.length c0_0) (xs := a0.f3) ((HW.rd0 hr0_0)) 33 72 (.tmp 32) (.tmp 34) .i64 x867 rfl KR KR KR KR hA880 (show (x867 : Int) < ((a0.f3).length : Int) from hp875) KR ?_; clear ha a; intro b881 off882 a hC883 ha
            refine stepl ha 37 hC883 72 0 (.tmp 36) (.agg #[.int .i64 ((rdL T_api_Range.z a0.f3 x867).f0), .int .i64 ((rdL T_api_Range.z a0.f3 x867).f1)]) rfl KR KR KR ?_; clear ha a; intro a ha
            refine stepnew ha HW 8 #[.int .i64 0, .int .i64 0] 72 KR KR ?_; clear ha HW a; intro b884 a W885 HW ha
            refine stepst ha HW 0 (b := b884) (C := #[.int .i64 0, .int .i64 0]) (T := 72) KR 72 0 (.tmp 8) (.tmp 37) (.agg #[.int .i64 ((rdL T_api_Range.z a0.f3 x867).f0), .int .i64 ((rdL T_api_Range.z a0.f3 x867).f1)]) #[.int .i64 ((rdL T_api_Range.z a0.f3 x867).f0), .int .i64 ((rdL T_api_Range.z a0.f3 x867).f1)] rfl KR KR KR KR KR KR KR ?_; clear ha HW a; intro a W886 HW ha
            refine endl ?_
            refine thenN (hK879 _ _ ?_); clear hK879
            refine wp_seq_k (fun K887 hK888 => ?_)
            refine wp_region_lit ?_
            refine stepp ha 38 (.int .i64 a1) KR KR ?_; clear ha a; intro a ha
            refine stepp ha 39 (.pointer (some ⟨b884, 0, none⟩)) KR KR ?_; clear ha a; intro a ha
            refine stepl ha 40 (HW.ca (i := 0) (b := b884) (C := #[.int .i64 ((rdL T_api_Range.z a0.f3 x867).f0), .int .i64 ((rdL T_api_Range.z a0.f3 x867).f1)]) (T := 72) (fr := (0, 0)) KR) 3 0 (.tmp 39) (.int .i64 ((rdL T_api_Range.z a0.f3 x867).f0)) rfl KR KR KR ?_; clear ha a; intro a ha
            refine stepp ha 41 (.bool (decide (a1 ≥ ((rdL T_api_Range.z a0.f3 x867).f0)))) KR KR ?_; clear ha a; intro a ha
            refine stepp ha 42 (.bool (decide (a1 ≥ ((rdL T_api_Range.z a0.f3 x867).f0)))) KR KR ?_; clear ha a; intro a ha
            by_cases hp889 : a1 ≥ ((rdL T_api_Range.z a0.f3 x867).f0)
            · skip
              replace h := ite_pos' h hp889
              replace ha := ha.bool 42 KR (decide_eq_true hp889)
              refine stepp ha 43 (.int .i64 a1) KR KR ?_; clear ha a; intro a ha
              refine stepp ha 44 (.pointer (some ⟨b884, 0, none⟩)) KR KR ?_; clear ha a; intro a ha
              refine stepl ha 45 (HW.ca (i := 0) (b := b884) (C := #[.int .i64 ((rdL T_api_Range.z a0.f3 x867).f0), .int .i64 ((rdL T_api_Range.z a0.f3 x867).f1)]) (T := 72) (fr := (0, 0)) KR) 3 0 (.tmp 44) (.int .i64 ((rdL T_api_Range.z a0.f3 x867).f0)) rfl KR KR KR ?_; clear ha a; intro a ha
              refine stepp ha 46 (.pointer (some ⟨b884, 1, none⟩)) KR KR ?_; clear ha a; intro a ha
              refine stepl ha 47 (HW.ca (i := 0) (b := b884) (C := #[.int .i64 ((rdL T_api_Range.z a0.f3 x867).f0), .int .i64 ((rdL T_api_Range.z a0.f3 x867).f1)]) (T := 72) (fr := (0, 0)) KR) 3 1 (.tmp 46) (.int .i64 ((rdL T_api_Range.z a0.f3 x867).f1)) rfl KR KR KR ?_; clear ha a; intro a ha
              refine stepp ha 48 (.int .i64 (IntKind.wrap .i64 (((rdL T_api_Range.z a0.f3 x867).f0) + ((rdL T_api_Range.z a0.f3 x867).f1)))) KR KR ?_; clear ha a; intro a ha
              refine stepp ha 49 (.bool (decide (a1 < (IntKind.wrap .i64 (((rdL T_api_Range.z a0.f3 x867).f0) + ((rdL T_api_Range.z a0.f3 x867).f1)))))) KR KR ?_; clear ha a; intro a ha
              refine stepp ha 50 (.bool (decide (a1 < (IntKind.wrap .i64 (((rdL T_api_Range.z a0.f3 x867).f0) + ((rdL T_api_Range.z a0.f3 x867).f1)))))) KR KR ?_; clear ha a; intro a ha
              refine endl ?_
              refine thenN (hK888 _ _ ?_); clear hK888
              by_cases hp890 : a1 < (IntKind.wrap .i64 (((rdL T_api_Range.z a0.f3 x867).f0) + ((rdL T_api_Range.z a0.f3 x867).f1)))
              · skip
                replace h := ite_pos' h hp890
                refine condT ha KR KR (t := decide (a1 < (IntKind.wrap .i64 (((rdL T_api_Range.z a0.f3 x867).f0) + ((rdL T_api_Range.z a0.f3 x867).f1))))) (decide_eq_true hp890) ?_
                refine wp_seq_k (fun K891 hK892 => ?_)
                refine wp_region_lit ?_
                obtain ⟨t893, ht894, h_⟩ := bind_some' h; clear h; have h := h_; clear h_
                refine stepc ha 51 KR KR (strings_Repeat.calls (⟨#[0]⟩ : ByteArray) 512 t893 _ ht894) ?_; clear ha a; rintro e W895 ⟨rfl, HX896⟩
                refine ⟨_, rfl, ?_⟩; intro a ha; replace HW := HW.callw HX896; clear HX896
                refine stepp ha 4 (.string t893) KR KR ?_; clear ha a; intro a ha
                refine stepp ha 5 (.bool true) KR KR ?_; clear ha a; intro a ha
                refine endl ?_
                refine thenN (hK892 _ _ ?_); clear hK892
                refine wp_ret ?_
                refine blkR ?_
                refine thenR ?_
                refine thenR ?_
                refine blkR ?_
                refine thenR ?_
                obtain rfl := Option.some.inj h
                exact finv ha _ _ rfl (.tmp (v := .string t893) KR (.tmp (v := .bool true) KR .nil)) (.tuple #[.string t893, .bool true]) rfl ⟨rfl, HW.pick [] [] (by decide) (by decide) rfl KR⟩
              · skip
                replace h := ite_neg' h hp890
                refine condF ha KR KR (t := decide (a1 < (IntKind.wrap .i64 (((rdL T_api_Range.z a0.f3 x867).f0) + ((rdL T_api_Range.z a0.f3 x867).f1))))) (decide_eq_false hp890) ?_
                refine wp_skip ?_
                refine blkN ?_
                refine thenN (hK877 _ _ ?_); clear hK877
                refine wp_region_lit ?_
                refine stepp ha 52 (.int .i64 (IntKind.wrap .i64 (x867 + 1))) KR KR ?_; clear ha a; intro a ha
                refine stepp ha 34 (.int .i64 (IntKind.wrap .i64 (x867 + 1))) KR KR ?_; clear ha a; intro a ha
                refine endl ?_
                exact thenN ⟨k869, Nat.lt_succ_self k869, IntKind.wrap .i64 (x867 + 1), (by rw [← hag870]; exact h), ha.sub (subs_cons KR (subs_cons KR (subs_cons KR (subs_cons KR (subs_nil _))))), HW.pick [] [] (by decide) (by decide) KR KR⟩
            · skip
              replace h := ite_neg' h hp889
              replace ha := ha.bool 42 KR (decide_eq_false hp889)
              refine stepo ha 43 KR ?_; clear ha a; intro a ha
              refine stepo ha 44 KR ?_; clear ha a; intro a ha
              refine stepo ha 45 KR ?_; clear ha a; intro a ha
              refine stepo ha 46 KR ?_; clear ha a; intro a ha
              refine stepo ha 47 KR ?_; clear ha a; intro a ha
              refine stepo ha 48 KR ?_; clear ha a; intro a ha
              refine stepo ha 49 KR ?_; clear ha a; intro a ha
              refine stepp ha 50 (.bool false) KR KR ?_; clear ha a; intro a ha
              refine endl ?_
              refine thenN (hK888 _ _ ?_); clear hK888
              refine condF ha KR KR (t := false) (rfl) ?_
              refine wp_skip ?_
              refine blkN ?_
              refine thenN (hK877 _ _ ?_); clear hK877
              refine wp_region_lit ?_
              refine stepp ha 52 (.int .i64 (IntKind.wrap .i64 (x867 + 1))) KR KR ?_; clear ha a; intro a ha
              refine stepp ha 34 (.int .i64 (IntKind.wrap .i64 (x867 + 1))) KR KR ?_; clear ha a; intro a ha
              refine endl ?_
              exact thenN ⟨k869, Nat.lt_succ_self k869, IntKind.wrap .i64 (x867 + 1), (by rw [← hag870]; exact h), ha.sub (subs_cons KR (subs_cons KR (subs_cons KR (subs_cons KR (subs_nil _))))), HW.pick [] [] (by decide) (by decide) KR KR⟩
          · skip
            replace h := ite_neg' h hp875
            refine condF ha KR KR (t := decide (x867 < (a0.f3.length : Int))) (decide_eq_false hp875) ?_
            refine wp_exit ?_
            refine thenE ?_
            refine thenE ?_
            refine inBlk ?_
            refine thenN (hK808 _ _ ?_); clear hK808
            refine wp_seq_k (fun K897 hK898 => ?_)
            refine wp_region_lit ?_
            refine stepp ha 4 (.string (⟨#[]⟩ : ByteArray)) KR KR ?_; clear ha a; intro a ha
            refine stepp ha 5 (.bool false) KR KR ?_; clear ha a; intro a ha
            refine endl ?_
            refine thenN (hK898 _ _ ?_); clear hK898
            refine wp_ret ?_
            obtain rfl := Option.some.inj h
            exact finv ha _ _ rfl (.tmp (v := .string (⟨#[]⟩ : ByteArray)) KR (.tmp (v := .bool false) KR .nil)) (.tuple #[.string (⟨#[]⟩ : ByteArray), .bool false]) rfl ⟨rfl, HW.pick [] [] (by decide) (by decide) rfl KR⟩
/-! ### headgate/fields.get[uint64]: function 160 -/
def fields_get_uint64.b0 (K : Nat) (a0 : ByteArray) (a1 : Int) (t923 : List Int) (again966 : Int → Int → Option (Int × Bool)) (x967 : Int) (x968 : Int) : Option (Int × Bool) :=
  if x968 < (t923.length : Int) then (asrt (0 ≤ x968) (asrt (0 ≤ (IntKind.wrap .i64 (a1 + x968))) (asrt ((IntKind.wrap .i64 (a1 + x968)) < (a0.size : Int)) (asrt (0 ≤ (rdL (0 : Int) t923 x968)) (again966 (bor .u64 x967 (sshl .u64 (IntKind.wrap .u64 (bt a0 (IntKind.wrap .i64 (a1 + x968)))) (rdL (0 : Int) t923 x968))) (IntKind.wrap .i64 (x968 + 1))))))) else (some (x967, true))
def fields_get_uint64.l0 (K : Nat) (a0 : ByteArray) (a1 : Int) (t923 : List Int) : Nat → Int → Int → Option (Int × Bool)
  | 0, _, _ => none
  | k_ + 1, x967, x968 => fields_get_uint64.b0 K a0 a1 t923 (fields_get_uint64.l0 K a0 a1 t923 k_) x967 x968
def fields_get_uint64.f (K : Nat) (a0 : ByteArray) (a1 : Int) (a2 : Int) (a3 : Bool) : Option (Int × Bool) :=
  if a2 < 1 then (some (0, false)) else (if a2 > 8 then (some (0, false)) else (if a1 < 0 then (some (0, false)) else (if a1 > (IntKind.wrap .i64 ((a0.size : Int) - a2)) then (some (0, false)) else ((fields_shifts.f K a2 a3).bind fun t923 => (fields_get_uint64.l0 K a0 a1 t923 K 0 0)))))
set_option maxRecDepth 100000 in
set_option maxHeartbeats 4000000 in
theorem fields_get_uint64.calls (K : Nat) (a0 : ByteArray) (a1 : Int) (a2 : Int) (a3 : Bool)  (r : Int × Bool) (w : World)  (h : fields_get_uint64.f K a0 a1 a2 a3 = some r) :
    Calls Tryz.prog 160 #[.string a0, .int .i64 a1, .int .i64 a2, .bool a3] w (fun e W' => e = .returned (.tuple #[.int .u64 r.1, .bool r.2]) ∧ Wd w W' [] [] ) := by
  refine sxstart (n := 52) (l := [(0, .string a0), (1, .int .i64 a1), (2, .int .i64 a2), (3, .bool a3)]) Tryz.func160 rfl rfl (Nat.le_of_ble_eq_true KR) (subsA_cons rfl (subsA_cons rfl (subsA_cons rfl (subsA_cons rfl (subsA_nil _))))) ?_
  intro a ha
  have HW := Wd.refl w
  unfold fields_get_uint64.f at h
  refine wp_seq_k (fun K899 hK900 => ?_)
  refine wp_region_lit ?_
  refine stepp ha 8 (.int .u64 0) KR KR ?_; clear ha a; intro a ha
  refine stepp ha 9 (.bool false) KR KR ?_; clear ha a; intro a ha
  refine endl ?_
  refine thenN (hK900 _ _ ?_); clear hK900
  refine wp_seq_k (fun K901 hK902 => ?_)
  refine wp_seq_k (fun K903 hK904 => ?_)
  refine wp_region_lit ?_
  refine stepp ha 13 (.int .i64 a2) KR KR ?_; clear ha a; intro a ha
  refine stepp ha 14 (.bool (decide (a2 < 1))) KR KR ?_; clear ha a; intro a ha
  refine stepp ha 15 (.bool (decide (a2 < 1))) KR KR ?_; clear ha a; intro a ha
  by_cases hp905 : a2 < 1
  · skip
    replace h := ite_pos' h hp905
    replace ha := ha.bool 15 KR (decide_eq_true hp905)
    refine stepo ha 16 KR ?_; clear ha a; intro a ha
    refine stepo ha 17 KR ?_; clear ha a; intro a ha
    refine stepp ha 18 (.bool true) KR KR ?_; clear ha a; intro a ha
    refine stepp ha 19 (.bool true) KR KR ?_; clear ha a; intro a ha
    refine stepo ha 20 KR ?_; clear ha a; intro a ha
    refine stepo ha 21 KR ?_; clear ha a; intro a ha
    refine stepp ha 22 (.bool true) KR KR ?_; clear ha a; intro a ha
    refine stepp ha 23 (.bool true) KR KR ?_; clear ha a; intro a ha
    refine stepo ha 24 KR ?_; clear ha a; intro a ha
    refine stepo ha 25 KR ?_; clear ha a; intro a ha
    refine stepo ha 26 KR ?_; clear ha a; intro a ha
    refine stepo ha 27 KR ?_; clear ha a; intro a ha
    refine stepo ha 28 KR ?_; clear ha a; intro a ha
    refine stepo ha 29 KR ?_; clear ha a; intro a ha
    refine stepp ha 30 (.bool true) KR KR ?_; clear ha a; intro a ha
    refine endl ?_
    refine thenN (hK904 _ _ ?_); clear hK904
    refine condT ha KR KR (t := true) (rfl) ?_
    refine wp_seq_k (fun K908 hK909 => ?_)
    refine wp_region_lit ?_
    refine stepp ha 8 (.int .u64 0) KR KR ?_; clear ha a; intro a ha
    refine stepp ha 9 (.bool false) KR KR ?_; clear ha a; intro a ha
    refine endl ?_
    refine thenN (hK909 _ _ ?_); clear hK909
    refine wp_ret ?_
    refine thenR ?_
    obtain rfl := Option.some.inj h
    exact finv ha _ _ rfl (.tmp (v := .int .u64 0) KR (.tmp (v := .bool false) KR .nil)) (.tuple #[.int .u64 0, .bool false]) rfl ⟨rfl, HW.pick [] [] (by decide) (by decide) rfl KR⟩
  · skip
    replace h := ite_neg' h hp905
    replace ha := ha.bool 15 KR (decide_eq_false hp905)
    refine stepp ha 16 (.int .i64 a2) KR KR ?_; clear ha a; intro a ha
    refine stepp ha 17 (.bool (decide (a2 > 8))) KR KR ?_; clear ha a; intro a ha
    refine stepp ha 18 (.bool (decide (a2 > 8))) KR KR ?_; clear ha a; intro a ha
    refine stepp ha 19 (.bool (decide (a2 > 8))) KR KR ?_; clear ha a; intro a ha
    by_cases hp906 : a2 > 8
    · skip
      replace h := ite_pos' h hp906
      replace ha := ha.bool 19 KR (decide_eq_true hp906)
      refine stepo ha 20 KR ?_; clear ha a; intro a ha
      refine stepo ha 21 KR ?_; clear ha a; intro a ha
      refine stepp ha 22 (.bool true) KR KR ?_; clear ha a; intro a ha
      refine stepp ha 23 (.bool true) KR KR ?_; clear ha a; intro a ha
      refine stepo ha 24 KR ?_; clear ha a; intro a ha
      refine stepo ha 25 KR ?_; clear ha a; intro a ha
      refine stepo ha 26 KR ?_; clear ha a; intro a ha
      refine stepo ha 27 KR ?_; clear ha a; intro a ha
      refine stepo ha 28 KR ?_; clear ha a; intro a ha
      refine stepo ha 29 KR ?_; clear ha a; intro a ha
      refine stepp ha 30 (.bool true) KR KR ?_; clear ha a; intro a ha
      refine endl ?_
      refine thenN (hK904 _ _ ?_); clear hK904
      refine condT ha KR KR (t := true) (rfl) ?_
      refine wp_seq_k (fun K910 hK911 => ?_)
      refine wp_region_lit ?_
      refine stepp ha 8 (.int .u64 0) KR KR ?_; clear ha a; intro a ha
      refine stepp ha 9 (.bool false) KR KR ?_; clear ha a; intro a ha
      refine endl ?_
      refine thenN (hK911 _ _ ?_); clear hK911
      refine wp_ret ?_
      refine thenR ?_
      obtain rfl := Option.some.inj h
      exact finv ha _ _ rfl (.tmp (v := .int .u64 0) KR (.tmp (v := .bool false) KR .nil)) (.tuple #[.int .u64 0, .bool false]) rfl ⟨rfl, HW.pick [] [] (by decide) (by decide) rfl KR⟩
    · skip
      replace h := ite_neg' h hp906
      replace ha := ha.bool 19 KR (decide_eq_false hp906)
      refine stepp ha 20 (.int .i64 a1) KR KR ?_; clear ha a; intro a ha
      refine stepp ha 21 (.bool (decide (a1 < 0))) KR KR ?_; clear ha a; intro a ha
      refine stepp ha 22 (.bool (decide (a1 < 0))) KR KR ?_; clear ha a; intro a ha
      refine stepp ha 23 (.bool (decide (a1 < 0))) KR KR ?_; clear ha a; intro a ha
      by_cases hp907 : a1 < 0
      · skip
        replace h := ite_pos' h hp907
        replace ha := ha.bool 23 KR (decide_eq_true hp907)
        refine stepo ha 24 KR ?_; clear ha a; intro a ha
        refine stepo ha 25 KR ?_; clear ha a; intro a ha
        refine stepo ha 26 KR ?_; clear ha a; intro a ha
        refine stepo ha 27 KR ?_; clear ha a; intro a ha
        refine stepo ha 28 KR ?_; clear ha a; intro a ha
        refine stepo ha 29 KR ?_; clear ha a; intro a ha
        refine stepp ha 30 (.bool true) KR KR ?_; clear ha a; intro a ha
        refine endl ?_
        refine thenN (hK904 _ _ ?_); clear hK904
        refine condT ha KR KR (t := true) (rfl) ?_
        refine wp_seq_k (fun K912 hK913 => ?_)
        refine wp_region_lit ?_
        refine stepp ha 8 (.int .u64 0) KR KR ?_; clear ha a; intro a ha
        refine stepp ha 9 (.bool false) KR KR ?_; clear ha a; intro a ha
        refine endl ?_
        refine thenN (hK913 _ _ ?_); clear hK913
        refine wp_ret ?_
        refine thenR ?_
        obtain rfl := Option.some.inj h
        exact finv ha _ _ rfl (.tmp (v := .int .u64 0) KR (.tmp (v := .bool false) KR .nil)) (.tuple #[.int .u64 0, .bool false]) rfl ⟨rfl, HW.pick [] [] (by decide) (by decide) rfl KR⟩
      · skip
        replace h := ite_neg' h hp907
        replace ha := ha.bool 23 KR (decide_eq_false hp907)
        refine stepp ha 24 (.int .i64 a1) KR KR ?_; clear ha a; intro a ha
        refine stepp ha 25 (.string a0) KR KR ?_; clear ha a; intro a ha
        refine stepp ha 26 (.int .i64 (a0.size : Int)) KR KR ?_; clear ha a; intro a ha
        refine stepp ha 27 (.int .i64 a2) KR KR ?_; clear ha a; intro a ha
        refine stepp ha 28 (.int .i64 (IntKind.wrap .i64 ((a0.size : Int) - a2))) KR KR ?_; clear ha a; intro a ha
        refine stepp ha 29 (.bool (decide (a1 > (IntKind.wrap .i64 ((a0.size : Int) - a2))))) KR KR ?_; clear ha a; intro a ha
        refine stepp ha 30 (.bool (decide (a1 > (IntKind.wrap .i64 ((a0.size : Int) - a2))))) KR KR ?_; clear ha a; intro a ha
        refine endl ?_
        refine thenN (hK904 _ _ ?_); clear hK904
        by_cases hp914 : a1 > (IntKind.wrap .i64 ((a0.size : Int) - a2))
        · skip
          replace h := ite_pos' h hp914
          refine condT ha KR KR (t := decide (a1 > (IntKind.wrap .i64 ((a0.size : Int) - a2)))) (decide_eq_true hp914) ?_
          refine wp_seq_k (fun K915 hK916 => ?_)
          refine wp_region_lit ?_
          refine stepp ha 8 (.int .u64 0) KR KR ?_; clear ha a; intro a ha
          refine stepp ha 9 (.bool false) KR KR ?_; clear ha a; intro a ha
          refine endl ?_
          refine thenN (hK916 _ _ ?_); clear hK916
          refine wp_ret ?_
          refine thenR ?_
          obtain rfl := Option.some.inj h
          exact finv ha _ _ rfl (.tmp (v := .int .u64 0) KR (.tmp (v := .bool false) KR .nil)) (.tuple #[.int .u64 0, .bool false]) rfl ⟨rfl, HW.pick [] [] (by decide) (by decide) rfl KR⟩
        · skip
          replace h := ite_neg' h hp914
          refine condF ha KR KR (t := decide (a1 > (IntKind.wrap .i64 ((a0.size : Int) - a2)))) (decide_eq_false hp914) ?_
          refine wp_skip ?_
          refine thenN (hK902 _ _ ?_); clear hK902
          refine wp_seq_k (fun K917 hK918 => ?_)
          refine wp_region_lit ?_
          refine stepp ha 10 (.int .u64 0) KR KR ?_; clear ha a; intro a ha
          refine endl ?_
          refine thenN (hK918 _ _ ?_); clear hK918
          refine wp_seq_k (fun K919 hK920 => ?_)
          refine wp_seq_k (fun K921 hK922 => ?_)
          refine wp_region_lit ?_
          refine stepp ha 31 (.int .i64 a2) KR KR ?_; clear ha a; intro a ha
          refine stepp ha 32 (.bool a3) KR KR ?_; clear ha a; intro a ha
          obtain ⟨t923, ht924, h_⟩ := bind_some' h; clear h; have h := h_; clear h_
          refine stepc ha 33 KR KR (fields_shifts.calls K a2 a3 t923 _ ht924) ?_; clear ha a; rintro e W928 ⟨A925, c926, rfl, HX929⟩
          refine ⟨_, rfl, ?_⟩; intro a ha; replace HW := HW.callw HX929; clear HX929
          refine stepp ha 34 (.int .i64 (t923.length : Int)) KR KR ?_; clear ha a; intro a ha
          refine stepp ha 35 (.int .i64 0) KR KR ?_; clear ha a; intro a ha
          refine endl ?_
          refine thenN (hK922 _ _ ?_); clear hK922
          refine wp_block ?_
          refine loopk (fun k => fun a W969 => ∃ (x967 : Int), ∃ (x968 : Int), fields_get_uint64.l0 K a0 a1 t923 k x967 x968 = some r ∧ Has 52 [(0, .string a0), (1, .int .i64 a1), (10, .int .u64 x967), (33, .slice A925 t923.length c926), (34, .int .i64 (t923.length : Int)), (35, .int .i64 x968)] a ∧ Wd w W969 [] [⟨3, 1, .slice A925 t923.length c926, t923.length, encs (encI .i64) t923⟩]) K ?_ ?_
          · skip
            exact ⟨0, 0, h, ha.sub (subs_cons KR (subs_cons KR (subs_cons KR (subs_cons KR (subs_cons KR (subs_cons KR (subs_nil _))))))), HW.pick [] [0] (by decide) (by decide) KR KR⟩
          · skip
            intro k a W969 hI
            obtain ⟨x967, x968, h, ha, HW⟩ := hI
            cases k with
            | zero => exact (none_some (show none = some r from h)).elim
            | succ k970 =>
              replace h : fields_get_uint64.b0 K a0 a1 t923 (fields_get_uint64.l0 K a0 a1 t923 k970) x967 x968 = some r := h
              obtain ⟨again966, hag971⟩ : ∃ g_, g_ = fields_get_uint64.l0 K a0 a1 t923 k970 := ⟨_, rfl⟩
              rw [← hag971] at h
              unfold fields_get_uint64.b0 at h
              refine wp_seq_k (fun K972 hK973 => ?_)
              refine wp_region_lit ?_
              refine stepp ha 36 (.bool (decide (x968 < (t923.length : Int)))) KR KR ?_; clear ha a; intro a ha
              refine endl ?_
              refine thenN (hK973 _ _ ?_); clear hK973
              refine wp_seq_k (fun K974 hK975 => ?_)
              by_cases hp976 : x968 < (t923.length : Int)
              · skip
                replace h := ite_pos' h hp976
                refine condT ha KR KR (t := decide (x968 < (t923.length : Int))) (decide_eq_true hp976) ?_
                refine wp_skip ?_
                refine thenN (hK975 _ _ ?_); clear hK975
                refine wp_seq_k (fun K977 hK978 => ?_)
                refine wp_block ?_
                refine wp_seq_k (fun K979 hK980 => ?_)
                refine wp_region_lit ?_
                refine stepp ha 37 (.int .i64 x968) KR KR ?_; clear ha a; intro a ha
                obtain ⟨hA981, h_⟩ := asrt_some h; clear h; have h := h_; clear h_
                refine stepie (encI .i64) (0 : Int) ha 38 (fun _ => rfl) (v := .slice A925 t923.length c926) (xs := t923) (HW.rdo (i := 0) (q := ⟨3, 1, .slice A925 t923.length c926, t923.length, encs (encI .i64) t923⟩) KR) 58 3 (.tmp 33) (.tmp 35) .i64 x968 rfl KR KR KR KR hA981 (show (x968 : Int) < ((t923).length : Int) from hp976) KR ?_; clear ha a; intro b982 off983 a hC984 ha
                refine stepl ha 39 hC984 3 0 (.tmp 38) (.int .i64 (rdL (0 : Int) t923 x968)) rfl KR KR KR ?_; clear ha a; intro a ha
                refine stepp ha 11 (.int .i64 x968) KR KR ?_; clear ha a; intro a ha
                refine stepp ha 12 (.int .i64 (rdL (0 : Int) t923 x968)) KR KR ?_; clear ha a; intro a ha
                refine endl ?_
                refine thenN (hK980 _ _ ?_); clear hK980
                refine wp_region_lit ?_
                refine stepp ha 40 (.int .u64 x967) KR KR ?_; clear ha a; intro a ha
                refine stepp ha 41 (.string a0) KR KR ?_; clear ha a; intro a ha
                refine stepp ha 42 (.int .i64 a1) KR KR ?_; clear ha a; intro a ha
                refine stepp ha 43 (.int .i64 x968) KR KR ?_; clear ha a; intro a ha
                refine stepp ha 44 (.int .i64 (IntKind.wrap .i64 (a1 + x968))) KR KR ?_; clear ha a; intro a ha
                obtain ⟨hA985, h_⟩ := asrt_some h; clear h; have h := h_; clear h_
                obtain ⟨hA986, h_⟩ := asrt_some h; clear h; have h := h_; clear h_
                refine stepsi ha 45 9 (.tmp 41) (.tmp 44) a0 .i64 (IntKind.wrap .i64 (a1 + x968)) rfl KR KR KR hA985 (show (IntKind.wrap .i64 (a1 + x968) : Int) < ((a0).size : Int) from hA986) KR ?_; clear ha a; intro a ha
                refine stepp ha 46 (.int .u64 (IntKind.wrap .u64 (bt a0 (IntKind.wrap .i64 (a1 + x968))))) KR KR ?_; clear ha a; intro a ha
                refine stepp ha 47 (.int .i64 (rdL (0 : Int) t923 x968)) KR KR ?_; clear ha a; intro a ha
                obtain ⟨hA987, h_⟩ := asrt_some h; clear h; have h := h_; clear h_
                refine stepshl ha 48 176 3 (.tmp 46) (.tmp 47) .u64 .i64 (IntKind.wrap .u64 (bt a0 (IntKind.wrap .i64 (a1 + x968)))) (rdL (0 : Int) t923 x968) rfl KR KR hA987 KR ?_; clear ha a; intro a ha
                refine stepp ha 49 (.int .u64 (bor .u64 x967 (sshl .u64 (IntKind.wrap .u64 (bt a0 (IntKind.wrap .i64 (a1 + x968)))) (rdL (0 : Int) t923 x968)))) KR KR ?_; clear ha a; intro a ha
                refine stepp ha 10 (.int .u64 (bor .u64 x967 (sshl .u64 (IntKind.wrap .u64 (bt a0 (IntKind.wrap .i64 (a1 + x968)))) (rdL (0 : Int) t923 x968)))) KR KR ?_; clear ha a; intro a ha
                refine endl ?_
                refine blkN ?_
                refine thenN (hK978 _ _ ?_); clear hK978
                refine wp_region_lit ?_
                refine stepp ha 50 (.int .i64 (IntKind.wrap .i64 (x968 + 1))) KR KR ?_; clear ha a; intro a ha
                refine stepp ha 35 (.int .i64 (IntKind.wrap .i64 (x968 + 1))) KR KR ?_; clear ha a; intro a ha
                refine endl ?_
                exact thenN ⟨k970, Nat.lt_succ_self k970, bor .u64 x967 (sshl .u64 (IntKind.wrap .u64 (bt a0 (IntKind.wrap .i64 (a1 + x968)))) (rdL (0 : Int) t923 x968)), IntKind.wrap .i64 (x968 + 1), (by rw [← hag971]; exact h), ha.sub (subs_cons KR (subs_cons KR (subs_cons KR (subs_cons KR (subs_cons KR (subs_cons KR (subs_nil _))))))), HW.pick [] [0] (by decide) (by decide) KR KR⟩
              · skip
                replace h := ite_neg' h hp976
                refine condF ha KR KR (t := decide (x968 < (t923.length : Int))) (decide_eq_false hp976) ?_
                refine wp_exit ?_
                refine thenE ?_
                refine thenE ?_
                refine inBlk ?_
                refine thenN (hK920 _ _ ?_); clear hK920
                refine wp_seq_k (fun K988 hK989 => ?_)
                refine wp_region_lit ?_
                refine stepp ha 51 (.int .u64 x967) KR KR ?_; clear ha a; intro a ha
                refine stepp ha 8 (.int .u64 x967) KR KR ?_; clear ha a; intro a ha
                refine stepp ha 9 (.bool true) KR KR ?_; clear ha a; intro a ha
                refine endl ?_
                refine thenN (hK989 _ _ ?_); clear hK989
                refine wp_ret ?_
                obtain rfl := Option.some.inj h
                exact finv ha _ _ rfl (.tmp (v := .int .u64 x967) KR (.tmp (v := .bool true) KR .nil)) (.tuple #[.int .u64 x967, .bool true]) rfl ⟨rfl, HW.pick [] [] (by decide) (by decide) rfl KR⟩
/-! ### headgate/fields.Big: function 148 -/
def fields_Big.f (K : Nat) (a0 : ByteArray) (a1 : Int) (a2 : Int) : Option (Int × Bool) :=
  (fields_get_uint64.f K a0 a1 a2 true).bind fun t994 => (some (t994.1, t994.2))
set_option maxRecDepth 100000 in
set_option maxHeartbeats 4000000 in
theorem fields_Big.calls (K : Nat) (a0 : ByteArray) (a1 : Int) (a2 : Int)  (r : Int × Bool) (w : World)  (h : fields_Big.f K a0 a1 a2 = some r) :
    Calls Tryz.prog 148 #[.string a0, .int .i64 a1, .int .i64 a2] w (fun e W' => e = .returned (.tuple #[.int .u64 r.1, .bool r.2]) ∧ Wd w W' [] [] ) := by
  refine sxstart (n := 14) (l := [(0, .string a0), (1, .int .i64 a1), (2, .int .i64 a2)]) Tryz.func148 rfl rfl (Nat.le_of_ble_eq_true KR) (subsA_cons rfl (subsA_cons rfl (subsA_cons rfl (subsA_nil _)))) ?_
  intro a ha
  have HW := Wd.refl w
  unfold fields_Big.f at h
  refine wp_seq_k (fun K990 hK991 => ?_)
  refine wp_region_lit ?_
  refine stepp ha 6 (.int .u64 0) KR KR ?_; clear ha a; intro a ha
  refine stepp ha 7 (.bool false) KR KR ?_; clear ha a; intro a ha
  refine endl ?_
  refine thenN (hK991 _ _ ?_); clear hK991
  refine wp_seq_k (fun K992 hK993 => ?_)
  refine wp_region_lit ?_
  refine stepp ha 8 (.string a0) KR KR ?_; clear ha a; intro a ha
  refine stepp ha 9 (.int .i64 a1) KR KR ?_; clear ha a; intro a ha
  refine stepp ha 10 (.int .i64 a2) KR KR ?_; clear ha a; intro a ha
  obtain ⟨t994, ht995, h_⟩ := bind_some' h; clear h; have h := h_; clear h_
  refine stepc ha 11 KR KR (fields_get_uint64.calls K a0 a1 a2 true t994 _ ht995) ?_; clear ha a; rintro e W996 ⟨rfl, HX997⟩
  refine ⟨_, rfl, ?_⟩; intro a ha; replace HW := HW.callw HX997; clear HX997
  refine stepp ha 12 (.int .u64 t994.1) KR KR ?_; clear ha a; intro a ha
  refine stepp ha 13 (.bool t994.2) KR KR ?_; clear ha a; intro a ha
  refine stepp ha 6 (.int .u64 t994.1) KR KR ?_; clear ha a; intro a ha
  refine stepp ha 7 (.bool t994.2) KR KR ?_; clear ha a; intro a ha
  refine endl ?_
  refine thenN (hK993 _ _ ?_); clear hK993
  refine wp_ret ?_
  obtain rfl := Option.some.inj h
  exact finv ha _ _ rfl (.tmp (v := .int .u64 t994.1) KR (.tmp (v := .bool t994.2) KR .nil)) (.tuple #[.int .u64 t994.1, .bool t994.2]) rfl ⟨rfl, HW.pick [] [] (by decide) (by decide) rfl KR⟩
end Go.Proofs.YtljpkcaljnahfaaGreatDoor.F
