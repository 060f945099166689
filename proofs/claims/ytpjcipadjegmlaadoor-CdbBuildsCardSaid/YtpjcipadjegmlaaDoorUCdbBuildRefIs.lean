/- The block that asks for something (layer 15): the document's answer is the bytes of what can be asked. No condition. -/
import Derived.Test.YtpjcipadjegmlaaDoorUCdbBuildRef
namespace Go.Proofs.YtpjcipadjegmlaaDoor.F
open Go Go.RowKit Go.Proofs.YtpjcipadjegmlaaDoor.X
open Classical
set_option linter.unusedVariables false
set_option linter.unusedSimpArgs false

set_option maxHeartbeats 4000000 in
theorem headgateref15_Build.is (x : T_cdb_Ask) (o : x.ok) (K : Nat) : headgateref15_Build.f (K + 200) (toR x) = some (buildA x) := by
  have hf0 := o.f0
  have bad : ¬ goodA x (opA x) → (some ((⟨#[]⟩ : ByteArray), (150 : Int))) = some (buildA x) := fun h => by unfold buildA; rw [if_neg h]
  have e0 : headgateref15_Build.f (K + 200) (toR x) = headgateref15_Build.j0 (K + 200) (toR x) (opA x) := by
    unfold headgateref15_Build.f opA
    show (if x.f0 ≥ 256 then _ else _) = _
    by_cases h : x.f0 > 255
    · rw [if_pos (by omega), if_pos h, show (toR x).f0 = x.f0 from rfl, Int.tdiv_eq_ediv_of_nonneg (by omega), wi (by omega) (by omega)]
    · rw [if_neg (by omega), if_neg h]; rfl
  rw [e0]
  unfold headgateref15_Build.j0
  rw [show (toR x).f1 = x.f1 from rfl, show (toR x).f2 = x.f2 from rfl, show (toR x).f3 = x.f3 from rfl, show (toR x).f4 = x.f4 from rfl, show (toR x).f5 = x.f5 from rfl]
  have nop : ¬ isOp (opA x) → ¬ goodA x (opA x) := fun h g => h (goodA_op x _ g).2.1
  by_cases g1 : opA x < 0
  · rw [if_pos g1]; exact bad (nop (by unfold isOp; omega))
  rw [if_neg g1]
  by_cases g2 : opA x > 255
  · rw [if_pos g2]; exact bad (nop (by unfold isOp; omega))
  rw [if_neg g2]
  by_cases r0 : x.f1 < 0
  · rw [if_pos r0]; exact bad (fun g => by have := good_range x _ g; omega)
  rw [if_neg r0]
  by_cases r1 : x.f2 < 0
  · rw [if_pos r1]; exact bad (fun g => by have := good_range x _ g; omega)
  rw [if_neg r1]
  by_cases r2 : x.f5 < 0
  · rw [if_pos r2]; exact bad (fun g => by have := good_range x _ g; omega)
  rw [if_neg r2]
  by_cases r3 : x.f4 < 0
  · rw [if_pos r3]; exact bad (fun g => by have := good_range x _ g; omega)
  rw [if_neg r3]
  by_cases r4 : x.f1 ≥ 1099511627776
  · rw [if_pos r4]; exact bad (fun g => by have := good_range x _ g; omega)
  rw [if_neg r4]
  by_cases r5 : x.f2 ≥ 1099511627776
  · rw [if_pos r5]; exact bad (fun g => by have := good_range x _ g; omega)
  rw [if_neg r5]
  by_cases r6 : x.f5 ≥ 1099511627776
  · rw [if_pos r6]; exact bad (fun g => by have := good_range x _ g; omega)
  rw [if_neg r6]
  by_cases r7 : x.f4 ≥ 1099511627776
  · rw [if_pos r7]; exact bad (fun g => by have := good_range x _ g; omega)
  rw [if_neg r7]
  have w8 : IntKind.wrap .u8 (opA x) = opA x := by rw [wrapu8]; omega
  have hin : inB [opA x] := inB_cons (by omega) inB_nil
  have hlen : lenS (strOfNums [opA x]) = lenC (opA x) := by
    unfold lenS
    rw [if_neg (by rw [strOfNums_size]; simp), bt_of _ hin]; rfl
  rw [w8, headgateref15_Length.is, hlen, Option.bind_some]
  by_cases hl : lenC (opA x) = 0
  · rw [if_pos hl]
    refine bad (nop fun h => ?_)
    rw [lenC_val _ h] at hl
    (repeat' split at hl) <;> omega
  rw [if_neg hl]
  have hop : isOp (opA x) := by
    by_cases h : isOp (opA x)
    · exact h
    · exact absurd (lenC_none _ h) hl
  clear hl hlen hin w8 nop bad
  have gp := fun h => good_parts x (opA x) h
  have fin := fun l hl h => rfin x l hl K h
  have P : ∀ (N : Nat) (p n : Nat), 1 ≤ n → n ≤ 8 → p + n ≤ N → N ≤ 1000 → ∀ (l : List Int) (v : Int), l.length = N → headgateref15_put.f (K + 200) (strOfNums l) (p : Int) v (n : Int) = some (strOfNums (setL l p (beB (IntKind.wrap .u64 v) n))) :=
    fun N p n h1 h8 h hN l v hl => rput l p n v h1 h8 (by omega) (by omega) K
  unfold layA at fin
  unfold isOp at hop
  have j2c : ∀ k1 k2 : Int, ∀ f : Bool, (if f = true then headgateref15_Build.j1 (K + 200) (toR x) k1 k2 8 else headgateref15_Build.j1 (K + 200) (toR x) k1 k2 0) = headgateref15_Build.j1 (K + 200) (toR x) k1 k2 (if f = true then 8 else 0) := fun k1 k2 f => by cases f <;> rfl
  rcases hop with hb | hb | hb | hb | hb | hb | hb | hb | hb | hb | hb | hb | hb | hb <;> rw [hb] at gp fin ⊢
  · rw [show lenC 0 = 6 by kernel_rfl, show IntKind.wrap .i64 (6 - 1) = 5 from rfl, asrt_pos (by decide), asrt_pos (by decide), asrt_pos (by simp [strOfNums_size]), j2c]
    unfold headgateref15_Build.j1 headgateref15_Build.j3 headgateref15_Build.j4
    simp only [nums_append]
    rw [show (toR x).f0 = x.f0 from rfl, show (toR x).f1 = x.f1 from rfl, show (toR x).f2 = x.f2 from rfl, show (toR x).f5 = x.f5 from rfl, show (toR x).f6 = x.f6 from rfl]
    simp only [show ((0 : Int) == 40) = false from rfl, show ((0 : Int) == 42) = false from rfl, show ((0 : Int) == 136) = false from rfl, show ((0 : Int) == 138) = false from rfl, Bool.false_eq_true, if_true, if_false, show ¬ (0 : Int) = 18 by decide, show ¬ (0 : Int) = 40 by decide, show ¬ (0 : Int) = 136 by decide, show ¬ (0 : Int) = 147 by decide, show ¬ (0 : Int) = 137 by decide, show ¬ (0 : Int) = 66 by decide, show ¬ (0 : Int) = 160 by decide, show ¬ (0 : Int) = 94 by decide, show ¬ (0 : Int) = 95 by decide]
    refine fin _ (Nat.le_of_ble_eq_true (by kernel_rfl)) (fun h => ?_)
    exact (show _ = _ by kernel_rfl)
  · rw [show lenC 18 = 6 by kernel_rfl, show IntKind.wrap .i64 (6 - 1) = 5 from rfl, asrt_pos (by decide), asrt_pos (by decide), asrt_pos (by simp [strOfNums_size]), j2c]
    unfold headgateref15_Build.j1
    simp only [nums_append]
    rw [if_pos trivial, show (toR x).f4 = x.f4 from rfl]
    have p1_1 : ∀ (l : List Int) (v : Int), l.length = 6 → headgateref15_put.f (K + 200) (strOfNums l) 1 v 1 = some (strOfNums (setL l 1 (beB (IntKind.wrap .u64 v) 1))) := P 6 1 1 (by omega) (by omega) (by omega) (by omega)
    have p2_1 : ∀ (l : List Int) (v : Int), l.length = 6 → headgateref15_put.f (K + 200) (strOfNums l) 2 v 1 = some (strOfNums (setL l 2 (beB (IntKind.wrap .u64 v) 1))) := P 6 2 1 (by omega) (by omega) (by omega) (by omega)
    have p3_2 : ∀ (l : List Int) (v : Int), l.length = 6 → headgateref15_put.f (K + 200) (strOfNums l) 3 v 2 = some (strOfNums (setL l 3 (beB (IntKind.wrap .u64 v) 2))) := P 6 3 2 (by omega) (by omega) (by omega) (by omega)
    unfold headgateref15_Build.j2
    rw [show (toR x).f5 = x.f5 from rfl]
    by_cases hp : x.f4 ≥ 256
    · rw [if_pos hp, wi (n := x.f4 - 256) (by omega) (by omega), p1_1, Option.bind_some, p2_1, Option.bind_some, p3_2, Option.bind_some]
      · refine fin _ (Nat.le_of_ble_eq_true (by kernel_rfl)) (fun h => ?_)
        have r := (gp h).1 rfl
        have e1 : (if x.f4 > 0 then (1 : Int) else 0) = 1 := if_pos (by omega)
        have e2 : (if x.f4 > 0 then x.f4 % 256 else 0) = byteOf (IntKind.wrap .u64 (x.f4 - 256)) 1 0 := by
          rw [if_pos (by omega), wu (by omega) (by omega)]
          unfold byteOf
          simp
          try omega
        rw [u64id (v := x.f5) (by omega), e1, e2]
        exact (show _ = _ by kernel_rfl)
      all_goals kernel_rfl
    · rw [if_neg hp, p3_2, Option.bind_some]
      · refine fin _ (Nat.le_of_ble_eq_true (by kernel_rfl)) (fun h => ?_)
        have r := (gp h).1 rfl
        rw [u64id (v := x.f5) (by omega), if_neg (show ¬ x.f4 > 0 by omega), if_neg (show ¬ x.f4 > 0 by omega)]
        exact (show _ = _ by kernel_rfl)
      all_goals kernel_rfl
  · rw [show lenC 37 = 10 by kernel_rfl, show IntKind.wrap .i64 (10 - 1) = 9 from rfl, asrt_pos (by decide), asrt_pos (by decide), asrt_pos (by simp [strOfNums_size]), j2c]
    unfold headgateref15_Build.j1 headgateref15_Build.j3 headgateref15_Build.j4
    simp only [nums_append]
    rw [show (toR x).f0 = x.f0 from rfl, show (toR x).f1 = x.f1 from rfl, show (toR x).f2 = x.f2 from rfl, show (toR x).f5 = x.f5 from rfl, show (toR x).f6 = x.f6 from rfl]
    simp only [show ((37 : Int) == 40) = false from rfl, show ((37 : Int) == 42) = false from rfl, show ((37 : Int) == 136) = false from rfl, show ((37 : Int) == 138) = false from rfl, Bool.false_eq_true, if_true, if_false, show ¬ (37 : Int) = 18 by decide, show ¬ (37 : Int) = 40 by decide, show ¬ (37 : Int) = 136 by decide, show ¬ (37 : Int) = 147 by decide, show ¬ (37 : Int) = 137 by decide, show ¬ (37 : Int) = 66 by decide, show ¬ (37 : Int) = 160 by decide, show ¬ (37 : Int) = 94 by decide, show ¬ (37 : Int) = 95 by decide]
    refine fin _ (Nat.le_of_ble_eq_true (by kernel_rfl)) (fun h => ?_)
    exact (show _ = _ by kernel_rfl)
  · rw [show lenC 40 = 10 by kernel_rfl, show IntKind.wrap .i64 (10 - 1) = 9 from rfl, asrt_pos (by decide), asrt_pos (by decide), asrt_pos (by simp [strOfNums_size]), j2c]
    have p1_1 : ∀ (l : List Int) (v : Int), l.length = 10 → headgateref15_put.f (K + 200) (strOfNums l) 1 v 1 = some (strOfNums (setL l 1 (beB (IntKind.wrap .u64 v) 1))) := P 10 1 1 (by omega) (by omega) (by omega) (by omega)
    have p2_4 : ∀ (l : List Int) (v : Int), l.length = 10 → headgateref15_put.f (K + 200) (strOfNums l) 2 v 4 = some (strOfNums (setL l 2 (beB (IntKind.wrap .u64 v) 4))) := P 10 2 4 (by omega) (by omega) (by omega) (by omega)
    have p7_2 : ∀ (l : List Int) (v : Int), l.length = 10 → headgateref15_put.f (K + 200) (strOfNums l) 7 v 2 = some (strOfNums (setL l 7 (beB (IntKind.wrap .u64 v) 2))) := P 10 7 2 (by omega) (by omega) (by omega) (by omega)
    unfold headgateref15_Build.j1 headgateref15_Build.j3 headgateref15_Build.j4
    simp only [nums_append]
    rw [show (toR x).f0 = x.f0 from rfl, show (toR x).f1 = x.f1 from rfl, show (toR x).f2 = x.f2 from rfl, show (toR x).f5 = x.f5 from rfl, show (toR x).f6 = x.f6 from rfl]
    simp only [show ((40 : Int) == 40) = true from rfl, show ((40 : Int) == 42) = false from rfl, show ((40 : Int) == 136) = false from rfl, show ((40 : Int) == 138) = false from rfl, Bool.false_eq_true, if_true, if_false, show ¬ (40 : Int) = 18 by decide, show ¬ (40 : Int) = 136 by decide, show ¬ (40 : Int) = 147 by decide, show ¬ (40 : Int) = 137 by decide, show ¬ (40 : Int) = 66 by decide, show ¬ (40 : Int) = 160 by decide, show ¬ (40 : Int) = 94 by decide, show ¬ (40 : Int) = 95 by decide]
    rw [p1_1, Option.bind_some, p2_4, Option.bind_some, p7_2, Option.bind_some]
    · refine fin _ (Nat.le_of_ble_eq_true (by kernel_rfl)) (fun h => ?_)
      have r := (gp h).2.1 (Or.inl rfl)
      rw [u64id (v := x.f1) (by omega), u64id (v := x.f2) (by omega)]
      rw [r.2.2 rfl]
      exact (show _ = _ by kernel_rfl)
    all_goals kernel_rfl
  · rw [show lenC 136 = 16 by kernel_rfl, show IntKind.wrap .i64 (16 - 1) = 15 from rfl, asrt_pos (by decide), asrt_pos (by decide), asrt_pos (by simp [strOfNums_size]), j2c]
    have p1_1 : ∀ (l : List Int) (v : Int), l.length = 16 → headgateref15_put.f (K + 200) (strOfNums l) 1 v 1 = some (strOfNums (setL l 1 (beB (IntKind.wrap .u64 v) 1))) := P 16 1 1 (by omega) (by omega) (by omega) (by omega)
    have p2_8 : ∀ (l : List Int) (v : Int), l.length = 16 → headgateref15_put.f (K + 200) (strOfNums l) 2 v 8 = some (strOfNums (setL l 2 (beB (IntKind.wrap .u64 v) 8))) := P 16 2 8 (by omega) (by omega) (by omega) (by omega)
    have p10_4 : ∀ (l : List Int) (v : Int), l.length = 16 → headgateref15_put.f (K + 200) (strOfNums l) 10 v 4 = some (strOfNums (setL l 10 (beB (IntKind.wrap .u64 v) 4))) := P 16 10 4 (by omega) (by omega) (by omega) (by omega)
    unfold headgateref15_Build.j1 headgateref15_Build.j3 headgateref15_Build.j4
    simp only [nums_append]
    rw [show (toR x).f0 = x.f0 from rfl, show (toR x).f1 = x.f1 from rfl, show (toR x).f2 = x.f2 from rfl, show (toR x).f5 = x.f5 from rfl, show (toR x).f6 = x.f6 from rfl]
    simp only [show ((136 : Int) == 40) = false from rfl, show ((136 : Int) == 42) = false from rfl, show ((136 : Int) == 136) = true from rfl, show ((136 : Int) == 138) = false from rfl, Bool.false_eq_true, if_true, if_false, show ¬ (136 : Int) = 18 by decide, show ¬ (136 : Int) = 40 by decide, show ¬ (136 : Int) = 147 by decide, show ¬ (136 : Int) = 137 by decide, show ¬ (136 : Int) = 66 by decide, show ¬ (136 : Int) = 160 by decide, show ¬ (136 : Int) = 94 by decide, show ¬ (136 : Int) = 95 by decide]
    rw [p1_1, Option.bind_some, p2_8, Option.bind_some, p10_4, Option.bind_some]
    · refine fin _ (Nat.le_of_ble_eq_true (by kernel_rfl)) (fun h => ?_)
      have r := (gp h).2.2.1 (Or.inl rfl)
      rw [u64id (v := x.f1) (by omega), u64id (v := x.f2) (by omega)]
      rw [r.2.2 rfl]
      exact (show _ = _ by kernel_rfl)
    all_goals kernel_rfl
  · rw [show lenC 42 = 10 by kernel_rfl, show IntKind.wrap .i64 (10 - 1) = 9 from rfl, asrt_pos (by decide), asrt_pos (by decide), asrt_pos (by simp [strOfNums_size]), j2c]
    have p1_1 : ∀ (l : List Int) (v : Int), l.length = 10 → headgateref15_put.f (K + 200) (strOfNums l) 1 v 1 = some (strOfNums (setL l 1 (beB (IntKind.wrap .u64 v) 1))) := P 10 1 1 (by omega) (by omega) (by omega) (by omega)
    have p2_4 : ∀ (l : List Int) (v : Int), l.length = 10 → headgateref15_put.f (K + 200) (strOfNums l) 2 v 4 = some (strOfNums (setL l 2 (beB (IntKind.wrap .u64 v) 4))) := P 10 2 4 (by omega) (by omega) (by omega) (by omega)
    have p7_2 : ∀ (l : List Int) (v : Int), l.length = 10 → headgateref15_put.f (K + 200) (strOfNums l) 7 v 2 = some (strOfNums (setL l 7 (beB (IntKind.wrap .u64 v) 2))) := P 10 7 2 (by omega) (by omega) (by omega) (by omega)
    unfold headgateref15_Build.j1 headgateref15_Build.j3 headgateref15_Build.j4
    simp only [nums_append]
    rw [show (toR x).f0 = x.f0 from rfl, show (toR x).f1 = x.f1 from rfl, show (toR x).f2 = x.f2 from rfl, show (toR x).f5 = x.f5 from rfl, show (toR x).f6 = x.f6 from rfl]
    simp only [show ((42 : Int) == 40) = false from rfl, show ((42 : Int) == 42) = true from rfl, show ((42 : Int) == 136) = false from rfl, show ((42 : Int) == 138) = false from rfl, Bool.false_eq_true, if_true, if_false, show ¬ (42 : Int) = 18 by decide, show ¬ (42 : Int) = 40 by decide, show ¬ (42 : Int) = 136 by decide, show ¬ (42 : Int) = 147 by decide, show ¬ (42 : Int) = 137 by decide, show ¬ (42 : Int) = 66 by decide, show ¬ (42 : Int) = 160 by decide, show ¬ (42 : Int) = 94 by decide, show ¬ (42 : Int) = 95 by decide]
    rw [p1_1, Option.bind_some, p2_4, Option.bind_some, p7_2, Option.bind_some]
    · refine fin _ (Nat.le_of_ble_eq_true (by kernel_rfl)) (fun h => ?_)
      have r := (gp h).2.1 (Or.inr rfl)
      rw [u64id (v := x.f1) (by omega), u64id (v := x.f2) (by omega)]
      cases hf : x.f3 <;> exact (show _ = _ by kernel_rfl)
    all_goals kernel_rfl
  · rw [show lenC 138 = 16 by kernel_rfl, show IntKind.wrap .i64 (16 - 1) = 15 from rfl, asrt_pos (by decide), asrt_pos (by decide), asrt_pos (by simp [strOfNums_size]), j2c]
    have p1_1 : ∀ (l : List Int) (v : Int), l.length = 16 → headgateref15_put.f (K + 200) (strOfNums l) 1 v 1 = some (strOfNums (setL l 1 (beB (IntKind.wrap .u64 v) 1))) := P 16 1 1 (by omega) (by omega) (by omega) (by omega)
    have p2_8 : ∀ (l : List Int) (v : Int), l.length = 16 → headgateref15_put.f (K + 200) (strOfNums l) 2 v 8 = some (strOfNums (setL l 2 (beB (IntKind.wrap .u64 v) 8))) := P 16 2 8 (by omega) (by omega) (by omega) (by omega)
    have p10_4 : ∀ (l : List Int) (v : Int), l.length = 16 → headgateref15_put.f (K + 200) (strOfNums l) 10 v 4 = some (strOfNums (setL l 10 (beB (IntKind.wrap .u64 v) 4))) := P 16 10 4 (by omega) (by omega) (by omega) (by omega)
    unfold headgateref15_Build.j1 headgateref15_Build.j3 headgateref15_Build.j4
    simp only [nums_append]
    rw [show (toR x).f0 = x.f0 from rfl, show (toR x).f1 = x.f1 from rfl, show (toR x).f2 = x.f2 from rfl, show (toR x).f5 = x.f5 from rfl, show (toR x).f6 = x.f6 from rfl]
    simp only [show ((138 : Int) == 40) = false from rfl, show ((138 : Int) == 42) = false from rfl, show ((138 : Int) == 136) = false from rfl, show ((138 : Int) == 138) = true from rfl, Bool.false_eq_true, if_true, if_false, show ¬ (138 : Int) = 18 by decide, show ¬ (138 : Int) = 40 by decide, show ¬ (138 : Int) = 136 by decide, show ¬ (138 : Int) = 147 by decide, show ¬ (138 : Int) = 137 by decide, show ¬ (138 : Int) = 66 by decide, show ¬ (138 : Int) = 160 by decide, show ¬ (138 : Int) = 94 by decide, show ¬ (138 : Int) = 95 by decide]
    rw [p1_1, Option.bind_some, p2_8, Option.bind_some, p10_4, Option.bind_some]
    · refine fin _ (Nat.le_of_ble_eq_true (by kernel_rfl)) (fun h => ?_)
      have r := (gp h).2.2.1 (Or.inr (Or.inl rfl))
      rw [u64id (v := x.f1) (by omega), u64id (v := x.f2) (by omega)]
      cases hf : x.f3 <;> exact (show _ = _ by kernel_rfl)
    all_goals kernel_rfl
  · rw [show lenC 53 = 10 by kernel_rfl, show IntKind.wrap .i64 (10 - 1) = 9 from rfl, asrt_pos (by decide), asrt_pos (by decide), asrt_pos (by simp [strOfNums_size]), j2c]
    unfold headgateref15_Build.j1 headgateref15_Build.j3 headgateref15_Build.j4
    simp only [nums_append]
    rw [show (toR x).f0 = x.f0 from rfl, show (toR x).f1 = x.f1 from rfl, show (toR x).f2 = x.f2 from rfl, show (toR x).f5 = x.f5 from rfl, show (toR x).f6 = x.f6 from rfl]
    simp only [show ((53 : Int) == 40) = false from rfl, show ((53 : Int) == 42) = false from rfl, show ((53 : Int) == 136) = false from rfl, show ((53 : Int) == 138) = false from rfl, Bool.false_eq_true, if_true, if_false, show ¬ (53 : Int) = 18 by decide, show ¬ (53 : Int) = 40 by decide, show ¬ (53 : Int) = 136 by decide, show ¬ (53 : Int) = 147 by decide, show ¬ (53 : Int) = 137 by decide, show ¬ (53 : Int) = 66 by decide, show ¬ (53 : Int) = 160 by decide, show ¬ (53 : Int) = 94 by decide, show ¬ (53 : Int) = 95 by decide]
    refine fin _ (Nat.le_of_ble_eq_true (by kernel_rfl)) (fun h => ?_)
    exact (show _ = _ by kernel_rfl)
  · rw [show lenC 66 = 10 by kernel_rfl, show IntKind.wrap .i64 (10 - 1) = 9 from rfl, asrt_pos (by decide), asrt_pos (by decide), asrt_pos (by simp [strOfNums_size]), j2c]
    have p7_2 : ∀ (l : List Int) (v : Int), l.length = 10 → headgateref15_put.f (K + 200) (strOfNums l) 7 v 2 = some (strOfNums (setL l 7 (beB (IntKind.wrap .u64 v) 2))) := P 10 7 2 (by omega) (by omega) (by omega) (by omega)
    unfold headgateref15_Build.j1 headgateref15_Build.j3 headgateref15_Build.j4
    simp only [nums_append]
    rw [show (toR x).f0 = x.f0 from rfl, show (toR x).f1 = x.f1 from rfl, show (toR x).f2 = x.f2 from rfl, show (toR x).f5 = x.f5 from rfl, show (toR x).f6 = x.f6 from rfl]
    simp only [show ((66 : Int) == 40) = false from rfl, show ((66 : Int) == 42) = false from rfl, show ((66 : Int) == 136) = false from rfl, show ((66 : Int) == 138) = false from rfl, Bool.false_eq_true, if_true, if_false, show ¬ (66 : Int) = 18 by decide, show ¬ (66 : Int) = 40 by decide, show ¬ (66 : Int) = 136 by decide, show ¬ (66 : Int) = 147 by decide, show ¬ (66 : Int) = 137 by decide, show ¬ (66 : Int) = 160 by decide, show ¬ (66 : Int) = 94 by decide, show ¬ (66 : Int) = 95 by decide]
    rw [p7_2, Option.bind_some]
    · refine fin _ (Nat.le_of_ble_eq_true (by kernel_rfl)) (fun h => ?_)
      have r := (gp h).2.2.2.2.1 (Or.inl rfl)
      rw [u64id (v := x.f5) (by omega)]
      exact (show _ = _ by kernel_rfl)
    all_goals kernel_rfl
  · rw [show lenC 137 = 16 by kernel_rfl, show IntKind.wrap .i64 (16 - 1) = 15 from rfl, asrt_pos (by decide), asrt_pos (by decide), asrt_pos (by simp [strOfNums_size]), j2c]
    have p2_8 : ∀ (l : List Int) (v : Int), l.length = 16 → headgateref15_put.f (K + 200) (strOfNums l) 2 v 8 = some (strOfNums (setL l 2 (beB (IntKind.wrap .u64 v) 8))) := P 16 2 8 (by omega) (by omega) (by omega) (by omega)
    have p13_1 : ∀ (l : List Int) (v : Int), l.length = 16 → headgateref15_put.f (K + 200) (strOfNums l) 13 v 1 = some (strOfNums (setL l 13 (beB (IntKind.wrap .u64 v) 1))) := P 16 13 1 (by omega) (by omega) (by omega) (by omega)
    unfold headgateref15_Build.j1 headgateref15_Build.j3 headgateref15_Build.j4
    simp only [nums_append]
    rw [show (toR x).f0 = x.f0 from rfl, show (toR x).f1 = x.f1 from rfl, show (toR x).f2 = x.f2 from rfl, show (toR x).f5 = x.f5 from rfl, show (toR x).f6 = x.f6 from rfl]
    simp only [show ((137 : Int) == 40) = false from rfl, show ((137 : Int) == 42) = false from rfl, show ((137 : Int) == 136) = false from rfl, show ((137 : Int) == 138) = false from rfl, Bool.false_eq_true, if_true, if_false, show ¬ (137 : Int) = 18 by decide, show ¬ (137 : Int) = 40 by decide, show ¬ (137 : Int) = 136 by decide, show ¬ (137 : Int) = 147 by decide, show ¬ (137 : Int) = 66 by decide, show ¬ (137 : Int) = 160 by decide, show ¬ (137 : Int) = 94 by decide, show ¬ (137 : Int) = 95 by decide]
    rw [p2_8, Option.bind_some, p13_1, Option.bind_some]
    · refine fin _ (Nat.le_of_ble_eq_true (by kernel_rfl)) (fun h => ?_)
      have r := (gp h).2.2.2.1 rfl
      rw [u64id (v := x.f1) (by omega), u64id (v := x.f2) (by omega)]
      exact (show _ = _ by kernel_rfl)
    all_goals kernel_rfl
  · rw [show lenC 147 = 16 by kernel_rfl, show IntKind.wrap .i64 (16 - 1) = 15 from rfl, asrt_pos (by decide), asrt_pos (by decide), asrt_pos (by simp [strOfNums_size]), j2c]
    have p1_1 : ∀ (l : List Int) (v : Int), l.length = 16 → headgateref15_put.f (K + 200) (strOfNums l) 1 v 1 = some (strOfNums (setL l 1 (beB (IntKind.wrap .u64 v) 1))) := P 16 1 1 (by omega) (by omega) (by omega) (by omega)
    have p2_8 : ∀ (l : List Int) (v : Int), l.length = 16 → headgateref15_put.f (K + 200) (strOfNums l) 2 v 8 = some (strOfNums (setL l 2 (beB (IntKind.wrap .u64 v) 8))) := P 16 2 8 (by omega) (by omega) (by omega) (by omega)
    have p10_4 : ∀ (l : List Int) (v : Int), l.length = 16 → headgateref15_put.f (K + 200) (strOfNums l) 10 v 4 = some (strOfNums (setL l 10 (beB (IntKind.wrap .u64 v) 4))) := P 16 10 4 (by omega) (by omega) (by omega) (by omega)
    unfold headgateref15_Build.j1 headgateref15_Build.j3 headgateref15_Build.j4
    simp only [nums_append]
    rw [show (toR x).f0 = x.f0 from rfl, show (toR x).f1 = x.f1 from rfl, show (toR x).f2 = x.f2 from rfl, show (toR x).f5 = x.f5 from rfl, show (toR x).f6 = x.f6 from rfl]
    simp only [show ((147 : Int) == 40) = false from rfl, show ((147 : Int) == 42) = false from rfl, show ((147 : Int) == 136) = false from rfl, show ((147 : Int) == 138) = false from rfl, Bool.false_eq_true, if_true, if_false, show ¬ (147 : Int) = 18 by decide, show ¬ (147 : Int) = 40 by decide, show ¬ (147 : Int) = 136 by decide, show ¬ (147 : Int) = 137 by decide, show ¬ (147 : Int) = 66 by decide, show ¬ (147 : Int) = 160 by decide, show ¬ (147 : Int) = 94 by decide, show ¬ (147 : Int) = 95 by decide]
    rw [p1_1, Option.bind_some, p2_8, Option.bind_some, p10_4, Option.bind_some]
    · refine fin _ (Nat.le_of_ble_eq_true (by kernel_rfl)) (fun h => ?_)
      have r := (gp h).2.2.1 (Or.inr (Or.inr rfl))
      rw [u64id (v := x.f1) (by omega), u64id (v := x.f2) (by omega)]
      exact (show _ = _ by kernel_rfl)
    all_goals kernel_rfl
  · rw [show lenC 94 = 10 by kernel_rfl, show IntKind.wrap .i64 (10 - 1) = 9 from rfl, asrt_pos (by decide), asrt_pos (by decide), asrt_pos (by simp [strOfNums_size]), j2c]
    have p1_1 : ∀ (l : List Int) (v : Int), l.length = 10 → headgateref15_put.f (K + 200) (strOfNums l) 1 v 1 = some (strOfNums (setL l 1 (beB (IntKind.wrap .u64 v) 1))) := P 10 1 1 (by omega) (by omega) (by omega) (by omega)
    have p7_2 : ∀ (l : List Int) (v : Int), l.length = 10 → headgateref15_put.f (K + 200) (strOfNums l) 7 v 2 = some (strOfNums (setL l 7 (beB (IntKind.wrap .u64 v) 2))) := P 10 7 2 (by omega) (by omega) (by omega) (by omega)
    unfold headgateref15_Build.j1 headgateref15_Build.j3 headgateref15_Build.j4
    simp only [nums_append]
    rw [show (toR x).f0 = x.f0 from rfl, show (toR x).f1 = x.f1 from rfl, show (toR x).f2 = x.f2 from rfl, show (toR x).f5 = x.f5 from rfl, show (toR x).f6 = x.f6 from rfl]
    simp only [show ((94 : Int) == 40) = false from rfl, show ((94 : Int) == 42) = false from rfl, show ((94 : Int) == 136) = false from rfl, show ((94 : Int) == 138) = false from rfl, Bool.false_eq_true, if_true, if_false, show ¬ (94 : Int) = 18 by decide, show ¬ (94 : Int) = 40 by decide, show ¬ (94 : Int) = 136 by decide, show ¬ (94 : Int) = 147 by decide, show ¬ (94 : Int) = 137 by decide, show ¬ (94 : Int) = 66 by decide, show ¬ (94 : Int) = 160 by decide, show ¬ (94 : Int) = 95 by decide]
    have tm : Int.tmod x.f0 32 = x.f0 % 32 := Int.tmod_eq_emod_of_nonneg (by unfold opA at hb; split at hb <;> omega)
    rw [tm]
    rw [p1_1, Option.bind_some, p7_2, Option.bind_some]
    · refine fin _ (Nat.le_of_ble_eq_true (by kernel_rfl)) (fun h => ?_)
      have r := (gp h).2.2.2.2.1 (Or.inr rfl)
      rw [u64id (v := x.f5) (by omega)]
      have g := goodA_op x _ h
      have hx : x.f0 % 256 = byteOf (IntKind.wrap .u64 (x.f0 % 32)) 1 0 := by
        rw [wu (by omega) (by omega)]
        unfold byteOf
        unfold goodA at h
        simp
        rcases h with ⟨q, _⟩ | ⟨q, _⟩ | ⟨q, _⟩ | ⟨q, _⟩ | ⟨q, _⟩ | ⟨q, _⟩ | ⟨q, _⟩ | ⟨q, q2, _⟩ | ⟨q, q2, _⟩ | ⟨q, q2, _⟩ <;> omega
      conv => rhs; rw [hx]
      exact (show _ = _ by kernel_rfl)
    all_goals kernel_rfl
  · rw [show lenC 95 = 10 by kernel_rfl, show IntKind.wrap .i64 (10 - 1) = 9 from rfl, asrt_pos (by decide), asrt_pos (by decide), asrt_pos (by simp [strOfNums_size]), j2c]
    have p1_1 : ∀ (l : List Int) (v : Int), l.length = 10 → headgateref15_put.f (K + 200) (strOfNums l) 1 v 1 = some (strOfNums (setL l 1 (beB (IntKind.wrap .u64 v) 1))) := P 10 1 1 (by omega) (by omega) (by omega) (by omega)
    have p2_1 : ∀ (l : List Int) (v : Int), l.length = 10 → headgateref15_put.f (K + 200) (strOfNums l) 2 v 1 = some (strOfNums (setL l 2 (beB (IntKind.wrap .u64 v) 1))) := P 10 2 1 (by omega) (by omega) (by omega) (by omega)
    have p5_4 : ∀ (l : List Int) (v : Int), l.length = 10 → headgateref15_put.f (K + 200) (strOfNums l) 5 v 4 = some (strOfNums (setL l 5 (beB (IntKind.wrap .u64 v) 4))) := P 10 5 4 (by omega) (by omega) (by omega) (by omega)
    unfold headgateref15_Build.j1 headgateref15_Build.j3 headgateref15_Build.j4
    simp only [nums_append]
    rw [show (toR x).f0 = x.f0 from rfl, show (toR x).f1 = x.f1 from rfl, show (toR x).f2 = x.f2 from rfl, show (toR x).f5 = x.f5 from rfl, show (toR x).f6 = x.f6 from rfl]
    simp only [show ((95 : Int) == 40) = false from rfl, show ((95 : Int) == 42) = false from rfl, show ((95 : Int) == 136) = false from rfl, show ((95 : Int) == 138) = false from rfl, Bool.false_eq_true, if_true, if_false, show ¬ (95 : Int) = 18 by decide, show ¬ (95 : Int) = 40 by decide, show ¬ (95 : Int) = 136 by decide, show ¬ (95 : Int) = 147 by decide, show ¬ (95 : Int) = 137 by decide, show ¬ (95 : Int) = 66 by decide, show ¬ (95 : Int) = 160 by decide, show ¬ (95 : Int) = 94 by decide]
    have tm : Int.tmod x.f0 32 = x.f0 % 32 := Int.tmod_eq_emod_of_nonneg (by unfold opA at hb; split at hb <;> omega)
    rw [tm]
    rw [headgateref15_Number.is]
    simp only [Option.bind_some]
    rw [p1_1, Option.bind_some, p2_1, Option.bind_some, p5_4, Option.bind_some]
    · refine fin _ (Nat.le_of_ble_eq_true (by kernel_rfl)) (fun h => ?_)
      have r := (gp h).2.2.2.2.2.2 rfl
      rw [u64id (v := x.f5) (by omega)]
      have g := goodA_op x _ h
      have hx : x.f0 % 256 = byteOf (IntKind.wrap .u64 (x.f0 % 32)) 1 0 := by
        rw [wu (by omega) (by omega)]
        unfold byteOf
        unfold goodA at h
        simp
        rcases h with ⟨q, _⟩ | ⟨q, _⟩ | ⟨q, _⟩ | ⟨q, _⟩ | ⟨q, _⟩ | ⟨q, _⟩ | ⟨q, _⟩ | ⟨q, q2, _⟩ | ⟨q, q2, _⟩ | ⟨q, q2, _⟩ <;> omega
      have hn : noC x.f6 = byteOf (IntKind.wrap .u64 (noC x.f6)) 1 0 := by
        have : 0 ≤ noC x.f6 ∧ noC x.f6 ≤ 8 := by unfold noC; (repeat' split) <;> omega
        rw [wu (by omega) (by omega)]
        unfold byteOf
        simp; omega
      conv => rhs; rw [hx, hn]
      exact (show _ = _ by kernel_rfl)
    all_goals kernel_rfl
  · rw [show lenC 160 = 12 by kernel_rfl, show IntKind.wrap .i64 (12 - 1) = 11 from rfl, asrt_pos (by decide), asrt_pos (by decide), asrt_pos (by simp [strOfNums_size]), j2c]
    have p6_4 : ∀ (l : List Int) (v : Int), l.length = 12 → headgateref15_put.f (K + 200) (strOfNums l) 6 v 4 = some (strOfNums (setL l 6 (beB (IntKind.wrap .u64 v) 4))) := P 12 6 4 (by omega) (by omega) (by omega) (by omega)
    unfold headgateref15_Build.j1 headgateref15_Build.j3 headgateref15_Build.j4
    simp only [nums_append]
    rw [show (toR x).f0 = x.f0 from rfl, show (toR x).f1 = x.f1 from rfl, show (toR x).f2 = x.f2 from rfl, show (toR x).f5 = x.f5 from rfl, show (toR x).f6 = x.f6 from rfl]
    simp only [show ((160 : Int) == 40) = false from rfl, show ((160 : Int) == 42) = false from rfl, show ((160 : Int) == 136) = false from rfl, show ((160 : Int) == 138) = false from rfl, Bool.false_eq_true, if_true, if_false, show ¬ (160 : Int) = 18 by decide, show ¬ (160 : Int) = 40 by decide, show ¬ (160 : Int) = 136 by decide, show ¬ (160 : Int) = 147 by decide, show ¬ (160 : Int) = 137 by decide, show ¬ (160 : Int) = 66 by decide, show ¬ (160 : Int) = 94 by decide, show ¬ (160 : Int) = 95 by decide]
    rw [p6_4, Option.bind_some]
    · refine fin _ (Nat.le_of_ble_eq_true (by kernel_rfl)) (fun h => ?_)
      have r := (gp h).2.2.2.2.2.1 rfl
      rw [u64id (v := x.f5) (by omega)]
      exact (show _ = _ by kernel_rfl)
    all_goals kernel_rfl

end Go.Proofs.YtpjcipadjegmlaaDoor.F
