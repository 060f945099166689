/- headgate/fields.shifts, headgate/fields.get[uint64], headgate/fields.Big: plain functions, and that the calls come to what they say. No condition. -/
import Derived.Test.YteilejfncdacfaaGreatDoorFT
namespace Go.Proofs.YteilejfncdacfaaGreatDoor.F
open Go Go.RowKit Go.Proofs.YteilejfncdacfaaGreatDoor.X
set_option linter.unusedVariables false
set_option linter.unusedSimpArgs false
/-! ### headgate/fields.shifts: function 243 -/
def fields_shifts.b0 (K : Nat) (a0 : Int) (a1 : Bool) (again287 : (List Int) → Int → Option (List Int)) (x288 : List Int) (x292 : Int) : Option (List Int) :=
  if x292 < a0 then (if a1 = true then (asrt (x288.length + ([IntKind.wrap .i64 (8 * (IntKind.wrap .i64 ((IntKind.wrap .i64 (a0 - 1)) - x292)))] : List Int).length ≤ 17592186044416) (again287 (x288 ++ ([IntKind.wrap .i64 (8 * (IntKind.wrap .i64 ((IntKind.wrap .i64 (a0 - 1)) - x292)))] : List Int)) (IntKind.wrap .i64 (x292 + 1)))) else (asrt (x288.length + ([IntKind.wrap .i64 (8 * x292)] : List Int).length ≤ 17592186044416) (again287 (x288 ++ ([IntKind.wrap .i64 (8 * x292)] : List Int)) (IntKind.wrap .i64 (x292 + 1))))) else (some x288)
def fields_shifts.l0 (K : Nat) (a0 : Int) (a1 : Bool) : Nat → (List Int) → Int → Option (List Int)
  | 0, _, _ => none
  | k_ + 1, x288, x292 => fields_shifts.b0 K a0 a1 (fields_shifts.l0 K a0 a1 k_) x288 x292
def fields_shifts.f (K : Nat) (a0 : Int) (a1 : Bool) : Option (List Int) :=
  fields_shifts.l0 K a0 a1 K ([] : List Int) 0
set_option maxRecDepth 100000 in
set_option maxHeartbeats 4000000 in
theorem fields_shifts.calls (K : Nat) (a0 : Int) (a1 : Bool)  (r : List Int) (w : World)  (h : fields_shifts.f K a0 a1 = some r) :
    Calls Tryz.prog 243 #[.int .i64 a0, .bool a1] w (fun e W' => ∃ A_0 c_0, e = .returned (.slice A_0 r.length c_0) ∧ Wd w W' [] [⟨3, 1, .slice A_0 r.length c_0, r.length, encs (encIK .i64) r⟩] ) := by
  refine sxstart (n := 27) (l := [(0, .int .i64 a0), (1, .bool a1)]) Tryz.func243 rfl rfl (Nat.le_of_ble_eq_true KR) (subsA_cons rfl (subsA_cons rfl (subsA_nil _))) ?_
  intro a ha
  have HW := Wd.refl w
  unfold fields_shifts.f at h
  refine wp_seq_k (fun K210 hK211 => ?_)
  refine wp_region_lit ?_
  refine stepp ha 4 (.slice none 0 0) KR KR ?_; clear ha a; intro a ha
  refine endl ?_
  refine thenN (hK211 _ _ ?_); clear hK211
  refine wp_seq_k (fun K212 hK213 => ?_)
  refine wp_region_lit ?_
  refine stepp ha 5 (.slice none 0 0) KR KR ?_; clear ha a; intro a ha
  refine endl ?_
  refine thenN (hK213 _ _ ?_); clear hK213
  refine wp_seq_k (fun K214 hK215 => ?_)
  refine wp_seq_k (fun K216 hK217 => ?_)
  refine wp_region_lit ?_
  refine stepp ha 7 (.int .i64 a0) KR KR ?_; clear ha a; intro a ha
  refine stepp ha 8 (.int .i64 0) KR KR ?_; clear ha a; intro a ha
  refine endl ?_
  refine thenN (hK217 _ _ ?_); clear hK217
  refine wp_block ?_
  refine loopk (fun k => fun a W293 => ∃ (x288 : List Int), ∃ A289, ∃ c290, ∃ (x292 : Int), fields_shifts.l0 K a0 a1 k x288 x292 = some r ∧ Has 27 [(0, .int .i64 a0), (1, .bool a1), (5, .slice A289 x288.length c290), (7, .int .i64 a0), (8, .int .i64 x292)] a ∧ Wd w W293 [] [⟨3, 1, .slice A289 x288.length c290, x288.length, encs (encIK .i64) x288⟩]) K ?_ ?_
  · skip
    replace HW := HW.nilo 3 1
    exact ⟨([] : List Int), none, 0, 0, h, ha.sub (subs_cons KR (subs_cons KR (subs_cons KR (subs_cons KR (subs_cons KR (subs_nil _)))))), HW.pick [] [0] (by decide) (by decide) KR KR⟩
  · skip
    intro k a W293 hI
    obtain ⟨x288, A289, c290, x292, h, ha, HW⟩ := hI
    cases k with
    | zero => exact (none_some (show none = some r from h)).elim
    | succ k294 =>
      replace h : fields_shifts.b0 K a0 a1 (fields_shifts.l0 K a0 a1 k294) x288 x292 = some r := h
      obtain ⟨again287, hag295⟩ : ∃ g_, g_ = fields_shifts.l0 K a0 a1 k294 := ⟨_, rfl⟩
      rw [← hag295] at h
      unfold fields_shifts.b0 at h
      refine wp_seq_k (fun K296 hK297 => ?_)
      refine wp_region_lit ?_
      refine stepp ha 9 (.bool (decide (x292 < a0))) KR KR ?_; clear ha a; intro a ha
      refine endl ?_
      refine thenN (hK297 _ _ ?_); clear hK297
      refine wp_seq_k (fun K298 hK299 => ?_)
      by_cases hp300 : x292 < a0
      · skip
        replace h := ite_pos' h hp300
        refine condT ha KR KR (t := decide (x292 < a0)) (decide_eq_true hp300) ?_
        refine wp_skip ?_
        refine thenN (hK299 _ _ ?_); clear hK299
        refine wp_seq_k (fun K301 hK302 => ?_)
        refine wp_block ?_
        refine wp_seq_k (fun K303 hK304 => ?_)
        refine wp_region_lit ?_
        refine stepp ha 10 (.int .i64 x292) KR KR ?_; clear ha a; intro a ha
        refine stepp ha 6 (.int .i64 x292) KR KR ?_; clear ha a; intro a ha
        refine endl ?_
        refine thenN (hK304 _ _ ?_); clear hK304
        refine wp_seq_k (fun K305 hK306 => ?_)
        refine wp_region_lit ?_
        refine stepp ha 11 (.bool a1) KR KR ?_; clear ha a; intro a ha
        refine endl ?_
        refine thenN (hK306 _ _ ?_); clear hK306
        by_cases hp307 : a1 = true
        · skip
          replace h := ite_pos' h hp307
          refine condT ha KR KR (t := a1) (hp307) ?_
          refine wp_region_lit ?_
          refine stepp ha 12 (.slice A289 x288.length c290) KR KR ?_; clear ha a; intro a ha
          refine stepp ha 13 (.int .i64 a0) KR KR ?_; clear ha a; intro a ha
          refine stepp ha 14 (.int .i64 (IntKind.wrap .i64 (a0 - 1))) KR KR ?_; clear ha a; intro a ha
          refine stepp ha 15 (.int .i64 x292) KR KR ?_; clear ha a; intro a ha
          refine stepp ha 16 (.int .i64 (IntKind.wrap .i64 ((IntKind.wrap .i64 (a0 - 1)) - x292))) KR KR ?_; clear ha a; intro a ha
          refine stepp ha 17 (.int .i64 (IntKind.wrap .i64 (8 * (IntKind.wrap .i64 ((IntKind.wrap .i64 (a0 - 1)) - x292))))) KR KR ?_; clear ha a; intro a ha
          refine stepbs ha HW 18 3 1 1 #[.int .i64 (IntKind.wrap .i64 (8 * (IntKind.wrap .i64 ((IntKind.wrap .i64 (a0 - 1)) - x292))))] [.int .i64 (IntKind.wrap .i64 (8 * (IntKind.wrap .i64 ((IntKind.wrap .i64 (a0 - 1)) - x292))))] (by decide) KR KR KR KR ?_; clear ha HW a; intro b308 a W309 HW ha
          replace HW : Wd w W309 [] [⟨3, 1, .slice (some ⟨b308, 0, none⟩) ([IntKind.wrap .i64 (8 * (IntKind.wrap .i64 ((IntKind.wrap .i64 (a0 - 1)) - x292)))] : List Int).length 1, ([IntKind.wrap .i64 (8 * (IntKind.wrap .i64 ((IntKind.wrap .i64 (a0 - 1)) - x292)))] : List Int).length, encs (encIK .i64) ([IntKind.wrap .i64 (8 * (IntKind.wrap .i64 ((IntKind.wrap .i64 (a0 - 1)) - x292)))] : List Int)⟩, ⟨3, 1, .slice A289 x288.length c290, x288.length, encs (encIK .i64) x288⟩] := HW
          replace ha := ha.turn 18 (v := .slice (some ⟨b308, 0, none⟩) ([IntKind.wrap .i64 (8 * (IntKind.wrap .i64 ((IntKind.wrap .i64 (a0 - 1)) - x292)))] : List Int).length 1) KR rfl
          obtain ⟨hA311, h_⟩ := asrt_some h; clear h; have h := h_; clear h_
          refine stepape (encIK .i64) ha HW 19 1 69 3 (.tmp 12) (.tmp 18) (.int .i64 0) 1 8 (.slice A289 x288.length c290) x288 (.slice (some ⟨b308, 0, none⟩) ([IntKind.wrap .i64 (8 * (IntKind.wrap .i64 ((IntKind.wrap .i64 (a0 - 1)) - x292)))] : List Int).length 1) ([IntKind.wrap .i64 (8 * (IntKind.wrap .i64 ((IntKind.wrap .i64 (a0 - 1)) - x292)))] : List Int) KR rfl KR KR (HW.rdo (i := 0) (q := ⟨3, 1, .slice (some ⟨b308, 0, none⟩) ([IntKind.wrap .i64 (8 * (IntKind.wrap .i64 ((IntKind.wrap .i64 (a0 - 1)) - x292)))] : List Int).length 1, ([IntKind.wrap .i64 (8 * (IntKind.wrap .i64 ((IntKind.wrap .i64 (a0 - 1)) - x292)))] : List Int).length, encs (encIK .i64) ([IntKind.wrap .i64 (8 * (IntKind.wrap .i64 ((IntKind.wrap .i64 (a0 - 1)) - x292)))] : List Int)⟩) KR) (fun _ => rfl) KR KR KR (by decide) (by have := hA311; unfold maxLen; omega) (by have := hA311; omega) KR ?_; clear ha HW a; intro A312 c313 a W314 HW ha
          refine stepp ha 5 (.slice A312 (x288 ++ ([IntKind.wrap .i64 (8 * (IntKind.wrap .i64 ((IntKind.wrap .i64 (a0 - 1)) - x292)))] : List Int)).length c313) KR KR ?_; clear ha a; intro a ha
          refine endl ?_
          refine blkN ?_
          refine thenN (hK302 _ _ ?_); clear hK302
          refine wp_region_lit ?_
          refine stepp ha 25 (.int .i64 (IntKind.wrap .i64 (x292 + 1))) KR KR ?_; clear ha a; intro a ha
          refine stepp ha 8 (.int .i64 (IntKind.wrap .i64 (x292 + 1))) KR KR ?_; clear ha a; intro a ha
          refine endl ?_
          exact thenN ⟨k294, Nat.lt_succ_self k294, x288 ++ ([IntKind.wrap .i64 (8 * (IntKind.wrap .i64 ((IntKind.wrap .i64 (a0 - 1)) - x292)))] : List Int), A312, c313, IntKind.wrap .i64 (x292 + 1), (by rw [← hag295]; exact h), ha.sub (subs_cons KR (subs_cons KR (subs_cons KR (subs_cons KR (subs_cons KR (subs_nil _)))))), HW.pick [] [1] (by decide) (by decide) KR KR⟩
        · skip
          replace h := ite_neg' h hp307
          refine condF ha KR KR (t := a1) (bool_f hp307) ?_
          refine wp_region_lit ?_
          refine stepp ha 20 (.slice A289 x288.length c290) KR KR ?_; clear ha a; intro a ha
          refine stepp ha 21 (.int .i64 x292) KR KR ?_; clear ha a; intro a ha
          refine stepp ha 22 (.int .i64 (IntKind.wrap .i64 (8 * x292))) KR KR ?_; clear ha a; intro a ha
          refine stepbs ha HW 23 3 1 1 #[.int .i64 (IntKind.wrap .i64 (8 * x292))] [.int .i64 (IntKind.wrap .i64 (8 * x292))] (by decide) KR KR KR KR ?_; clear ha HW a; intro b317 a W318 HW ha
          replace HW : Wd w W318 [] [⟨3, 1, .slice (some ⟨b317, 0, none⟩) ([IntKind.wrap .i64 (8 * x292)] : List Int).length 1, ([IntKind.wrap .i64 (8 * x292)] : List Int).length, encs (encIK .i64) ([IntKind.wrap .i64 (8 * x292)] : List Int)⟩, ⟨3, 1, .slice A289 x288.length c290, x288.length, encs (encIK .i64) x288⟩] := HW
          replace ha := ha.turn 23 (v := .slice (some ⟨b317, 0, none⟩) ([IntKind.wrap .i64 (8 * x292)] : List Int).length 1) KR rfl
          obtain ⟨hA320, h_⟩ := asrt_some h; clear h; have h := h_; clear h_
          refine stepape (encIK .i64) ha HW 24 1 69 3 (.tmp 20) (.tmp 23) (.int .i64 0) 1 8 (.slice A289 x288.length c290) x288 (.slice (some ⟨b317, 0, none⟩) ([IntKind.wrap .i64 (8 * x292)] : List Int).length 1) ([IntKind.wrap .i64 (8 * x292)] : List Int) KR rfl KR KR (HW.rdo (i := 0) (q := ⟨3, 1, .slice (some ⟨b317, 0, none⟩) ([IntKind.wrap .i64 (8 * x292)] : List Int).length 1, ([IntKind.wrap .i64 (8 * x292)] : List Int).length, encs (encIK .i64) ([IntKind.wrap .i64 (8 * x292)] : List Int)⟩) KR) (fun _ => rfl) KR KR KR (by decide) (by have := hA320; unfold maxLen; omega) (by have := hA320; omega) KR ?_; clear ha HW a; intro A321 c322 a W323 HW ha
          refine stepp ha 5 (.slice A321 (x288 ++ ([IntKind.wrap .i64 (8 * x292)] : List Int)).length c322) KR KR ?_; clear ha a; intro a ha
          refine endl ?_
          refine blkN ?_
          refine thenN (hK302 _ _ ?_); clear hK302
          refine wp_region_lit ?_
          refine stepp ha 25 (.int .i64 (IntKind.wrap .i64 (x292 + 1))) KR KR ?_; clear ha a; intro a ha
          refine stepp ha 8 (.int .i64 (IntKind.wrap .i64 (x292 + 1))) KR KR ?_; clear ha a; intro a ha
          refine endl ?_
          exact thenN ⟨k294, Nat.lt_succ_self k294, x288 ++ ([IntKind.wrap .i64 (8 * x292)] : List Int), A321, c322, IntKind.wrap .i64 (x292 + 1), (by rw [← hag295]; exact h), ha.sub (subs_cons KR (subs_cons KR (subs_cons KR (subs_cons KR (subs_cons KR (subs_nil _)))))), HW.pick [] [1] (by decide) (by decide) KR KR⟩
      · skip
        replace h := ite_neg' h hp300
        refine condF ha KR KR (t := decide (x292 < a0)) (decide_eq_false hp300) ?_
        refine wp_exit ?_
        refine thenE ?_
        refine thenE ?_
        refine inBlk ?_
        refine thenN (hK215 _ _ ?_); clear hK215
        refine wp_seq_k (fun K326 hK327 => ?_)
        refine wp_region_lit ?_
        refine stepp ha 26 (.slice A289 x288.length c290) KR KR ?_; clear ha a; intro a ha
        refine stepp ha 4 (.slice A289 x288.length c290) KR KR ?_; clear ha a; intro a ha
        refine endl ?_
        refine thenN (hK327 _ _ ?_); clear hK327
        refine wp_ret ?_
        obtain rfl := Option.some.inj h
        exact finv ha _ _ rfl (.tmp (v := .slice A289 x288.length c290) KR .nil) (.slice A289 x288.length c290) rfl ⟨A289, c290, rfl, HW.pick [] [0] (by decide) (by decide) rfl KR⟩
/-! ### headgate/fields.get[uint64]: function 182 -/
def fields_get_uint64.b0 (K : Nat) (a0 : ByteArray) (a1 : Int) (t1235 : List Int) (again1278 : Int → Int → Option (Int × Bool)) (x1279 : Int) (x1280 : Int) : Option (Int × Bool) :=
  if x1280 < (t1235.length : Int) then (asrt (0 ≤ x1280) (asrt (0 ≤ (IntKind.wrap .i64 (a1 + x1280))) (asrt ((IntKind.wrap .i64 (a1 + x1280)) < (a0.size : Int)) (asrt (0 ≤ (rdL (0 : Int) t1235 x1280)) (again1278 (bor .u64 x1279 (sshl .u64 (IntKind.wrap .u64 (bt a0 (IntKind.wrap .i64 (a1 + x1280)))) (rdL (0 : Int) t1235 x1280))) (IntKind.wrap .i64 (x1280 + 1))))))) else (some (x1279, true))
def fields_get_uint64.l0 (K : Nat) (a0 : ByteArray) (a1 : Int) (t1235 : List Int) : Nat → Int → Int → Option (Int × Bool)
  | 0, _, _ => none
  | k_ + 1, x1279, x1280 => fields_get_uint64.b0 K a0 a1 t1235 (fields_get_uint64.l0 K a0 a1 t1235 k_) x1279 x1280
def fields_get_uint64.f (K : Nat) (a0 : ByteArray) (a1 : Int) (a2 : Int) (a3 : Bool) : Option (Int × Bool) :=
  if a2 < 1 then (some (0, false)) else (if a2 > 8 then (some (0, false)) else (if a1 < 0 then (some (0, false)) else (if a1 > (IntKind.wrap .i64 ((a0.size : Int) - a2)) then (some (0, false)) else ((fields_shifts.f K a2 a3).bind fun t1235 => (fields_get_uint64.l0 K a0 a1 t1235 K 0 0)))))
set_option maxRecDepth 100000 in
set_option maxHeartbeats 4000000 in
theorem fields_get_uint64.calls (K : Nat) (a0 : ByteArray) (a1 : Int) (a2 : Int) (a3 : Bool)  (r : Int × Bool) (w : World)  (h : fields_get_uint64.f K a0 a1 a2 a3 = some r) :
    Calls Tryz.prog 182 #[.string a0, .int .i64 a1, .int .i64 a2, .bool a3] w (fun e W' => e = .returned (.tuple #[.int .u64 r.1, .bool r.2]) ∧ Wd w W' [] [] ) := by
  refine sxstart (n := 52) (l := [(0, .string a0), (1, .int .i64 a1), (2, .int .i64 a2), (3, .bool a3)]) Tryz.func182 rfl rfl (Nat.le_of_ble_eq_true KR) (subsA_cons rfl (subsA_cons rfl (subsA_cons rfl (subsA_cons rfl (subsA_nil _))))) ?_
  intro a ha
  have HW := Wd.refl w
  unfold fields_get_uint64.f at h
  refine wp_seq_k (fun K1211 hK1212 => ?_)
  refine wp_region_lit ?_
  refine stepp ha 8 (.int .u64 0) KR KR ?_; clear ha a; intro a ha
  refine stepp ha 9 (.bool false) KR KR ?_; clear ha a; intro a ha
  refine endl ?_
  refine thenN (hK1212 _ _ ?_); clear hK1212
  refine wp_seq_k (fun K1213 hK1214 => ?_)
  refine wp_seq_k (fun K1215 hK1216 => ?_)
  refine wp_region_lit ?_
  refine stepp ha 13 (.int .i64 a2) KR KR ?_; clear ha a; intro a ha
  refine stepp ha 14 (.bool (decide (a2 < 1))) KR KR ?_; clear ha a; intro a ha
  refine stepp ha 15 (.bool (decide (a2 < 1))) KR KR ?_; clear ha a; intro a ha
  by_cases hp1217 : a2 < 1
  · skip
    replace h := ite_pos' h hp1217
    replace ha := ha.bool 15 KR (decide_eq_true hp1217)
    refine stepo ha 16 KR ?_; clear ha a; intro a ha
    refine stepo ha 17 KR ?_; clear ha a; intro a ha
    refine stepp ha 18 (.bool true) KR KR ?_; clear ha a; intro a ha
    refine stepp ha 19 (.bool true) KR KR ?_; clear ha a; intro a ha
    refine stepo ha 20 KR ?_; clear ha a; intro a ha
    refine stepo ha 21 KR ?_; clear ha a; intro a ha
    refine stepp ha 22 (.bool true) KR KR ?_; clear ha a; intro a ha
    refine stepp ha 23 (.bool true) KR KR ?_; clear ha a; intro a ha
    refine stepo ha 24 KR ?_; clear ha a; intro a ha
    refine stepo ha 25 KR ?_; clear ha a; intro a ha
    refine stepo ha 26 KR ?_; clear ha a; intro a ha
    refine stepo ha 27 KR ?_; clear ha a; intro a ha
    refine stepo ha 28 KR ?_; clear ha a; intro a ha
    refine stepo ha 29 KR ?_; clear ha a; intro a ha
    refine stepp ha 30 (.bool true) KR KR ?_; clear ha a; intro a ha
    refine endl ?_
    refine thenN (hK1216 _ _ ?_); clear hK1216
    refine condT ha KR KR (t := true) (rfl) ?_
    refine wp_seq_k (fun K1220 hK1221 => ?_)
    refine wp_region_lit ?_
    refine stepp ha 8 (.int .u64 0) KR KR ?_; clear ha a; intro a ha
    refine stepp ha 9 (.bool false) KR KR ?_; clear ha a; intro a ha
    refine endl ?_
    refine thenN (hK1221 _ _ ?_); clear hK1221
    refine wp_ret ?_
    refine thenR ?_
    obtain rfl := Option.some.inj h
    exact finv ha _ _ rfl (.tmp (v := .int .u64 0) KR (.tmp (v := .bool false) KR .nil)) (.tuple #[.int .u64 0, .bool false]) rfl ⟨rfl, HW.pick [] [] (by decide) (by decide) rfl KR⟩
  · skip
    replace h := ite_neg' h hp1217
    replace ha := ha.bool 15 KR (decide_eq_false hp1217)
    refine stepp ha 16 (.int .i64 a2) KR KR ?_; clear ha a; intro a ha
    refine stepp ha 17 (.bool (decide (a2 > 8))) KR KR ?_; clear ha a; intro a ha
    refine stepp ha 18 (.bool (decide (a2 > 8))) KR KR ?_; clear ha a; intro a ha
    refine stepp ha 19 (.bool (decide (a2 > 8))) KR KR ?_; clear ha a; intro a ha
    by_cases hp1218 : a2 > 8
    · skip
      replace h := ite_pos' h hp1218
      replace ha := ha.bool 19 KR (decide_eq_true hp1218)
      refine stepo ha 20 KR ?_; clear ha a; intro a ha
      refine stepo ha 21 KR ?_; clear ha a; intro a ha
      refine stepp ha 22 (.bool true) KR KR ?_; clear ha a; intro a ha
      refine stepp ha 23 (.bool true) KR KR ?_; clear ha a; intro a ha
      refine stepo ha 24 KR ?_; clear ha a; intro a ha
      refine stepo ha 25 KR ?_; clear ha a; intro a ha
      refine stepo ha 26 KR ?_; clear ha a; intro a ha
      refine stepo ha 27 KR ?_; clear ha a; intro a ha
      refine stepo ha 28 KR ?_; clear ha a; intro a ha
      refine stepo ha 29 KR ?_; clear ha a; intro a ha
      refine stepp ha 30 (.bool true) KR KR ?_; clear ha a; intro a ha
      refine endl ?_
      refine thenN (hK1216 _ _ ?_); clear hK1216
      refine condT ha KR KR (t := true) (rfl) ?_
      refine wp_seq_k (fun K1222 hK1223 => ?_)
      refine wp_region_lit ?_
      refine stepp ha 8 (.int .u64 0) KR KR ?_; clear ha a; intro a ha
      refine stepp ha 9 (.bool false) KR KR ?_; clear ha a; intro a ha
      refine endl ?_
      refine thenN (hK1223 _ _ ?_); clear hK1223
      refine wp_ret ?_
      refine thenR ?_
      obtain rfl := Option.some.inj h
      exact finv ha _ _ rfl (.tmp (v := .int .u64 0) KR (.tmp (v := .bool false) KR .nil)) (.tuple #[.int .u64 0, .bool false]) rfl ⟨rfl, HW.pick [] [] (by decide) (by decide) rfl KR⟩
    · skip
      replace h := ite_neg' h hp1218
      replace ha := ha.bool 19 KR (decide_eq_false hp1218)
      refine stepp ha 20 (.int .i64 a1) KR KR ?_; clear ha a; intro a ha
      refine stepp ha 21 (.bool (decide (a1 < 0))) KR KR ?_; clear ha a; intro a ha
      refine stepp ha 22 (.bool (decide (a1 < 0))) KR KR ?_; clear ha a; intro a ha
      refine stepp ha 23 (.bool (decide (a1 < 0))) KR KR ?_; clear ha a; intro a ha
      by_cases hp1219 : a1 < 0
      · skip
        replace h := ite_pos' h hp1219
        replace ha := ha.bool 23 KR (decide_eq_true hp1219)
        refine stepo ha 24 KR ?_; clear ha a; intro a ha
        refine stepo ha 25 KR ?_; clear ha a; intro a ha
        refine stepo ha 26 KR ?_; clear ha a; intro a ha
        refine stepo ha 27 KR ?_; clear ha a; intro a ha
        refine stepo ha 28 KR ?_; clear ha a; intro a ha
        refine stepo ha 29 KR ?_; clear ha a; intro a ha
        refine stepp ha 30 (.bool true) KR KR ?_; clear ha a; intro a ha
        refine endl ?_
        refine thenN (hK1216 _ _ ?_); clear hK1216
        refine condT ha KR KR (t := true) (rfl) ?_
        refine wp_seq_k (fun K1224 hK1225 => ?_)
        refine wp_region_lit ?_
        refine stepp ha 8 (.int .u64 0) KR KR ?_; clear ha a; intro a ha
        refine stepp ha 9 (.bool false) KR KR ?_; clear ha a; intro a ha
        refine endl ?_
        refine thenN (hK1225 _ _ ?_); clear hK1225
        refine wp_ret ?_
        refine thenR ?_
        obtain rfl := Option.some.inj h
        exact finv ha _ _ rfl (.tmp (v := .int .u64 0) KR (.tmp (v := .bool false) KR .nil)) (.tuple #[.int .u64 0, .bool false]) rfl ⟨rfl, HW.pick [] [] (by decide) (by decide) rfl KR⟩
      · skip
        replace h := ite_neg' h hp1219
        replace ha := ha.bool 23 KR (decide_eq_false hp1219)
        refine stepp ha 24 (.int .i64 a1) KR KR ?_; clear ha a; intro a ha
        refine stepp ha 25 (.string a0) KR KR ?_; clear ha a; intro a ha
        refine stepp ha 26 (.int .i64 (a0.size : Int)) KR KR ?_; clear ha a; intro a ha
        refine stepp ha 27 (.int .i64 a2) KR KR ?_; clear ha a; intro a ha
        refine stepp ha 28 (.int .i64 (IntKind.wrap .i64 ((a0.size : Int) - a2))) KR KR ?_; clear ha a; intro a ha
        refine stepp ha 29 (.bool (decide (a1 > (IntKind.wrap .i64 ((a0.size : Int) - a2))))) KR KR ?_; clear ha a; intro a ha
        refine stepp ha 30 (.bool (decide (a1 > (IntKind.wrap .i64 ((a0.size : Int) - a2))))) KR KR ?_; clear ha a; intro a ha
        refine endl ?_
        refine thenN (hK1216 _ _ ?_); clear hK1216
        by_cases hp1226 : a1 > (IntKind.wrap .i64 ((a0.size : Int) - a2))
        · skip
          replace h := ite_pos' h hp1226
          refine condT ha KR KR (t := decide (a1 > (IntKind.wrap .i64 ((a0.size : Int) - a2)))) (decide_eq_true hp1226) ?_
          refine wp_seq_k (fun K1227 hK1228 => ?_)
          refine wp_region_lit ?_
          refine stepp ha 8 (.int .u64 0) KR KR ?_; clear ha a; intro a ha
          refine stepp ha 9 (.bool false) KR KR ?_; clear ha a; intro a ha
          refine endl ?_
          refine thenN (hK1228 _ _ ?_); clear hK1228
          refine wp_ret ?_
          refine thenR ?_
          obtain rfl := Option.some.inj h
          exact finv ha _ _ rfl (.tmp (v := .int .u64 0) KR (.tmp (v := .bool false) KR .nil)) (.tuple #[.int .u64 0, .bool false]) rfl ⟨rfl, HW.pick [] [] (by decide) (by decide) rfl KR⟩
        · skip
          replace h := ite_neg' h hp1226
          refine condF ha KR KR (t := decide (a1 > (IntKind.wrap .i64 ((a0.size : Int) - a2)))) (decide_eq_false hp1226) ?_
          refine wp_skip ?_
          refine thenN (hK1214 _ _ ?_); clear hK1214
          refine wp_seq_k (fun K1229 hK1230 => ?_)
          refine wp_region_lit ?_
          refine stepp ha 10 (.int .u64 0) KR KR ?_; clear ha a; intro a ha
          refine endl ?_
          refine thenN (hK1230 _ _ ?_); clear hK1230
          refine wp_seq_k (fun K1231 hK1232 => ?_)
          refine wp_seq_k (fun K1233 hK1234 => ?_)
          refine wp_region_lit ?_
          refine stepp ha 31 (.int .i64 a2) KR KR ?_; clear ha a; intro a ha
          refine stepp ha 32 (.bool a3) KR KR ?_; clear ha a; intro a ha
          obtain ⟨t1235, ht1236, h_⟩ := bind_some' h; clear h; have h := h_; clear h_
          refine stepc ha 33 KR KR (fields_shifts.calls K a2 a3 t1235 _ ht1236) ?_; clear ha a; rintro e W1240 ⟨A1237, c1238, rfl, HX1241⟩
          refine ⟨_, rfl, ?_⟩; intro a ha; replace HW := HW.callw HX1241; clear HX1241
          refine stepp ha 34 (.int .i64 (t1235.length : Int)) KR KR ?_; clear ha a; intro a ha
          refine stepp ha 35 (.int .i64 0) KR KR ?_; clear ha a; intro a ha
          refine endl ?_
          refine thenN (hK1234 _ _ ?_); clear hK1234
          refine wp_block ?_
          refine loopk (fun k => fun a W1281 => ∃ (x1279 : Int), ∃ (x1280 : Int), fields_get_uint64.l0 K a0 a1 t1235 k x1279 x1280 = some r ∧ Has 52 [(0, .string a0), (1, .int .i64 a1), (10, .int .u64 x1279), (33, .slice A1237 t1235.length c1238), (34, .int .i64 (t1235.length : Int)), (35, .int .i64 x1280)] a ∧ Wd w W1281 [] [⟨3, 1, .slice A1237 t1235.length c1238, t1235.length, encs (encIK .i64) t1235⟩]) K ?_ ?_
          · skip
            exact ⟨0, 0, h, ha.sub (subs_cons KR (subs_cons KR (subs_cons KR (subs_cons KR (subs_cons KR (subs_cons KR (subs_nil _))))))), HW.pick [] [0] (by decide) (by decide) KR KR⟩
          · skip
            intro k a W1281 hI
            obtain ⟨x1279, x1280, h, ha, HW⟩ := hI
            cases k with
            | zero => exact (none_some (show none = some r from h)).elim
            | succ k1282 =>
              replace h : fields_get_uint64.b0 K a0 a1 t1235 (fields_get_uint64.l0 K a0 a1 t1235 k1282) x1279 x1280 = some r := h
              obtain ⟨again1278, hag1283⟩ : ∃ g_, g_ = fields_get_uint64.l0 K a0 a1 t1235 k1282 := ⟨_, rfl⟩
              rw [← hag1283] at h
              unfold fields_get_uint64.b0 at h
              refine wp_seq_k (fun K1284 hK1285 => ?_)
              refine wp_region_lit ?_
              refine stepp ha 36 (.bool (decide (x1280 < (t1235.length : Int)))) KR KR ?_; clear ha a; intro a ha
              refine endl ?_
              refine thenN (hK1285 _ _ ?_); clear hK1285
              refine wp_seq_k (fun K1286 hK1287 => ?_)
              by_cases hp1288 : x1280 < (t1235.length : Int)
              · skip
                replace h := ite_pos' h hp1288
                refine condT ha KR KR (t := decide (x1280 < (t1235.length : Int))) (decide_eq_true hp1288) ?_
                refine wp_skip ?_
                refine thenN (hK1287 _ _ ?_); clear hK1287
                refine wp_seq_k (fun K1289 hK1290 => ?_)
                refine wp_block ?_
                refine wp_seq_k (fun K1291 hK1292 => ?_)
                refine wp_region_lit ?_
                refine stepp ha 37 (.int .i64 x1280) KR KR ?_; clear ha a; intro a ha
                obtain ⟨hA1293, h_⟩ := asrt_some h; clear h; have h := h_; clear h_
                refine stepie (encIK .i64) (0 : Int) ha 38 (fun _ => rfl) (v := .slice A1237 t1235.length c1238) (xs := t1235) (HW.rdo (i := 0) (q := ⟨3, 1, .slice A1237 t1235.length c1238, t1235.length, encs (encIK .i64) t1235⟩) KR) 69 3 (.tmp 33) (.tmp 35) .i64 x1280 rfl KR KR KR KR hA1293 (show (x1280 : Int) < ((t1235).length : Int) from hp1288) KR ?_; clear ha a; intro b1294 off1295 a hC1296 ha
                refine stepl ha 39 hC1296 3 0 (.tmp 38) (.int .i64 (rdL (0 : Int) t1235 x1280)) rfl KR KR KR ?_; clear ha a; intro a ha
                refine stepp ha 11 (.int .i64 x1280) KR KR ?_; clear ha a; intro a ha
                refine stepp ha 12 (.int .i64 (rdL (0 : Int) t1235 x1280)) KR KR ?_; clear ha a; intro a ha
                refine endl ?_
                refine thenN (hK1292 _ _ ?_); clear hK1292
                refine wp_region_lit ?_
                refine stepp ha 40 (.int .u64 x1279) KR KR ?_; clear ha a; intro a ha
                refine stepp ha 41 (.string a0) KR KR ?_; clear ha a; intro a ha
                refine stepp ha 42 (.int .i64 a1) KR KR ?_; clear ha a; intro a ha
                refine stepp ha 43 (.int .i64 x1280) KR KR ?_; clear ha a; intro a ha
                refine stepp ha 44 (.int .i64 (IntKind.wrap .i64 (a1 + x1280))) KR KR ?_; clear ha a; intro a ha
                obtain ⟨hA1297, h_⟩ := asrt_some h; clear h; have h := h_; clear h_
                obtain ⟨hA1298, h_⟩ := asrt_some h; clear h; have h := h_; clear h_
                refine stepsi ha 45 9 (.tmp 41) (.tmp 44) a0 .i64 (IntKind.wrap .i64 (a1 + x1280)) rfl KR KR KR hA1297 (show (IntKind.wrap .i64 (a1 + x1280) : Int) < ((a0).size : Int) from hA1298) KR ?_; clear ha a; intro a ha
                refine stepp ha 46 (.int .u64 (IntKind.wrap .u64 (bt a0 (IntKind.wrap .i64 (a1 + x1280))))) KR KR ?_; clear ha a; intro a ha
                refine stepp ha 47 (.int .i64 (rdL (0 : Int) t1235 x1280)) KR KR ?_; clear ha a; intro a ha
                obtain ⟨hA1299, h_⟩ := asrt_some h; clear h; have h := h_; clear h_
                refine stepshl ha 48 58 3 (.tmp 46) (.tmp 47) .u64 .i64 (IntKind.wrap .u64 (bt a0 (IntKind.wrap .i64 (a1 + x1280)))) (rdL (0 : Int) t1235 x1280) rfl KR KR hA1299 KR ?_; clear ha a; intro a ha
                refine stepp ha 49 (.int .u64 (bor .u64 x1279 (sshl .u64 (IntKind.wrap .u64 (bt a0 (IntKind.wrap .i64 (a1 + x1280)))) (rdL (0 : Int) t1235 x1280)))) KR KR ?_; clear ha a; intro a ha
                refine stepp ha 10 (.int .u64 (bor .u64 x1279 (sshl .u64 (IntKind.wrap .u64 (bt a0 (IntKind.wrap .i64 (a1 + x1280)))) (rdL (0 : Int) t1235 x1280)))) KR KR ?_; clear ha a; intro a ha
                refine endl ?_
                refine blkN ?_
                refine thenN (hK1290 _ _ ?_); clear hK1290
                refine wp_region_lit ?_
                refine stepp ha 50 (.int .i64 (IntKind.wrap .i64 (x1280 + 1))) KR KR ?_; clear ha a; intro a ha
                refine stepp ha 35 (.int .i64 (IntKind.wrap .i64 (x1280 + 1))) KR KR ?_; clear ha a; intro a ha
                refine endl ?_
                exact thenN ⟨k1282, Nat.lt_succ_self k1282, bor .u64 x1279 (sshl .u64 (IntKind.wrap .u64 (bt a0 (IntKind.wrap .i64 (a1 + x1280)))) (rdL (0 : Int) t1235 x1280)), IntKind.wrap .i64 (x1280 + 1), (by rw [← hag1283]; exact h), ha.sub (subs_cons KR (subs_cons KR (subs_cons KR (subs_cons KR (subs_cons KR (subs_cons KR (subs_nil _))))))), HW.pick [] [0] (by decide) (by decide) KR KR⟩
              · skip
                replace h := ite_neg' h hp1288
                refine condF ha KR KR (t := decide (x1280 < (t1235.length : Int))) (decide_eq_false hp1288) ?_
                refine wp_exit ?_
                refine thenE ?_
                refine thenE ?_
                refine inBlk ?_
                refine thenN (hK1232 _ _ ?_); clear hK1232
                refine wp_seq_k (fun K1300 hK1301 => ?_)
                refine wp_region_lit ?_
                refine stepp ha 51 (.int .u64 x1279) KR KR ?_; clear ha a; intro a ha
                refine stepp ha 8 (.int .u64 x1279) KR KR ?_; clear ha a; intro a ha
                refine stepp ha 9 (.bool true) KR KR ?_; clear ha a; intro a ha
                refine endl ?_
                refine thenN (hK1301 _ _ ?_); clear hK1301
                refine wp_ret ?_
                obtain rfl := Option.some.inj h
                exact finv ha _ _ rfl (.tmp (v := .int .u64 x1279) KR (.tmp (v := .bool true) KR .nil)) (.tuple #[.int .u64 x1279, .bool true]) rfl ⟨rfl, HW.pick [] [] (by decide) (by decide) rfl KR⟩
/-! ### headgate/fields.Big: function 93 -/
def fields_Big.f (K : Nat) (a0 : ByteArray) (a1 : Int) (a2 : Int) : Option (Int × Bool) :=
  (fields_get_uint64.f K a0 a1 a2 true).bind fun t1306 => (some (t1306.1, t1306.2))
set_option maxRecDepth 100000 in
set_option maxHeartbeats 4000000 in
theorem fields_Big.calls (K : Nat) (a0 : ByteArray) (a1 : Int) (a2 : Int)  (r : Int × Bool) (w : World)  (h : fields_Big.f K a0 a1 a2 = some r) :
    Calls Tryz.prog 93 #[.string a0, .int .i64 a1, .int .i64 a2] w (fun e W' => e = .returned (.tuple #[.int .u64 r.1, .bool r.2]) ∧ Wd w W' [] [] ) := by
  refine sxstart (n := 14) (l := [(0, .string a0), (1, .int .i64 a1), (2, .int .i64 a2)]) Tryz.func93 rfl rfl (Nat.le_of_ble_eq_true KR) (subsA_cons rfl (subsA_cons rfl (subsA_cons rfl (subsA_nil _)))) ?_
  intro a ha
  have HW := Wd.refl w
  unfold fields_Big.f at h
  refine wp_seq_k (fun K1302 hK1303 => ?_)
  refine wp_region_lit ?_
  refine stepp ha 6 (.int .u64 0) KR KR ?_; clear ha a; intro a ha
  refine stepp ha 7 (.bool false) KR KR ?_; clear ha a; intro a ha
  refine endl ?_
  refine thenN (hK1303 _ _ ?_); clear hK1303
  refine wp_seq_k (fun K1304 hK1305 => ?_)
  refine wp_region_lit ?_
  refine stepp ha 8 (.string a0) KR KR ?_; clear ha a; intro a ha
  refine stepp ha 9 (.int .i64 a1) KR KR ?_; clear ha a; intro a ha
  refine stepp ha 10 (.int .i64 a2) KR KR ?_; clear ha a; intro a ha
  obtain ⟨t1306, ht1307, h_⟩ := bind_some' h; clear h; have h := h_; clear h_
  refine stepc ha 11 KR KR (fields_get_uint64.calls K a0 a1 a2 true t1306 _ ht1307) ?_; clear ha a; rintro e W1308 ⟨rfl, HX1309⟩
  refine ⟨_, rfl, ?_⟩; intro a ha; replace HW := HW.callw HX1309; clear HX1309
  refine stepp ha 12 (.int .u64 t1306.1) KR KR ?_; clear ha a; intro a ha
  refine stepp ha 13 (.bool t1306.2) KR KR ?_; clear ha a; intro a ha
  refine stepp ha 6 (.int .u64 t1306.1) KR KR ?_; clear ha a; intro a ha
  refine stepp ha 7 (.bool t1306.2) KR KR ?_; clear ha a; intro a ha
  refine endl ?_
  refine thenN (hK1305 _ _ ?_); clear hK1305
  refine wp_ret ?_
  obtain rfl := Option.some.inj h
  exact finv ha _ _ rfl (.tmp (v := .int .u64 t1306.1) KR (.tmp (v := .bool t1306.2) KR .nil)) (.tuple #[.int .u64 t1306.1, .bool t1306.2]) rfl ⟨rfl, HW.pick [] [] (by decide) (by decide) rfl KR⟩
end Go.Proofs.YteilejfncdacfaaGreatDoor.F
