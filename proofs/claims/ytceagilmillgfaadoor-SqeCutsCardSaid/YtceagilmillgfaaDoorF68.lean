/- headgate/fields.get[uint64]: a plain function, and that the call comes to what it says. No condition. -/
import Derived.Test.YtceagilmillgfaaDoorFT
import Derived.Test.YtceagilmillgfaaDoorF72
namespace Go.Proofs.YtceagilmillgfaaDoor.F
open Go Go.RowKit Go.Proofs.YtceagilmillgfaaDoor.X
set_option linter.unusedVariables false
set_option linter.unusedSimpArgs false
/-! ### headgate/fields.get[uint64]: function 68 -/
def fields_get_uint64.b0 (K : Nat) (a0 : ByteArray) (a1 : Int) (t1082 : List Int) (again1125 : Int → Int → Option (Int × Bool)) (x1126 : Int) (x1127 : Int) : Option (Int × Bool) :=
  if x1127 < (t1082.length : Int) then (asrt (0 ≤ x1127) (asrt (0 ≤ (IntKind.wrap .i64 (a1 + x1127))) (asrt ((IntKind.wrap .i64 (a1 + x1127)) < (a0.size : Int)) (asrt (0 ≤ (rdL (0 : Int) t1082 x1127)) (again1125 (bor .u64 x1126 (sshl .u64 (IntKind.wrap .u64 (bt a0 (IntKind.wrap .i64 (a1 + x1127)))) (rdL (0 : Int) t1082 x1127))) (IntKind.wrap .i64 (x1127 + 1))))))) else (some (x1126, true))
def fields_get_uint64.l0 (K : Nat) (a0 : ByteArray) (a1 : Int) (t1082 : List Int) : Nat → Int → Int → Option (Int × Bool)
  | 0, _, _ => none
  | k_ + 1, x1126, x1127 => fields_get_uint64.b0 K a0 a1 t1082 (fields_get_uint64.l0 K a0 a1 t1082 k_) x1126 x1127
def fields_get_uint64.f (K : Nat) (a0 : ByteArray) (a1 : Int) (a2 : Int) (a3 : Bool) : Option (Int × Bool) :=
  if a2 < 1 then (some (0, false)) else (if a2 > 8 then (some (0, false)) else (if a1 < 0 then (some (0, false)) else (if a1 > (IntKind.wrap .i64 ((a0.size : Int) - a2)) then (some (0, false)) else ((fields_shifts.f K a2 a3).bind fun t1082 => (fields_get_uint64.l0 K a0 a1 t1082 K 0 0)))))
set_option maxRecDepth 100000 in
set_option maxHeartbeats 4000000 in
theorem fields_get_uint64.calls (K : Nat) (a0 : ByteArray) (a1 : Int) (a2 : Int) (a3 : Bool)  (r : Int × Bool) (w : World)  (h : fields_get_uint64.f K a0 a1 a2 a3 = some r) :
    Calls Tryd.prog 68 #[.string a0, .int .i64 a1, .int .i64 a2, .bool a3] w (fun e W' => e = .returned (.tuple #[.int .u64 r.1, .bool r.2]) ∧ Wd w W' [] [] ) := by
  refine sxstart (n := 52) (l := [(0, .string a0), (1, .int .i64 a1), (2, .int .i64 a2), (3, .bool a3)]) Tryd.func68 rfl rfl (Nat.le_of_ble_eq_true (by kernel_rfl)) (subsA_cons rfl (subsA_cons rfl (subsA_cons rfl (subsA_cons rfl (subsA_nil _))))) ?_
  intro a ha
  have HW := Wd.refl w
  unfold fields_get_uint64.f at h
  refine wp_seq_k (fun K1058 hK1059 => ?_)
  refine wp_region_lit ?_
  refine stepp ha 8 (.int .u64 0) (by kernel_rfl) (by kernel_rfl) ?_; clear ha a; intro a ha
  refine stepp ha 9 (.bool false) (by kernel_rfl) (by kernel_rfl) ?_; clear ha a; intro a ha
  refine endl ?_
  refine thenN (hK1059 _ _ ?_); clear hK1059
  refine wp_seq_k (fun K1060 hK1061 => ?_)
  refine wp_seq_k (fun K1062 hK1063 => ?_)
  refine wp_region_lit ?_
  refine stepp ha 13 (.int .i64 a2) (by kernel_rfl) (by kernel_rfl) ?_; clear ha a; intro a ha
  refine stepp ha 14 (.bool (decide (a2 < 1))) (by kernel_rfl) (by kernel_rfl) ?_; clear ha a; intro a ha
  refine stepp ha 15 (.bool (decide (a2 < 1))) (by kernel_rfl) (by kernel_rfl) ?_; clear ha a; intro a ha
  by_cases hp1064 : a2 < 1
  · skip
    replace h := ite_pos' h hp1064
    replace ha := ha.bool 15 (by kernel_rfl) (decide_eq_true hp1064)
    refine stepo ha 16 (by kernel_rfl) ?_; clear ha a; intro a ha
    refine stepo ha 17 (by kernel_rfl) ?_; clear ha a; intro a ha
    refine stepp ha 18 (.bool true) (by kernel_rfl) (by kernel_rfl) ?_; clear ha a; intro a ha
    refine stepp ha 19 (.bool true) (by kernel_rfl) (by kernel_rfl) ?_; clear ha a; intro a ha
    refine stepo ha 20 (by kernel_rfl) ?_; clear ha a; intro a ha
    refine stepo ha 21 (by kernel_rfl) ?_; clear ha a; intro a ha
    refine stepp ha 22 (.bool true) (by kernel_rfl) (by kernel_rfl) ?_; clear ha a; intro a ha
    refine stepp ha 23 (.bool true) (by kernel_rfl) (by kernel_rfl) ?_; clear ha a; intro a ha
    refine stepo ha 24 (by kernel_rfl) ?_; clear ha a; intro a ha
    refine stepo ha 25 (by kernel_rfl) ?_; clear ha a; intro a ha
    refine stepo ha 26 (by kernel_rfl) ?_; clear ha a; intro a ha
    refine stepo ha 27 (by kernel_rfl) ?_; clear ha a; intro a ha
    refine stepo ha 28 (by kernel_rfl) ?_; clear ha a; intro a ha
    refine stepo ha 29 (by kernel_rfl) ?_; clear ha a; intro a ha
    refine stepp ha 30 (.bool true) (by kernel_rfl) (by kernel_rfl) ?_; clear ha a; intro a ha
    refine endl ?_
    refine thenN (hK1063 _ _ ?_); clear hK1063
    refine condT ha (by kernel_rfl) (by kernel_rfl) (t := true) (rfl) ?_
    refine wp_seq_k (fun K1067 hK1068 => ?_)
    refine wp_region_lit ?_
    refine stepp ha 8 (.int .u64 0) (by kernel_rfl) (by kernel_rfl) ?_; clear ha a; intro a ha
    refine stepp ha 9 (.bool false) (by kernel_rfl) (by kernel_rfl) ?_; clear ha a; intro a ha
    refine endl ?_
    refine thenN (hK1068 _ _ ?_); clear hK1068
    refine wp_ret ?_
    refine thenR ?_
    obtain rfl := Option.some.inj h
    exact finv ha _ _ rfl (.tmp (v := .int .u64 0) (by kernel_rfl) (.tmp (v := .bool false) (by kernel_rfl) .nil)) (.tuple #[.int .u64 0, .bool false]) rfl ⟨rfl, HW.pick [] [] (by decide) (by decide) rfl (by kernel_rfl)⟩
  · skip
    replace h := ite_neg' h hp1064
    replace ha := ha.bool 15 (by kernel_rfl) (decide_eq_false hp1064)
    refine stepp ha 16 (.int .i64 a2) (by kernel_rfl) (by kernel_rfl) ?_; clear ha a; intro a ha
    refine stepp ha 17 (.bool (decide (a2 > 8))) (by kernel_rfl) (by kernel_rfl) ?_; clear ha a; intro a ha
    refine stepp ha 18 (.bool (decide (a2 > 8))) (by kernel_rfl) (by kernel_rfl) ?_; clear ha a; intro a ha
    refine stepp ha 19 (.bool (decide (a2 > 8))) (by kernel_rfl) (by kernel_rfl) ?_; clear ha a; intro a ha
    by_cases hp1065 : a2 > 8
    · skip
      replace h := ite_pos' h hp1065
      replace ha := ha.bool 19 (by kernel_rfl) (decide_eq_true hp1065)
      refine stepo ha 20 (by kernel_rfl) ?_; clear ha a; intro a ha
      refine stepo ha 21 (by kernel_rfl) ?_; clear ha a; intro a ha
      refine stepp ha 22 (.bool true) (by kernel_rfl) (by kernel_rfl) ?_; clear ha a; intro a ha
      refine stepp ha 23 (.bool true) (by kernel_rfl) (by kernel_rfl) ?_; clear ha a; intro a ha
      refine stepo ha 24 (by kernel_rfl) ?_; clear ha a; intro a ha
      refine stepo ha 25 (by kernel_rfl) ?_; clear ha a; intro a ha
      refine stepo ha 26 (by kernel_rfl) ?_; clear ha a; intro a ha
      refine stepo ha 27 (by kernel_rfl) ?_; clear ha a; intro a ha
      refine stepo ha 28 (by kernel_rfl) ?_; clear ha a; intro a ha
      refine stepo ha 29 (by kernel_rfl) ?_; clear ha a; intro a ha
      refine stepp ha 30 (.bool true) (by kernel_rfl) (by kernel_rfl) ?_; clear ha a; intro a ha
      refine endl ?_
      refine thenN (hK1063 _ _ ?_); clear hK1063
      refine condT ha (by kernel_rfl) (by kernel_rfl) (t := true) (rfl) ?_
      refine wp_seq_k (fun K1069 hK1070 => ?_)
      refine wp_region_lit ?_
      refine stepp ha 8 (.int .u64 0) (by kernel_rfl) (by kernel_rfl) ?_; clear ha a; intro a ha
      refine stepp ha 9 (.bool false) (by kernel_rfl) (by kernel_rfl) ?_; clear ha a; intro a ha
      refine endl ?_
      refine thenN (hK1070 _ _ ?_); clear hK1070
      refine wp_ret ?_
      refine thenR ?_
      obtain rfl := Option.some.inj h
      exact finv ha _ _ rfl (.tmp (v := .int .u64 0) (by kernel_rfl) (.tmp (v := .bool false) (by kernel_rfl) .nil)) (.tuple #[.int .u64 0, .bool false]) rfl ⟨rfl, HW.pick [] [] (by decide) (by decide) rfl (by kernel_rfl)⟩
    · skip
      replace h := ite_neg' h hp1065
      replace ha := ha.bool 19 (by kernel_rfl) (decide_eq_false hp1065)
      refine stepp ha 20 (.int .i64 a1) (by kernel_rfl) (by kernel_rfl) ?_; clear ha a; intro a ha
      refine stepp ha 21 (.bool (decide (a1 < 0))) (by kernel_rfl) (by kernel_rfl) ?_; clear ha a; intro a ha
      refine stepp ha 22 (.bool (decide (a1 < 0))) (by kernel_rfl) (by kernel_rfl) ?_; clear ha a; intro a ha
      refine stepp ha 23 (.bool (decide (a1 < 0))) (by kernel_rfl) (by kernel_rfl) ?_; clear ha a; intro a ha
      by_cases hp1066 : a1 < 0
      · skip
        replace h := ite_pos' h hp1066
        replace ha := ha.bool 23 (by kernel_rfl) (decide_eq_true hp1066)
        refine stepo ha 24 (by kernel_rfl) ?_; clear ha a; intro a ha
        refine stepo ha 25 (by kernel_rfl) ?_; clear ha a; intro a ha
        refine stepo ha 26 (by kernel_rfl) ?_; clear ha a; intro a ha
        refine stepo ha 27 (by kernel_rfl) ?_; clear ha a; intro a ha
        refine stepo ha 28 (by kernel_rfl) ?_; clear ha a; intro a ha
        refine stepo ha 29 (by kernel_rfl) ?_; clear ha a; intro a ha
        refine stepp ha 30 (.bool true) (by kernel_rfl) (by kernel_rfl) ?_; clear ha a; intro a ha
        refine endl ?_
        refine thenN (hK1063 _ _ ?_); clear hK1063
        refine condT ha (by kernel_rfl) (by kernel_rfl) (t := true) (rfl) ?_
        refine wp_seq_k (fun K1071 hK1072 => ?_)
        refine wp_region_lit ?_
        refine stepp ha 8 (.int .u64 0) (by kernel_rfl) (by kernel_rfl) ?_; clear ha a; intro a ha
        refine stepp ha 9 (.bool false) (by kernel_rfl) (by kernel_rfl) ?_; clear ha a; intro a ha
        refine endl ?_
        refine thenN (hK1072 _ _ ?_); clear hK1072
        refine wp_ret ?_
        refine thenR ?_
        obtain rfl := Option.some.inj h
        exact finv ha _ _ rfl (.tmp (v := .int .u64 0) (by kernel_rfl) (.tmp (v := .bool false) (by kernel_rfl) .nil)) (.tuple #[.int .u64 0, .bool false]) rfl ⟨rfl, HW.pick [] [] (by decide) (by decide) rfl (by kernel_rfl)⟩
      · skip
        replace h := ite_neg' h hp1066
        replace ha := ha.bool 23 (by kernel_rfl) (decide_eq_false hp1066)
        refine stepp ha 24 (.int .i64 a1) (by kernel_rfl) (by kernel_rfl) ?_; clear ha a; intro a ha
        refine stepp ha 25 (.string a0) (by kernel_rfl) (by kernel_rfl) ?_; clear ha a; intro a ha
        refine stepp ha 26 (.int .i64 (a0.size : Int)) (by kernel_rfl) (by kernel_rfl) ?_; clear ha a; intro a ha
        refine stepp ha 27 (.int .i64 a2) (by kernel_rfl) (by kernel_rfl) ?_; clear ha a; intro a ha
        refine stepp ha 28 (.int .i64 (IntKind.wrap .i64 ((a0.size : Int) - a2))) (by kernel_rfl) (by kernel_rfl) ?_; clear ha a; intro a ha
        refine stepp ha 29 (.bool (decide (a1 > (IntKind.wrap .i64 ((a0.size : Int) - a2))))) (by kernel_rfl) (by kernel_rfl) ?_; clear ha a; intro a ha
        refine stepp ha 30 (.bool (decide (a1 > (IntKind.wrap .i64 ((a0.size : Int) - a2))))) (by kernel_rfl) (by kernel_rfl) ?_; clear ha a; intro a ha
        refine endl ?_
        refine thenN (hK1063 _ _ ?_); clear hK1063
        by_cases hp1073 : a1 > (IntKind.wrap .i64 ((a0.size : Int) - a2))
        · skip
          replace h := ite_pos' h hp1073
          refine condT ha (by kernel_rfl) (by kernel_rfl) (t := decide (a1 > (IntKind.wrap .i64 ((a0.size : Int) - a2)))) (decide_eq_true hp1073) ?_
          refine wp_seq_k (fun K1074 hK1075 => ?_)
          refine wp_region_lit ?_
          refine stepp ha 8 (.int .u64 0) (by kernel_rfl) (by kernel_rfl) ?_; clear ha a; intro a ha
          refine stepp ha 9 (.bool false) (by kernel_rfl) (by kernel_rfl) ?_; clear ha a; intro a ha
          refine endl ?_
          refine thenN (hK1075 _ _ ?_); clear hK1075
          refine wp_ret ?_
          refine thenR ?_
          obtain rfl := Option.some.inj h
          exact finv ha _ _ rfl (.tmp (v := .int .u64 0) (by kernel_rfl) (.tmp (v := .bool false) (by kernel_rfl) .nil)) (.tuple #[.int .u64 0, .bool false]) rfl ⟨rfl, HW.pick [] [] (by decide) (by decide) rfl (by kernel_rfl)⟩
        · skip
          replace h := ite_neg' h hp1073
          refine condF ha (by kernel_rfl) (by kernel_rfl) (t := decide (a1 > (IntKind.wrap .i64 ((a0.size : Int) - a2)))) (decide_eq_false hp1073) ?_
          refine wp_skip ?_
          refine thenN (hK1061 _ _ ?_); clear hK1061
          refine wp_seq_k (fun K1076 hK1077 => ?_)
          refine wp_region_lit ?_
          refine stepp ha 10 (.int .u64 0) (by kernel_rfl) (by kernel_rfl) ?_; clear ha a; intro a ha
          refine endl ?_
          refine thenN (hK1077 _ _ ?_); clear hK1077
          refine wp_seq_k (fun K1078 hK1079 => ?_)
          refine wp_seq_k (fun K1080 hK1081 => ?_)
          refine wp_region_lit ?_
          refine stepp ha 31 (.int .i64 a2) (by kernel_rfl) (by kernel_rfl) ?_; clear ha a; intro a ha
          refine stepp ha 32 (.bool a3) (by kernel_rfl) (by kernel_rfl) ?_; clear ha a; intro a ha
          obtain ⟨t1082, ht1083, h_⟩ := bind_some' h; clear h; have h := h_; clear h_
          refine stepc ha 33 (by kernel_rfl) (by kernel_rfl) (fields_shifts.calls K a2 a3 t1082 _ ht1083) ?_; clear ha a; rintro e W1087 ⟨A1084, c1085, rfl, HX1088⟩
          refine ⟨_, rfl, ?_⟩; intro a ha; replace HW := HW.callw HX1088; clear HX1088
          refine stepp ha 34 (.int .i64 (t1082.length : Int)) (by kernel_rfl) (by kernel_rfl) ?_; clear ha a; intro a ha
          refine stepp ha 35 (.int .i64 0) (by kernel_rfl) (by kernel_rfl) ?_; clear ha a; intro a ha
          refine endl ?_
          refine thenN (hK1081 _ _ ?_); clear hK1081
          refine wp_block ?_
          refine loopk (fun k => fun a W1128 => ∃ (x1126 : Int), ∃ (x1127 : Int), fields_get_uint64.l0 K a0 a1 t1082 k x1126 x1127 = some r ∧ Has 52 [(0, .string a0), (1, .int .i64 a1), (10, .int .u64 x1126), (33, .slice A1084 t1082.length c1085), (34, .int .i64 (t1082.length : Int)), (35, .int .i64 x1127)] a ∧ Wd w W1128 [] [⟨3, 1, .slice A1084 t1082.length c1085, t1082.length, encs (encI .i64) t1082⟩]) K ?_ ?_
          · skip
            exact ⟨0, 0, h, ha.sub (subs_cons (by kernel_rfl) (subs_cons (by kernel_rfl) (subs_cons (by kernel_rfl) (subs_cons (by kernel_rfl) (subs_cons (by kernel_rfl) (subs_cons (by kernel_rfl) (subs_nil _))))))), HW.pick [] [0] (by decide) (by decide) (by kernel_rfl) (by kernel_rfl)⟩
          · skip
            intro k a W1128 hI
            obtain ⟨x1126, x1127, h, ha, HW⟩ := hI
            cases k with
            | zero => exact (none_some (show none = some r from h)).elim
            | succ k1129 =>
              replace h : fields_get_uint64.b0 K a0 a1 t1082 (fields_get_uint64.l0 K a0 a1 t1082 k1129) x1126 x1127 = some r := h
              obtain ⟨again1125, hag1130⟩ : ∃ g_, g_ = fields_get_uint64.l0 K a0 a1 t1082 k1129 := ⟨_, rfl⟩
              rw [← hag1130] at h
              unfold fields_get_uint64.b0 at h
              refine wp_seq_k (fun K1131 hK1132 => ?_)
              refine wp_region_lit ?_
              refine stepp ha 36 (.bool (decide (x1127 < (t1082.length : Int)))) (by kernel_rfl) (by kernel_rfl) ?_; clear ha a; intro a ha
              refine endl ?_
              refine thenN (hK1132 _ _ ?_); clear hK1132
              refine wp_seq_k (fun K1133 hK1134 => ?_)
              by_cases hp1135 : x1127 < (t1082.length : Int)
              · skip
                replace h := ite_pos' h hp1135
                refine condT ha (by kernel_rfl) (by kernel_rfl) (t := decide (x1127 < (t1082.length : Int))) (decide_eq_true hp1135) ?_
                refine wp_skip ?_
                refine thenN (hK1134 _ _ ?_); clear hK1134
                refine wp_seq_k (fun K1136 hK1137 => ?_)
                refine wp_block ?_
                refine wp_seq_k (fun K1138 hK1139 => ?_)
                refine wp_region_lit ?_
                refine stepp ha 37 (.int .i64 x1127) (by kernel_rfl) (by kernel_rfl) ?_; clear ha a; intro a ha
                obtain ⟨hA1140, h_⟩ := asrt_some h; clear h; have h := h_; clear h_
                refine stepie (encI .i64) (0 : Int) ha 38 (fun _ => rfl) (v := .slice A1084 t1082.length c1085) (xs := t1082) (HW.rdo (i := 0) (q := ⟨3, 1, .slice A1084 t1082.length c1085, t1082.length, encs (encI .i64) t1082⟩) (by kernel_rfl)) 115 3 (.tmp 33) (.tmp 35) .i64 x1127 rfl (by kernel_rfl) (by kernel_rfl) (by kernel_rfl) (by kernel_rfl) hA1140 (show (x1127 : Int) < ((t1082).length : Int) from hp1135) (by kernel_rfl) ?_; clear ha a; intro b1141 off1142 a hC1143 ha
                refine stepl ha 39 hC1143 3 0 (.tmp 38) (.int .i64 (rdL (0 : Int) t1082 x1127)) rfl (by kernel_rfl) (by kernel_rfl) (by kernel_rfl) ?_; clear ha a; intro a ha
                refine stepp ha 11 (.int .i64 x1127) (by kernel_rfl) (by kernel_rfl) ?_; clear ha a; intro a ha
                refine stepp ha 12 (.int .i64 (rdL (0 : Int) t1082 x1127)) (by kernel_rfl) (by kernel_rfl) ?_; clear ha a; intro a ha
                refine endl ?_
                refine thenN (hK1139 _ _ ?_); clear hK1139
                refine wp_region_lit ?_
                refine stepp ha 40 (.int .u64 x1126) (by kernel_rfl) (by kernel_rfl) ?_; clear ha a; intro a ha
                refine stepp ha 41 (.string a0) (by kernel_rfl) (by kernel_rfl) ?_; clear ha a; intro a ha
                refine stepp ha 42 (.int .i64 a1) (by kernel_rfl) (by kernel_rfl) ?_; clear ha a; intro a ha
                refine stepp ha 43 (.int .i64 x1127) (by kernel_rfl) (by kernel_rfl) ?_; clear ha a; intro a ha
                refine stepp ha 44 (.int .i64 (IntKind.wrap .i64 (a1 + x1127))) (by kernel_rfl) (by kernel_rfl) ?_; clear ha a; intro a ha
                obtain ⟨hA1144, h_⟩ := asrt_some h; clear h; have h := h_; clear h_
                obtain ⟨hA1145, h_⟩ := asrt_some h; clear h; have h := h_; clear h_
                refine stepsi ha 45 9 (.tmp 41) (.tmp 44) a0 .i64 (IntKind.wrap .i64 (a1 + x1127)) rfl (by kernel_rfl) (by kernel_rfl) (by kernel_rfl) hA1144 (show (IntKind.wrap .i64 (a1 + x1127) : Int) < ((a0).size : Int) from hA1145) (by kernel_rfl) ?_; clear ha a; intro a ha
                refine stepp ha 46 (.int .u64 (IntKind.wrap .u64 (bt a0 (IntKind.wrap .i64 (a1 + x1127))))) (by kernel_rfl) (by kernel_rfl) ?_; clear ha a; intro a ha
                refine stepp ha 47 (.int .i64 (rdL (0 : Int) t1082 x1127)) (by kernel_rfl) (by kernel_rfl) ?_; clear ha a; intro a ha
                obtain ⟨hA1146, h_⟩ := asrt_some h; clear h; have h := h_; clear h_
                refine stepshl ha 48 45 3 (.tmp 46) (.tmp 47) .u64 .i64 (IntKind.wrap .u64 (bt a0 (IntKind.wrap .i64 (a1 + x1127)))) (rdL (0 : Int) t1082 x1127) rfl (by kernel_rfl) (by kernel_rfl) hA1146 (by kernel_rfl) ?_; clear ha a; intro a ha
                refine stepp ha 49 (.int .u64 (bor .u64 x1126 (sshl .u64 (IntKind.wrap .u64 (bt a0 (IntKind.wrap .i64 (a1 + x1127)))) (rdL (0 : Int) t1082 x1127)))) (by kernel_rfl) (by kernel_rfl) ?_; clear ha a; intro a ha
                refine stepp ha 10 (.int .u64 (bor .u64 x1126 (sshl .u64 (IntKind.wrap .u64 (bt a0 (IntKind.wrap .i64 (a1 + x1127)))) (rdL (0 : Int) t1082 x1127)))) (by kernel_rfl) (by kernel_rfl) ?_; clear ha a; intro a ha
                refine endl ?_
                refine blkN ?_
                refine thenN (hK1137 _ _ ?_); clear hK1137
                refine wp_region_lit ?_
                refine stepp ha 50 (.int .i64 (IntKind.wrap .i64 (x1127 + 1))) (by kernel_rfl) (by kernel_rfl) ?_; clear ha a; intro a ha
                refine stepp ha 35 (.int .i64 (IntKind.wrap .i64 (x1127 + 1))) (by kernel_rfl) (by kernel_rfl) ?_; clear ha a; intro a ha
                refine endl ?_
                exact thenN ⟨k1129, Nat.lt_succ_self k1129, bor .u64 x1126 (sshl .u64 (IntKind.wrap .u64 (bt a0 (IntKind.wrap .i64 (a1 + x1127)))) (rdL (0 : Int) t1082 x1127)), IntKind.wrap .i64 (x1127 + 1), (by rw [← hag1130]; exact h), ha.sub (subs_cons (by kernel_rfl) (subs_cons (by kernel_rfl) (subs_cons (by kernel_rfl) (subs_cons (by kernel_rfl) (subs_cons (by kernel_rfl) (subs_cons (by kernel_rfl) (subs_nil _))))))), HW.pick [] [0] (by decide) (by decide) (by kernel_rfl) (by kernel_rfl)⟩
              · skip
                replace h := ite_neg' h hp1135
                refine condF ha (by kernel_rfl) (by kernel_rfl) (t := decide (x1127 < (t1082.length : Int))) (decide_eq_false hp1135) ?_
                refine wp_exit ?_
                refine thenE ?_
                refine thenE ?_
                refine inBlk ?_
                refine thenN (hK1079 _ _ ?_); clear hK1079
                refine wp_seq_k (fun K1147 hK1148 => ?_)
                refine wp_region_lit ?_
                refine stepp ha 51 (.int .u64 x1126) (by kernel_rfl) (by kernel_rfl) ?_; clear ha a; intro a ha
                refine stepp ha 8 (.int .u64 x1126) (by kernel_rfl) (by kernel_rfl) ?_; clear ha a; intro a ha
                refine stepp ha 9 (.bool true) (by kernel_rfl) (by kernel_rfl) ?_; clear ha a; intro a ha
                refine endl ?_
                refine thenN (hK1148 _ _ ?_); clear hK1148
                refine wp_ret ?_
                obtain rfl := Option.some.inj h
                exact finv ha _ _ rfl (.tmp (v := .int .u64 x1126) (by kernel_rfl) (.tmp (v := .bool true) (by kernel_rfl) .nil)) (.tuple #[.int .u64 x1126, .bool true]) rfl ⟨rfl, HW.pick [] [] (by decide) (by decide) rfl (by kernel_rfl)⟩
end Go.Proofs.YtceagilmillgfaaDoor.F
