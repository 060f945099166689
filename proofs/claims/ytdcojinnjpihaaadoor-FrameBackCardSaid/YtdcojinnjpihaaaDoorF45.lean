/- headgate/fields.shifts, headgate/fields.put[uint64], headgate/fields.PutBig, headgate/fields.Pad, headgate/fields.PutLittle, headgate/crc.More, headgate/crc.Sum, headgate/crc.Digest, headgate/frame.Put, headgate/frame.Sectors, headgate/fields.get[uint64], headgate/fields.Big, headgate/frame.want, strings.HasPrefix, headgate/crc.Right, strings.Trim, headgate/frame.got, headgate/frame.Get: plain functions, and that the calls come to what they say. No condition. -/
import Derived.Test.YtdcojinnjpihaaaDoorFT
import Derived.Test.YtdcojinnjpihaaaDoorXShelf
import Derived.Test.YtdcojinnjpihaaaDoorXPan2
import Derived.Test.YtdcojinnjpihaaaDoorXGet
namespace Go.Proofs.YtdcojinnjpihaaaDoor.F
open Go Go.RowKit Go.Proofs.YtdcojinnjpihaaaDoor.X
set_option linter.unusedVariables false
set_option linter.unusedSimpArgs false
/-! ### headgate/fields.shifts: function 45 -/
def fields_shifts.b0 (K : Nat) (a0 : Int) (a1 : Bool) (again78 : (List Int) → Int → Option (List Int)) (x79 : List Int) (x83 : Int) : Option (List Int) :=
  if x83 < a0 then (if a1 = true then (asrt (x79.length + ([IntKind.wrap .i64 (8 * (IntKind.wrap .i64 ((IntKind.wrap .i64 (a0 - 1)) - x83)))] : List Int).length ≤ 17592186044416) (again78 (x79 ++ ([IntKind.wrap .i64 (8 * (IntKind.wrap .i64 ((IntKind.wrap .i64 (a0 - 1)) - x83)))] : List Int)) (IntKind.wrap .i64 (x83 + 1)))) else (asrt (x79.length + ([IntKind.wrap .i64 (8 * x83)] : List Int).length ≤ 17592186044416) (again78 (x79 ++ ([IntKind.wrap .i64 (8 * x83)] : List Int)) (IntKind.wrap .i64 (x83 + 1))))) else (some x79)
def fields_shifts.l0 (K : Nat) (a0 : Int) (a1 : Bool) : Nat → (List Int) → Int → Option (List Int)
  | 0, _, _ => none
  | k_ + 1, x79, x83 => fields_shifts.b0 K a0 a1 (fields_shifts.l0 K a0 a1 k_) x79 x83
def fields_shifts.f (K : Nat) (a0 : Int) (a1 : Bool) : Option (List Int) :=
  fields_shifts.l0 K a0 a1 K ([] : List Int) 0
set_option maxRecDepth 100000 in
set_option maxHeartbeats 4000000 in
theorem fields_shifts.calls (K : Nat) (a0 : Int) (a1 : Bool)  (r : List Int) (w : World)  (h : fields_shifts.f K a0 a1 = some r) :
    Calls Tryd.prog 45 #[.int .i64 a0, .bool a1] w (fun e W' => ∃ A_0 c_0, e = .returned (.slice A_0 r.length c_0) ∧ Wd w W' [] [⟨3, 1, .slice A_0 r.length c_0, r.length, encs (encIK .i64) r⟩] ) := by
  refine sxstart (n := 27) (l := [(0, .int .i64 a0), (1, .bool a1)]) Tryd.func45 rfl rfl (Nat.le_of_ble_eq_true KR) (subsA_cons rfl (subsA_cons rfl (subsA_nil _))) ?_
  intro a ha
  have HW := Wd.refl w
  unfold fields_shifts.f at h
  refine wp_seq_k (fun K1 hK2 => ?_)
  refine wp_region_lit ?_
  refine stepp ha 4 (.slice none 0 0) KR KR ?_; clear ha a; intro a ha
  refine endl ?_
  refine thenN (hK2 _ _ ?_); clear hK2
  refine wp_seq_k (fun K3 hK4 => ?_)
  refine wp_region_lit ?_
  refine stepp ha 5 (.slice none 0 0) KR KR ?_; clear ha a; intro a ha
  refine endl ?_
  refine thenN (hK4 _ _ ?_); clear hK4
  refine wp_seq_k (fun K5 hK6 => ?_)
  refine wp_seq_k (fun K7 hK8 => ?_)
  refine wp_region_lit ?_
  refine stepp ha 7 (.int .i64 a0) KR KR ?_; clear ha a; intro a ha
  refine stepp ha 8 (.int .i64 0) KR KR ?_; clear ha a; intro a ha
  refine endl ?_
  refine thenN (hK8 _ _ ?_); clear hK8
  refine wp_block ?_
  refine loopk (fun k => fun a W84 => ∃ (x79 : List Int), ∃ A80, ∃ c81, ∃ (x83 : Int), fields_shifts.l0 K a0 a1 k x79 x83 = some r ∧ Has 27 [(0, .int .i64 a0), (1, .bool a1), (5, .slice A80 x79.length c81), (7, .int .i64 a0), (8, .int .i64 x83)] a ∧ Wd w W84 [] [⟨3, 1, .slice A80 x79.length c81, x79.length, encs (encIK .i64) x79⟩]) K ?_ ?_
  · skip
    replace HW := HW.nilo 3 1
    exact ⟨([] : List Int), none, 0, 0, h, ha.sub (subs_cons KR (subs_cons KR (subs_cons KR (subs_cons KR (subs_cons KR (subs_nil _)))))), HW.pick [] [0] (by decide) (by decide) KR KR⟩
  · skip
    intro k a W84 hI
    obtain ⟨x79, A80, c81, x83, h, ha, HW⟩ := hI
    cases k with
    | zero => exact (none_some (show none = some r from h)).elim
    | succ k85 =>
      replace h : fields_shifts.b0 K a0 a1 (fields_shifts.l0 K a0 a1 k85) x79 x83 = some r := h
      obtain ⟨again78, hag86⟩ : ∃ g_, g_ = fields_shifts.l0 K a0 a1 k85 := ⟨_, rfl⟩
      rw [← hag86] at h
      unfold fields_shifts.b0 at h
      refine wp_seq_k (fun K87 hK88 => ?_)
      refine wp_region_lit ?_
      refine stepp ha 9 (.bool (decide (x83 < a0))) KR KR ?_; clear ha a; intro a ha
      refine endl ?_
      refine thenN (hK88 _ _ ?_); clear hK88
      refine wp_seq_k (fun K89 hK90 => ?_)
      by_cases hp91 : x83 < a0
      · skip
        replace h := ite_pos' h hp91
        refine condT ha KR KR (t := decide (x83 < a0)) (decide_eq_true hp91) ?_
        refine wp_skip ?_
        refine thenN (hK90 _ _ ?_); clear hK90
        refine wp_seq_k (fun K92 hK93 => ?_)
        refine wp_block ?_
        refine wp_seq_k (fun K94 hK95 => ?_)
        refine wp_region_lit ?_
        refine stepp ha 10 (.int .i64 x83) KR KR ?_; clear ha a; intro a ha
        refine stepp ha 6 (.int .i64 x83) KR KR ?_; clear ha a; intro a ha
        refine endl ?_
        refine thenN (hK95 _ _ ?_); clear hK95
        refine wp_seq_k (fun K96 hK97 => ?_)
        refine wp_region_lit ?_
        refine stepp ha 11 (.bool a1) KR KR ?_; clear ha a; intro a ha
        refine endl ?_
        refine thenN (hK97 _ _ ?_); clear hK97
        by_cases hp98 : a1 = true
        · skip
          replace h := ite_pos' h hp98
          refine condT ha KR KR (t := a1) (hp98) ?_
          refine wp_region_lit ?_
          refine stepp ha 12 (.slice A80 x79.length c81) KR KR ?_; clear ha a; intro a ha
          refine stepp ha 13 (.int .i64 a0) KR KR ?_; clear ha a; intro a ha
          refine stepp ha 14 (.int .i64 (IntKind.wrap .i64 (a0 - 1))) KR KR ?_; clear ha a; intro a ha
          refine stepp ha 15 (.int .i64 x83) KR KR ?_; clear ha a; intro a ha
          refine stepp ha 16 (.int .i64 (IntKind.wrap .i64 ((IntKind.wrap .i64 (a0 - 1)) - x83))) KR KR ?_; clear ha a; intro a ha
          refine stepp ha 17 (.int .i64 (IntKind.wrap .i64 (8 * (IntKind.wrap .i64 ((IntKind.wrap .i64 (a0 - 1)) - x83))))) KR KR ?_; clear ha a; intro a ha
          refine stepbs ha HW 18 3 1 1 #[.int .i64 (IntKind.wrap .i64 (8 * (IntKind.wrap .i64 ((IntKind.wrap .i64 (a0 - 1)) - x83))))] [.int .i64 (IntKind.wrap .i64 (8 * (IntKind.wrap .i64 ((IntKind.wrap .i64 (a0 - 1)) - x83))))] (by decide) KR KR KR KR ?_; clear ha HW a; intro b99 a W100 HW ha
          replace HW : Wd w W100 [] [⟨3, 1, .slice (some ⟨b99, 0, none⟩) ([IntKind.wrap .i64 (8 * (IntKind.wrap .i64 ((IntKind.wrap .i64 (a0 - 1)) - x83)))] : List Int).length 1, ([IntKind.wrap .i64 (8 * (IntKind.wrap .i64 ((IntKind.wrap .i64 (a0 - 1)) - x83)))] : List Int).length, encs (encIK .i64) ([IntKind.wrap .i64 (8 * (IntKind.wrap .i64 ((IntKind.wrap .i64 (a0 - 1)) - x83)))] : List Int)⟩, ⟨3, 1, .slice A80 x79.length c81, x79.length, encs (encIK .i64) x79⟩] := HW
          replace ha := ha.turn 18 (v := .slice (some ⟨b99, 0, none⟩) ([IntKind.wrap .i64 (8 * (IntKind.wrap .i64 ((IntKind.wrap .i64 (a0 - 1)) - x83)))] : List Int).length 1) KR rfl
          obtain ⟨hA102, h_⟩ := asrt_some h; clear h; have h := h_; clear h_
          refine stepape (encIK .i64) ha HW 19 1 83 3 (.tmp 12) (.tmp 18) (.int .i64 0) 1 8 (.slice A80 x79.length c81) x79 (.slice (some ⟨b99, 0, none⟩) ([IntKind.wrap .i64 (8 * (IntKind.wrap .i64 ((IntKind.wrap .i64 (a0 - 1)) - x83)))] : List Int).length 1) ([IntKind.wrap .i64 (8 * (IntKind.wrap .i64 ((IntKind.wrap .i64 (a0 - 1)) - x83)))] : List Int) KR rfl KR KR (HW.rdo (i := 0) (q := ⟨3, 1, .slice (some ⟨b99, 0, none⟩) ([IntKind.wrap .i64 (8 * (IntKind.wrap .i64 ((IntKind.wrap .i64 (a0 - 1)) - x83)))] : List Int).length 1, ([IntKind.wrap .i64 (8 * (IntKind.wrap .i64 ((IntKind.wrap .i64 (a0 - 1)) - x83)))] : List Int).length, encs (encIK .i64) ([IntKind.wrap .i64 (8 * (IntKind.wrap .i64 ((IntKind.wrap .i64 (a0 - 1)) - x83)))] : List Int)⟩) KR) (fun _ => rfl) KR KR KR (by decide) (by have := hA102; unfold maxLen; omega) (by have := hA102; omega) KR ?_; clear ha HW a; intro A103 c104 a W105 HW ha
          refine stepp ha 5 (.slice A103 (x79 ++ ([IntKind.wrap .i64 (8 * (IntKind.wrap .i64 ((IntKind.wrap .i64 (a0 - 1)) - x83)))] : List Int)).length c104) KR KR ?_; clear ha a; intro a ha
          refine endl ?_
          refine blkN ?_
          refine thenN (hK93 _ _ ?_); clear hK93
          refine wp_region_lit ?_
          refine stepp ha 25 (.int .i64 (IntKind.wrap .i64 (x83 + 1))) KR KR ?_; clear ha a; intro a ha
          refine stepp ha 8 (.int .i64 (IntKind.wrap .i64 (x83 + 1))) KR KR ?_; clear ha a; intro a ha
          refine endl ?_
          exact thenN ⟨k85, Nat.lt_succ_self k85, x79 ++ ([IntKind.wrap .i64 (8 * (IntKind.wrap .i64 ((IntKind.wrap .i64 (a0 - 1)) - x83)))] : List Int), A103, c104, IntKind.wrap .i64 (x83 + 1), (by rw [← hag86]; exact h), ha.sub (subs_cons KR (subs_cons KR (subs_cons KR (subs_cons KR (subs_cons KR (subs_nil _)))))), HW.pick [] [1] (by decide) (by decide) KR KR⟩
        · skip
          replace h := ite_neg' h hp98
          refine condF ha KR KR (t := a1) (bool_f hp98) ?_
          refine wp_region_lit ?_
          refine stepp ha 20 (.slice A80 x79.length c81) KR KR ?_; clear ha a; intro a ha
          refine stepp ha 21 (.int .i64 x83) KR KR ?_; clear ha a; intro a ha
          refine stepp ha 22 (.int .i64 (IntKind.wrap .i64 (8 * x83))) KR KR ?_; clear ha a; intro a ha
          refine stepbs ha HW 23 3 1 1 #[.int .i64 (IntKind.wrap .i64 (8 * x83))] [.int .i64 (IntKind.wrap .i64 (8 * x83))] (by decide) KR KR KR KR ?_; clear ha HW a; intro b108 a W109 HW ha
          replace HW : Wd w W109 [] [⟨3, 1, .slice (some ⟨b108, 0, none⟩) ([IntKind.wrap .i64 (8 * x83)] : List Int).length 1, ([IntKind.wrap .i64 (8 * x83)] : List Int).length, encs (encIK .i64) ([IntKind.wrap .i64 (8 * x83)] : List Int)⟩, ⟨3, 1, .slice A80 x79.length c81, x79.length, encs (encIK .i64) x79⟩] := HW
          replace ha := ha.turn 23 (v := .slice (some ⟨b108, 0, none⟩) ([IntKind.wrap .i64 (8 * x83)] : List Int).length 1) KR rfl
          obtain ⟨hA111, h_⟩ := asrt_some h; clear h; have h := h_; clear h_
          refine stepape (encIK .i64) ha HW 24 1 83 3 (.tmp 20) (.tmp 23) (.int .i64 0) 1 8 (.slice A80 x79.length c81) x79 (.slice (some ⟨b108, 0, none⟩) ([IntKind.wrap .i64 (8 * x83)] : List Int).length 1) ([IntKind.wrap .i64 (8 * x83)] : List Int) KR rfl KR KR (HW.rdo (i := 0) (q := ⟨3, 1, .slice (some ⟨b108, 0, none⟩) ([IntKind.wrap .i64 (8 * x83)] : List Int).length 1, ([IntKind.wrap .i64 (8 * x83)] : List Int).length, encs (encIK .i64) ([IntKind.wrap .i64 (8 * x83)] : List Int)⟩) KR) (fun _ => rfl) KR KR KR (by decide) (by have := hA111; unfold maxLen; omega) (by have := hA111; omega) KR ?_; clear ha HW a; intro A112 c113 a W114 HW ha
          refine stepp ha 5 (.slice A112 (x79 ++ ([IntKind.wrap .i64 (8 * x83)] : List Int)).length c113) KR KR ?_; clear ha a; intro a ha
          refine endl ?_
          refine blkN ?_
          refine thenN (hK93 _ _ ?_); clear hK93
          refine wp_region_lit ?_
          refine stepp ha 25 (.int .i64 (IntKind.wrap .i64 (x83 + 1))) KR KR ?_; clear ha a; intro a ha
          refine stepp ha 8 (.int .i64 (IntKind.wrap .i64 (x83 + 1))) KR KR ?_; clear ha a; intro a ha
          refine endl ?_
          exact thenN ⟨k85, Nat.lt_succ_self k85, x79 ++ ([IntKind.wrap .i64 (8 * x83)] : List Int), A112, c113, IntKind.wrap .i64 (x83 + 1), (by rw [← hag86]; exact h), ha.sub (subs_cons KR (subs_cons KR (subs_cons KR (subs_cons KR (subs_cons KR (subs_nil _)))))), HW.pick [] [1] (by decide) (by decide) KR KR⟩
      · skip
        replace h := ite_neg' h hp91
        refine condF ha KR KR (t := decide (x83 < a0)) (decide_eq_false hp91) ?_
        refine wp_exit ?_
        refine thenE ?_
        refine thenE ?_
        refine inBlk ?_
        refine thenN (hK6 _ _ ?_); clear hK6
        refine wp_seq_k (fun K117 hK118 => ?_)
        refine wp_region_lit ?_
        refine stepp ha 26 (.slice A80 x79.length c81) KR KR ?_; clear ha a; intro a ha
        refine stepp ha 4 (.slice A80 x79.length c81) KR KR ?_; clear ha a; intro a ha
        refine endl ?_
        refine thenN (hK118 _ _ ?_); clear hK118
        refine wp_ret ?_
        obtain rfl := Option.some.inj h
        exact finv ha _ _ rfl (.tmp (v := .slice A80 x79.length c81) KR .nil) (.slice A80 x79.length c81) rfl ⟨A80, c81, rfl, HW.pick [] [0] (by decide) (by decide) rfl KR⟩
/-! ### headgate/fields.put[uint64]: function 33 -/
def fields_put_uint64.b0 (K : Nat) (a0 : Int) (t137 : List Int) (again198 : (List Int) → Int → Option ByteArray) (x199 : List Int) (x203 : Int) : Option ByteArray :=
  if x203 < (t137.length : Int) then (asrt (0 ≤ x203) (asrt (0 ≤ (rdL (0 : Int) t137 x203)) (asrt (x199.length + ([IntKind.wrap .u8 (sshr .u64 a0 (rdL (0 : Int) t137 x203))] : List Int).length ≤ 140737488355328) (again198 (x199 ++ ([IntKind.wrap .u8 (sshr .u64 a0 (rdL (0 : Int) t137 x203))] : List Int)) (IntKind.wrap .i64 (x203 + 1)))))) else (some (strOfNums x199))
def fields_put_uint64.l0 (K : Nat) (a0 : Int) (t137 : List Int) : Nat → (List Int) → Int → Option ByteArray
  | 0, _, _ => none
  | k_ + 1, x199, x203 => fields_put_uint64.b0 K a0 t137 (fields_put_uint64.l0 K a0 t137 k_) x199 x203
def fields_put_uint64.f (K : Nat) (a0 : Int) (a1 : Int) (a2 : Bool) : Option ByteArray :=
  if a1 < 1 then (some (⟨#[]⟩ : ByteArray)) else (if a1 > 8 then (some (⟨#[]⟩ : ByteArray)) else ((fields_shifts.f K a1 a2).bind fun t137 => (fields_put_uint64.l0 K a0 t137 K ([] : List Int) 0)))
set_option maxRecDepth 100000 in
set_option maxHeartbeats 4000000 in
theorem fields_put_uint64.calls (K : Nat) (a0 : Int) (a1 : Int) (a2 : Bool)  (r : ByteArray) (w : World)  (h : fields_put_uint64.f K a0 a1 a2 = some r) :
    Calls Tryd.prog 33 #[.int .u64 a0, .int .i64 a1, .bool a2] w (fun e W' => e = .returned (.string r) ∧ Wd w W' [] [] ) := by
  refine sxstart (n := 34) (l := [(0, .int .u64 a0), (1, .int .i64 a1), (2, .bool a2)]) Tryd.func33 rfl rfl (Nat.le_of_ble_eq_true KR) (subsA_cons rfl (subsA_cons rfl (subsA_cons rfl (subsA_nil _)))) ?_
  intro a ha
  have HW := Wd.refl w
  unfold fields_put_uint64.f at h
  refine wp_seq_k (fun K119 hK120 => ?_)
  refine wp_region_lit ?_
  refine stepp ha 6 (.string (⟨#[]⟩ : ByteArray)) KR KR ?_; clear ha a; intro a ha
  refine endl ?_
  refine thenN (hK120 _ _ ?_); clear hK120
  refine wp_seq_k (fun K121 hK122 => ?_)
  refine wp_seq_k (fun K123 hK124 => ?_)
  refine wp_region_lit ?_
  refine stepp ha 10 (.int .i64 a1) KR KR ?_; clear ha a; intro a ha
  refine stepp ha 11 (.bool (decide (a1 < 1))) KR KR ?_; clear ha a; intro a ha
  refine stepp ha 12 (.bool (decide (a1 < 1))) KR KR ?_; clear ha a; intro a ha
  by_cases hp125 : a1 < 1
  · skip
    replace h := ite_pos' h hp125
    replace ha := ha.bool 12 KR (decide_eq_true hp125)
    refine stepo ha 13 KR ?_; clear ha a; intro a ha
    refine stepo ha 14 KR ?_; clear ha a; intro a ha
    refine stepp ha 15 (.bool true) KR KR ?_; clear ha a; intro a ha
    refine endl ?_
    refine thenN (hK124 _ _ ?_); clear hK124
    refine condT ha KR KR (t := true) (rfl) ?_
    refine wp_seq_k (fun K126 hK127 => ?_)
    refine wp_region_lit ?_
    refine stepp ha 6 (.string (⟨#[]⟩ : ByteArray)) KR KR ?_; clear ha a; intro a ha
    refine endl ?_
    refine thenN (hK127 _ _ ?_); clear hK127
    refine wp_ret ?_
    refine thenR ?_
    obtain rfl := Option.some.inj h
    exact finv ha _ _ rfl (.tmp (v := .string (⟨#[]⟩ : ByteArray)) KR .nil) (.string (⟨#[]⟩ : ByteArray)) rfl ⟨rfl, HW.pick [] [] (by decide) (by decide) rfl KR⟩
  · skip
    replace h := ite_neg' h hp125
    replace ha := ha.bool 12 KR (decide_eq_false hp125)
    refine stepp ha 13 (.int .i64 a1) KR KR ?_; clear ha a; intro a ha
    refine stepp ha 14 (.bool (decide (a1 > 8))) KR KR ?_; clear ha a; intro a ha
    refine stepp ha 15 (.bool (decide (a1 > 8))) KR KR ?_; clear ha a; intro a ha
    refine endl ?_
    refine thenN (hK124 _ _ ?_); clear hK124
    by_cases hp128 : a1 > 8
    · skip
      replace h := ite_pos' h hp128
      refine condT ha KR KR (t := decide (a1 > 8)) (decide_eq_true hp128) ?_
      refine wp_seq_k (fun K129 hK130 => ?_)
      refine wp_region_lit ?_
      refine stepp ha 6 (.string (⟨#[]⟩ : ByteArray)) KR KR ?_; clear ha a; intro a ha
      refine endl ?_
      refine thenN (hK130 _ _ ?_); clear hK130
      refine wp_ret ?_
      refine thenR ?_
      obtain rfl := Option.some.inj h
      exact finv ha _ _ rfl (.tmp (v := .string (⟨#[]⟩ : ByteArray)) KR .nil) (.string (⟨#[]⟩ : ByteArray)) rfl ⟨rfl, HW.pick [] [] (by decide) (by decide) rfl KR⟩
    · skip
      replace h := ite_neg' h hp128
      refine condF ha KR KR (t := decide (a1 > 8)) (decide_eq_false hp128) ?_
      refine wp_skip ?_
      refine thenN (hK122 _ _ ?_); clear hK122
      refine wp_seq_k (fun K131 hK132 => ?_)
      refine wp_region_lit ?_
      refine stepp ha 7 (.slice none 0 0) KR KR ?_; clear ha a; intro a ha
      refine endl ?_
      refine thenN (hK132 _ _ ?_); clear hK132
      refine wp_seq_k (fun K133 hK134 => ?_)
      refine wp_seq_k (fun K135 hK136 => ?_)
      refine wp_region_lit ?_
      refine stepp ha 16 (.int .i64 a1) KR KR ?_; clear ha a; intro a ha
      refine stepp ha 17 (.bool a2) KR KR ?_; clear ha a; intro a ha
      obtain ⟨t137, ht138, h_⟩ := bind_some' h; clear h; have h := h_; clear h_
      refine stepc ha 18 KR KR (fields_shifts.calls K a1 a2 t137 _ ht138) ?_; clear ha a; rintro e W142 ⟨A139, c140, rfl, HX143⟩
      refine ⟨_, rfl, ?_⟩; intro a ha; replace HW := HW.callw HX143; clear HX143
      refine stepp ha 19 (.int .i64 (t137.length : Int)) KR KR ?_; clear ha a; intro a ha
      refine stepp ha 20 (.int .i64 0) KR KR ?_; clear ha a; intro a ha
      refine endl ?_
      refine thenN (hK136 _ _ ?_); clear hK136
      refine wp_block ?_
      refine loopk (fun k => fun a W204 => ∃ (x199 : List Int), ∃ A200, ∃ c201, ∃ (x203 : Int), fields_put_uint64.l0 K a0 t137 k x199 x203 = some r ∧ Has 34 [(0, .int .u64 a0), (7, .slice A200 x199.length c201), (18, .slice A139 t137.length c140), (19, .int .i64 (t137.length : Int)), (20, .int .i64 x203)] a ∧ Wd w W204 [] [⟨5, 1, .slice A200 x199.length c201, x199.length, encs (encIK .u8) x199⟩, ⟨3, 1, .slice A139 t137.length c140, t137.length, encs (encIK .i64) t137⟩]) K ?_ ?_
      · skip
        replace HW := HW.nilo 5 1
        exact ⟨([] : List Int), none, 0, 0, h, ha.sub (subs_cons KR (subs_cons KR (subs_cons KR (subs_cons KR (subs_cons KR (subs_nil _)))))), HW.pick [] [0, 1] (by decide) (by decide) KR KR⟩
      · skip
        intro k a W204 hI
        obtain ⟨x199, A200, c201, x203, h, ha, HW⟩ := hI
        cases k with
        | zero => exact (none_some (show none = some r from h)).elim
        | succ k205 =>
          replace h : fields_put_uint64.b0 K a0 t137 (fields_put_uint64.l0 K a0 t137 k205) x199 x203 = some r := h
          obtain ⟨again198, hag206⟩ : ∃ g_, g_ = fields_put_uint64.l0 K a0 t137 k205 := ⟨_, rfl⟩
          rw [← hag206] at h
          unfold fields_put_uint64.b0 at h
          refine wp_seq_k (fun K207 hK208 => ?_)
          refine wp_region_lit ?_
          refine stepp ha 21 (.bool (decide (x203 < (t137.length : Int)))) KR KR ?_; clear ha a; intro a ha
          refine endl ?_
          refine thenN (hK208 _ _ ?_); clear hK208
          refine wp_seq_k (fun K209 hK210 => ?_)
          by_cases hp211 : x203 < (t137.length : Int)
          · skip
            replace h := ite_pos' h hp211
            refine condT ha KR KR (t := decide (x203 < (t137.length : Int))) (decide_eq_true hp211) ?_
            refine wp_skip ?_
            refine thenN (hK210 _ _ ?_); clear hK210
            refine wp_seq_k (fun K212 hK213 => ?_)
            refine wp_block ?_
            refine wp_seq_k (fun K214 hK215 => ?_)
            refine wp_region_lit ?_
            obtain ⟨hA216, h_⟩ := asrt_some h; clear h; have h := h_; clear h_
            refine stepie (encIK .i64) (0 : Int) ha 22 (fun _ => rfl) (v := .slice A139 t137.length c140) (xs := t137) (HW.rdo (i := 1) (q := ⟨3, 1, .slice A139 t137.length c140, t137.length, encs (encIK .i64) t137⟩) KR) 83 3 (.tmp 18) (.tmp 20) .i64 x203 rfl KR KR KR KR hA216 (show (x203 : Int) < ((t137).length : Int) from hp211) KR ?_; clear ha a; intro b217 off218 a hC219 ha
            refine stepl ha 23 hC219 3 0 (.tmp 22) (.int .i64 (rdL (0 : Int) t137 x203)) rfl KR KR KR ?_; clear ha a; intro a ha
            refine stepp ha 9 (.int .i64 (rdL (0 : Int) t137 x203)) KR KR ?_; clear ha a; intro a ha
            refine endl ?_
            refine thenN (hK215 _ _ ?_); clear hK215
            refine wp_region_lit ?_
            refine stepp ha 24 (.slice A200 x199.length c201) KR KR ?_; clear ha a; intro a ha
            refine stepp ha 25 (.int .u64 a0) KR KR ?_; clear ha a; intro a ha
            refine stepp ha 26 (.int .i64 (rdL (0 : Int) t137 x203)) KR KR ?_; clear ha a; intro a ha
            obtain ⟨hA220, h_⟩ := asrt_some h; clear h; have h := h_; clear h_
            refine stepshr ha 27 22 3 (.tmp 25) (.tmp 26) .u64 .i64 a0 (rdL (0 : Int) t137 x203) rfl KR KR hA220 KR ?_; clear ha a; intro a ha
            refine stepp ha 28 (.int .u8 (IntKind.wrap .u8 (sshr .u64 a0 (rdL (0 : Int) t137 x203)))) KR KR ?_; clear ha a; intro a ha
            refine stepbs ha HW 29 5 1 1 #[.int .u8 (IntKind.wrap .u8 (sshr .u64 a0 (rdL (0 : Int) t137 x203)))] [.int .u8 (IntKind.wrap .u8 (sshr .u64 a0 (rdL (0 : Int) t137 x203)))] (by decide) KR KR KR KR ?_; clear ha HW a; intro b221 a W222 HW ha
            replace HW : Wd w W222 [] [⟨5, 1, .slice (some ⟨b221, 0, none⟩) ([IntKind.wrap .u8 (sshr .u64 a0 (rdL (0 : Int) t137 x203))] : List Int).length 1, ([IntKind.wrap .u8 (sshr .u64 a0 (rdL (0 : Int) t137 x203))] : List Int).length, encs (encIK .u8) ([IntKind.wrap .u8 (sshr .u64 a0 (rdL (0 : Int) t137 x203))] : List Int)⟩, ⟨5, 1, .slice A200 x199.length c201, x199.length, encs (encIK .u8) x199⟩, ⟨3, 1, .slice A139 t137.length c140, t137.length, encs (encIK .i64) t137⟩] := HW
            replace ha := ha.turn 29 (v := .slice (some ⟨b221, 0, none⟩) ([IntKind.wrap .u8 (sshr .u64 a0 (rdL (0 : Int) t137 x203))] : List Int).length 1) KR rfl
            obtain ⟨hA224, h_⟩ := asrt_some h; clear h; have h := h_; clear h_
            refine stepape (encIK .u8) ha HW 30 1 40 5 (.tmp 24) (.tmp 29) (.int .u8 0) 1 1 (.slice A200 x199.length c201) x199 (.slice (some ⟨b221, 0, none⟩) ([IntKind.wrap .u8 (sshr .u64 a0 (rdL (0 : Int) t137 x203))] : List Int).length 1) ([IntKind.wrap .u8 (sshr .u64 a0 (rdL (0 : Int) t137 x203))] : List Int) KR rfl KR KR (HW.rdo (i := 0) (q := ⟨5, 1, .slice (some ⟨b221, 0, none⟩) ([IntKind.wrap .u8 (sshr .u64 a0 (rdL (0 : Int) t137 x203))] : List Int).length 1, ([IntKind.wrap .u8 (sshr .u64 a0 (rdL (0 : Int) t137 x203))] : List Int).length, encs (encIK .u8) ([IntKind.wrap .u8 (sshr .u64 a0 (rdL (0 : Int) t137 x203))] : List Int)⟩) KR) (fun _ => rfl) KR KR KR (by decide) (by have := hA224; unfold maxLen; omega) (by have := hA224; omega) KR ?_; clear ha HW a; intro A225 c226 a W227 HW ha
            refine stepp ha 7 (.slice A225 (x199 ++ ([IntKind.wrap .u8 (sshr .u64 a0 (rdL (0 : Int) t137 x203))] : List Int)).length c226) KR KR ?_; clear ha a; intro a ha
            refine endl ?_
            refine blkN ?_
            refine thenN (hK213 _ _ ?_); clear hK213
            refine wp_region_lit ?_
            refine stepp ha 31 (.int .i64 (IntKind.wrap .i64 (x203 + 1))) KR KR ?_; clear ha a; intro a ha
            refine stepp ha 20 (.int .i64 (IntKind.wrap .i64 (x203 + 1))) KR KR ?_; clear ha a; intro a ha
            refine endl ?_
            exact thenN ⟨k205, Nat.lt_succ_self k205, x199 ++ ([IntKind.wrap .u8 (sshr .u64 a0 (rdL (0 : Int) t137 x203))] : List Int), A225, c226, IntKind.wrap .i64 (x203 + 1), (by rw [← hag206]; exact h), ha.sub (subs_cons KR (subs_cons KR (subs_cons KR (subs_cons KR (subs_cons KR (subs_nil _)))))), HW.pick [] [1, 2] (by decide) (by decide) KR KR⟩
          · skip
            replace h := ite_neg' h hp211
            refine condF ha KR KR (t := decide (x203 < (t137.length : Int))) (decide_eq_false hp211) ?_
            refine wp_exit ?_
            refine thenE ?_
            refine thenE ?_
            refine inBlk ?_
            refine thenN (hK134 _ _ ?_); clear hK134
            refine wp_seq_k (fun K230 hK231 => ?_)
            refine wp_region_lit ?_
            refine stepp ha 32 (.slice A200 x199.length c201) KR KR ?_; clear ha a; intro a ha
            refine stepbt ha 33 40 9 5 (.tmp 32) (v := .slice A200 x199.length c201) (xs := x199) (HW.rdo (i := 0) (q := ⟨5, 1, .slice A200 x199.length c201, x199.length, encs (encIK .u8) x199⟩) KR) rfl KR KR KR KR KR ?_; clear ha a; intro a ha
            refine stepp ha 6 (.string (strOfNums x199)) KR KR ?_; clear ha a; intro a ha
            refine endl ?_
            refine thenN (hK231 _ _ ?_); clear hK231
            refine wp_ret ?_
            obtain rfl := Option.some.inj h
            exact finv ha _ _ rfl (.tmp (v := .string (strOfNums x199)) KR .nil) (.string (strOfNums x199)) rfl ⟨rfl, HW.pick [] [] (by decide) (by decide) rfl KR⟩
/-! ### headgate/fields.PutBig: function 21 -/
def fields_PutBig.f (K : Nat) (a0 : Int) (a1 : Int) : Option ByteArray :=
  (fields_put_uint64.f K a0 a1 true).bind fun t236 => (some t236)
set_option maxRecDepth 100000 in
set_option maxHeartbeats 4000000 in
theorem fields_PutBig.calls (K : Nat) (a0 : Int) (a1 : Int)  (r : ByteArray) (w : World)  (h : fields_PutBig.f K a0 a1 = some r) :
    Calls Tryd.prog 21 #[.int .u64 a0, .int .i64 a1] w (fun e W' => e = .returned (.string r) ∧ Wd w W' [] [] ) := by
  refine sxstart (n := 8) (l := [(0, .int .u64 a0), (1, .int .i64 a1)]) Tryd.func21 rfl rfl (Nat.le_of_ble_eq_true KR) (subsA_cons rfl (subsA_cons rfl (subsA_nil _))) ?_
  intro a ha
  have HW := Wd.refl w
  unfold fields_PutBig.f at h
  refine wp_seq_k (fun K232 hK233 => ?_)
  refine wp_region_lit ?_
  refine stepp ha 4 (.string (⟨#[]⟩ : ByteArray)) KR KR ?_; clear ha a; intro a ha
  refine endl ?_
  refine thenN (hK233 _ _ ?_); clear hK233
  refine wp_seq_k (fun K234 hK235 => ?_)
  refine wp_region_lit ?_
  refine stepp ha 5 (.int .u64 a0) KR KR ?_; clear ha a; intro a ha
  refine stepp ha 6 (.int .i64 a1) KR KR ?_; clear ha a; intro a ha
  obtain ⟨t236, ht237, h_⟩ := bind_some' h; clear h; have h := h_; clear h_
  refine stepc ha 7 KR KR (fields_put_uint64.calls K a0 a1 true t236 _ ht237) ?_; clear ha a; rintro e W238 ⟨rfl, HX239⟩
  refine ⟨_, rfl, ?_⟩; intro a ha; replace HW := HW.callw HX239; clear HX239
  refine stepp ha 4 (.string t236) KR KR ?_; clear ha a; intro a ha
  refine endl ?_
  refine thenN (hK235 _ _ ?_); clear hK235
  refine wp_ret ?_
  obtain rfl := Option.some.inj h
  exact finv ha _ _ rfl (.tmp (v := .string t236) KR .nil) (.string t236) rfl ⟨rfl, HW.pick [] [] (by decide) (by decide) rfl KR⟩
/-! ### headgate/fields.Pad: function 22 -/
def fields_Pad.f (a0 : ByteArray) (a1 : Int) : Option ByteArray :=
  if a1 < 1 then (some a0) else (if a1 > 4096 then (some a0) else (asrt (¬ a1 = 0) (if (Int.tmod (a0.size : Int) a1) = 0 then (some a0) else (asrt (0 ≤ (IntKind.wrap .i64 (a1 - (Int.tmod (a0.size : Int) a1)))) (asrt ((IntKind.wrap .i64 (a1 - (Int.tmod (a0.size : Int) a1))) ≤ 281474976710656) (asrt (a0.size + (strOfNums (List.replicate (IntKind.wrap .i64 (a1 - (Int.tmod (a0.size : Int) a1)) : Int).toNat (0 : Int))).size ≤ 9223372036854775807) (some (a0 ++ (strOfNums (List.replicate (IntKind.wrap .i64 (a1 - (Int.tmod (a0.size : Int) a1)) : Int).toNat (0 : Int)))))))))))
set_option maxRecDepth 100000 in
set_option maxHeartbeats 4000000 in
theorem fields_Pad.calls (a0 : ByteArray) (a1 : Int)  (r : ByteArray) (w : World)  (h : fields_Pad.f a0 a1 = some r) :
    Calls Tryd.prog 22 #[.string a0, .int .i64 a1] w (fun e W' => e = .returned (.string r) ∧ Wd w W' [] [] ) := by
  refine sxstart (n := 29) (l := [(0, .string a0), (1, .int .i64 a1)]) Tryd.func22 rfl rfl (Nat.le_of_ble_eq_true KR) (subsA_cons rfl (subsA_cons rfl (subsA_nil _))) ?_
  intro a ha
  have HW := Wd.refl w
  unfold fields_Pad.f at h
  refine wp_seq_k (fun K240 hK241 => ?_)
  refine wp_region_lit ?_
  refine stepp ha 4 (.string (⟨#[]⟩ : ByteArray)) KR KR ?_; clear ha a; intro a ha
  refine endl ?_
  refine thenN (hK241 _ _ ?_); clear hK241
  refine wp_seq_k (fun K242 hK243 => ?_)
  refine wp_seq_k (fun K244 hK245 => ?_)
  refine wp_region_lit ?_
  refine stepp ha 5 (.int .i64 a1) KR KR ?_; clear ha a; intro a ha
  refine stepp ha 6 (.bool (decide (a1 < 1))) KR KR ?_; clear ha a; intro a ha
  refine stepp ha 7 (.bool (decide (a1 < 1))) KR KR ?_; clear ha a; intro a ha
  by_cases hp246 : a1 < 1
  · skip
    replace h := ite_pos' h hp246
    replace ha := ha.bool 7 KR (decide_eq_true hp246)
    refine stepo ha 8 KR ?_; clear ha a; intro a ha
    refine stepo ha 9 KR ?_; clear ha a; intro a ha
    refine stepp ha 10 (.bool true) KR KR ?_; clear ha a; intro a ha
    refine stepp ha 11 (.bool true) KR KR ?_; clear ha a; intro a ha
    refine stepo ha 12 KR ?_; clear ha a; intro a ha
    refine stepo ha 13 KR ?_; clear ha a; intro a ha
    refine stepo ha 14 KR ?_; clear ha a; intro a ha
    refine stepo ha 15 KR ?_; clear ha a; intro a ha
    refine stepo ha 16 KR ?_; clear ha a; intro a ha
    refine stepp ha 17 (.bool true) KR KR ?_; clear ha a; intro a ha
    refine endl ?_
    refine thenN (hK245 _ _ ?_); clear hK245
    refine condT ha KR KR (t := true) (rfl) ?_
    refine wp_seq_k (fun K249 hK250 => ?_)
    refine wp_region_lit ?_
    refine stepp ha 18 (.string a0) KR KR ?_; clear ha a; intro a ha
    refine stepp ha 4 (.string a0) KR KR ?_; clear ha a; intro a ha
    refine endl ?_
    refine thenN (hK250 _ _ ?_); clear hK250
    refine wp_ret ?_
    refine thenR ?_
    obtain rfl := Option.some.inj h
    exact finv ha _ _ rfl (.tmp (v := .string a0) KR .nil) (.string a0) rfl ⟨rfl, HW.pick [] [] (by decide) (by decide) rfl KR⟩
  · skip
    replace h := ite_neg' h hp246
    replace ha := ha.bool 7 KR (decide_eq_false hp246)
    refine stepp ha 8 (.int .i64 a1) KR KR ?_; clear ha a; intro a ha
    refine stepp ha 9 (.bool (decide (a1 > 4096))) KR KR ?_; clear ha a; intro a ha
    refine stepp ha 10 (.bool (decide (a1 > 4096))) KR KR ?_; clear ha a; intro a ha
    refine stepp ha 11 (.bool (decide (a1 > 4096))) KR KR ?_; clear ha a; intro a ha
    by_cases hp247 : a1 > 4096
    · skip
      replace h := ite_pos' h hp247
      replace ha := ha.bool 11 KR (decide_eq_true hp247)
      refine stepo ha 12 KR ?_; clear ha a; intro a ha
      refine stepo ha 13 KR ?_; clear ha a; intro a ha
      refine stepo ha 14 KR ?_; clear ha a; intro a ha
      refine stepo ha 15 KR ?_; clear ha a; intro a ha
      refine stepo ha 16 KR ?_; clear ha a; intro a ha
      refine stepp ha 17 (.bool true) KR KR ?_; clear ha a; intro a ha
      refine endl ?_
      refine thenN (hK245 _ _ ?_); clear hK245
      refine condT ha KR KR (t := true) (rfl) ?_
      refine wp_seq_k (fun K251 hK252 => ?_)
      refine wp_region_lit ?_
      refine stepp ha 18 (.string a0) KR KR ?_; clear ha a; intro a ha
      refine stepp ha 4 (.string a0) KR KR ?_; clear ha a; intro a ha
      refine endl ?_
      refine thenN (hK252 _ _ ?_); clear hK252
      refine wp_ret ?_
      refine thenR ?_
      obtain rfl := Option.some.inj h
      exact finv ha _ _ rfl (.tmp (v := .string a0) KR .nil) (.string a0) rfl ⟨rfl, HW.pick [] [] (by decide) (by decide) rfl KR⟩
    · skip
      replace h := ite_neg' h hp247
      replace ha := ha.bool 11 KR (decide_eq_false hp247)
      refine stepp ha 12 (.string a0) KR KR ?_; clear ha a; intro a ha
      refine stepp ha 13 (.int .i64 (a0.size : Int)) KR KR ?_; clear ha a; intro a ha
      refine stepp ha 14 (.int .i64 a1) KR KR ?_; clear ha a; intro a ha
      obtain ⟨hA248, h_⟩ := asrt_some h; clear h; have h := h_; clear h_
      refine steprem ha 15 3 3 (.tmp 13) (.tmp 14) .i64 (a0.size : Int) a1 rfl KR KR hA248 KR ?_; clear ha a; intro a ha
      refine stepp ha 16 (.bool ((Int.tmod (a0.size : Int) a1) == 0)) KR KR ?_; clear ha a; intro a ha
      refine stepp ha 17 (.bool ((Int.tmod (a0.size : Int) a1) == 0)) KR KR ?_; clear ha a; intro a ha
      refine endl ?_
      refine thenN (hK245 _ _ ?_); clear hK245
      by_cases hp253 : (Int.tmod (a0.size : Int) a1) = 0
      · skip
        replace h := ite_pos' h hp253
        refine condT ha KR KR (t := ((Int.tmod (a0.size : Int) a1) == 0)) (ieq_t hp253) ?_
        refine wp_seq_k (fun K254 hK255 => ?_)
        refine wp_region_lit ?_
        refine stepp ha 18 (.string a0) KR KR ?_; clear ha a; intro a ha
        refine stepp ha 4 (.string a0) KR KR ?_; clear ha a; intro a ha
        refine endl ?_
        refine thenN (hK255 _ _ ?_); clear hK255
        refine wp_ret ?_
        refine thenR ?_
        obtain rfl := Option.some.inj h
        exact finv ha _ _ rfl (.tmp (v := .string a0) KR .nil) (.string a0) rfl ⟨rfl, HW.pick [] [] (by decide) (by decide) rfl KR⟩
      · skip
        replace h := ite_neg' h hp253
        refine condF ha KR KR (t := ((Int.tmod (a0.size : Int) a1) == 0)) (ieq_f hp253) ?_
        refine wp_skip ?_
        refine thenN (hK243 _ _ ?_); clear hK243
        refine wp_seq_k (fun K256 hK257 => ?_)
        refine wp_region_lit ?_
        refine stepp ha 19 (.string a0) KR KR ?_; clear ha a; intro a ha
        refine stepp ha 20 (.int .i64 a1) KR KR ?_; clear ha a; intro a ha
        refine stepp ha 21 (.string a0) KR KR ?_; clear ha a; intro a ha
        refine stepp ha 22 (.int .i64 (a0.size : Int)) KR KR ?_; clear ha a; intro a ha
        refine stepp ha 23 (.int .i64 a1) KR KR ?_; clear ha a; intro a ha
        refine steprem ha 24 3 3 (.tmp 22) (.tmp 23) .i64 (a0.size : Int) a1 rfl KR KR hA248 KR ?_; clear ha a; intro a ha
        refine stepp ha 25 (.int .i64 (IntKind.wrap .i64 (a1 - (Int.tmod (a0.size : Int) a1)))) KR KR ?_; clear ha a; intro a ha
        obtain ⟨hA258, h_⟩ := asrt_some h; clear h; have h := h_; clear h_
        obtain ⟨hA259, h_⟩ := asrt_some h; clear h; have h := h_; clear h_
        refine stepmk (encIK .u8) (0 : Int) ha HW 26 40 5 (.tmp 25) (.tmp 25) .i64 .i64 (IntKind.wrap .i64 (a1 - (Int.tmod (a0.size : Int) a1))) (.int .u8 0) 1 rfl KR KR KR KR rfl rfl hA258 (by have := hA259; omega) (by have := hA259; omega) KR ?_; clear ha HW a; intro b260 a W261 HW ha
        refine stepbt ha 27 40 9 5 (.tmp 26) (v := .slice (some ⟨b260, 0, none⟩) (List.replicate (IntKind.wrap .i64 (a1 - (Int.tmod (a0.size : Int) a1)) : Int).toNat (0 : Int)).length ((IntKind.wrap .i64 (a1 - (Int.tmod (a0.size : Int) a1)) : Int).toNat)) (xs := List.replicate (IntKind.wrap .i64 (a1 - (Int.tmod (a0.size : Int) a1)) : Int).toNat (0 : Int)) (HW.rdo (i := 0) (q := ⟨5, 1, .slice (some ⟨b260, 0, none⟩) (List.replicate (IntKind.wrap .i64 (a1 - (Int.tmod (a0.size : Int) a1)) : Int).toNat (0 : Int)).length ((IntKind.wrap .i64 (a1 - (Int.tmod (a0.size : Int) a1)) : Int).toNat), (List.replicate (IntKind.wrap .i64 (a1 - (Int.tmod (a0.size : Int) a1)) : Int).toNat (0 : Int)).length, encs (encIK .u8) (List.replicate (IntKind.wrap .i64 (a1 - (Int.tmod (a0.size : Int) a1)) : Int).toNat (0 : Int))⟩) KR) rfl KR KR KR KR KR ?_; clear ha a; intro a ha
        obtain ⟨hA263, h_⟩ := asrt_some h; clear h; have h := h_; clear h_
        refine stepsa ha 28 9 9 (.tmp 19) (.tmp 27) a0 (strOfNums (List.replicate (IntKind.wrap .i64 (a1 - (Int.tmod (a0.size : Int) a1)) : Int).toNat (0 : Int))) rfl KR KR (show (a0).size + (strOfNums (List.replicate (IntKind.wrap .i64 (a1 - (Int.tmod (a0.size : Int) a1)) : Int).toNat (0 : Int))).size ≤ 9223372036854775807 from hA263) KR ?_; clear ha a; intro a ha
        refine stepp ha 4 (.string (a0 ++ (strOfNums (List.replicate (IntKind.wrap .i64 (a1 - (Int.tmod (a0.size : Int) a1)) : Int).toNat (0 : Int))))) KR KR ?_; clear ha a; intro a ha
        refine endl ?_
        refine thenN (hK257 _ _ ?_); clear hK257
        refine wp_ret ?_
        obtain rfl := Option.some.inj h
        exact finv ha _ _ rfl (.tmp (v := .string (a0 ++ (strOfNums (List.replicate (IntKind.wrap .i64 (a1 - (Int.tmod (a0.size : Int) a1)) : Int).toNat (0 : Int))))) KR .nil) (.string (a0 ++ (strOfNums (List.replicate (IntKind.wrap .i64 (a1 - (Int.tmod (a0.size : Int) a1)) : Int).toNat (0 : Int))))) rfl ⟨rfl, HW.pick [] [] (by decide) (by decide) rfl KR⟩
/-! ### headgate/fields.PutLittle: function 34 -/
def fields_PutLittle.f (K : Nat) (a0 : Int) (a1 : Int) : Option ByteArray :=
  (fields_put_uint64.f K a0 a1 false).bind fun t268 => (some t268)
set_option maxRecDepth 100000 in
set_option maxHeartbeats 4000000 in
theorem fields_PutLittle.calls (K : Nat) (a0 : Int) (a1 : Int)  (r : ByteArray) (w : World)  (h : fields_PutLittle.f K a0 a1 = some r) :
    Calls Tryd.prog 34 #[.int .u64 a0, .int .i64 a1] w (fun e W' => e = .returned (.string r) ∧ Wd w W' [] [] ) := by
  refine sxstart (n := 8) (l := [(0, .int .u64 a0), (1, .int .i64 a1)]) Tryd.func34 rfl rfl (Nat.le_of_ble_eq_true KR) (subsA_cons rfl (subsA_cons rfl (subsA_nil _))) ?_
  intro a ha
  have HW := Wd.refl w
  unfold fields_PutLittle.f at h
  refine wp_seq_k (fun K264 hK265 => ?_)
  refine wp_region_lit ?_
  refine stepp ha 4 (.string (⟨#[]⟩ : ByteArray)) KR KR ?_; clear ha a; intro a ha
  refine endl ?_
  refine thenN (hK265 _ _ ?_); clear hK265
  refine wp_seq_k (fun K266 hK267 => ?_)
  refine wp_region_lit ?_
  refine stepp ha 5 (.int .u64 a0) KR KR ?_; clear ha a; intro a ha
  refine stepp ha 6 (.int .i64 a1) KR KR ?_; clear ha a; intro a ha
  obtain ⟨t268, ht269, h_⟩ := bind_some' h; clear h; have h := h_; clear h_
  refine stepc ha 7 KR KR (fields_put_uint64.calls K a0 a1 false t268 _ ht269) ?_; clear ha a; rintro e W270 ⟨rfl, HX271⟩
  refine ⟨_, rfl, ?_⟩; intro a ha; replace HW := HW.callw HX271; clear HX271
  refine stepp ha 4 (.string t268) KR KR ?_; clear ha a; intro a ha
  refine endl ?_
  refine thenN (hK267 _ _ ?_); clear hK267
  refine wp_ret ?_
  obtain rfl := Option.some.inj h
  exact finv ha _ _ rfl (.tmp (v := .string t268) KR .nil) (.string t268) rfl ⟨rfl, HW.pick [] [] (by decide) (by decide) rfl KR⟩
/-! ### headgate/crc.More: function 46 -/
def crc_More.b0 (K : Nat) (a1 : ByteArray) (again320 : Int → Int → Option Int) (x321 : Int) (x322 : Int) : Option Int :=
  if x322 < (a1.size : Int) then (asrt (0 ≤ x322) (asrt (0 ≤ (band .u32 (bxor .u32 x321 (IntKind.wrap .u32 (bt a1 x322))) 15)) (asrt ((band .u32 (bxor .u32 x321 (IntKind.wrap .u32 (bt a1 x322))) 15) < 16) (asrt (0 ≤ (band .u32 (bxor .u32 ((bxor .u32 x321 (IntKind.wrap .u32 (bt a1 x322))).fdiv 16) (rdL (0 : Int) G_crc_steps (band .u32 (bxor .u32 x321 (IntKind.wrap .u32 (bt a1 x322))) 15))) 15)) (asrt ((band .u32 (bxor .u32 ((bxor .u32 x321 (IntKind.wrap .u32 (bt a1 x322))).fdiv 16) (rdL (0 : Int) G_crc_steps (band .u32 (bxor .u32 x321 (IntKind.wrap .u32 (bt a1 x322))) 15))) 15) < 16) (again320 (bxor .u32 ((bxor .u32 ((bxor .u32 x321 (IntKind.wrap .u32 (bt a1 x322))).fdiv 16) (rdL (0 : Int) G_crc_steps (band .u32 (bxor .u32 x321 (IntKind.wrap .u32 (bt a1 x322))) 15))).fdiv 16) (rdL (0 : Int) G_crc_steps (band .u32 (bxor .u32 ((bxor .u32 x321 (IntKind.wrap .u32 (bt a1 x322))).fdiv 16) (rdL (0 : Int) G_crc_steps (band .u32 (bxor .u32 x321 (IntKind.wrap .u32 (bt a1 x322))) 15))) 15))) (IntKind.wrap .i64 (x322 + 1)))))))) else (some (bxor .u32 4294967295 x321))
def crc_More.l0 (K : Nat) (a1 : ByteArray) : Nat → Int → Int → Option Int
  | 0, _, _ => none
  | k_ + 1, x321, x322 => crc_More.b0 K a1 (crc_More.l0 K a1 k_) x321 x322
def crc_More.f (K : Nat) (a0 : Int) (a1 : ByteArray) : Option Int :=
  crc_More.l0 K a1 K (bxor .u32 4294967295 a0) 0
set_option maxRecDepth 100000 in
set_option maxHeartbeats 4000000 in
theorem crc_More.calls (K : Nat) (a0 : Int) (a1 : ByteArray)  (r : Int) (w : World) (hG0 : CA w 0 0 (encs (encIK .u32) G_crc_steps).toArray) (h : crc_More.f K a0 a1 = some r) :
    Calls Tryd.prog 46 #[.int .u32 a0, .string a1] w (fun e W' => e = .returned (.int .u32 r) ∧ Wd w W' [] [] ) := by
  refine sxstart (n := 36) (l := [(0, .int .u32 a0), (1, .string a1)]) Tryd.func46 rfl rfl (Nat.le_of_ble_eq_true KR) (subsA_cons rfl (subsA_cons rfl (subsA_nil _))) ?_
  intro a ha
  have HW := Wd.refl w
  unfold crc_More.f at h
  refine wp_seq_k (fun K272 hK273 => ?_)
  refine wp_region_lit ?_
  refine stepp ha 4 (.int .u32 0) KR KR ?_; clear ha a; intro a ha
  refine endl ?_
  refine thenN (hK273 _ _ ?_); clear hK273
  refine wp_seq_k (fun K274 hK275 => ?_)
  refine wp_region_lit ?_
  refine stepp ha 6 (.int .u32 a0) KR KR ?_; clear ha a; intro a ha
  refine stepp ha 7 (.int .u32 (bxor .u32 4294967295 a0)) KR KR ?_; clear ha a; intro a ha
  refine stepp ha 0 (.int .u32 (bxor .u32 4294967295 a0)) KR KR ?_; clear ha a; intro a ha
  refine endl ?_
  refine thenN (hK275 _ _ ?_); clear hK275
  refine wp_seq_k (fun K276 hK277 => ?_)
  refine wp_seq_k (fun K278 hK279 => ?_)
  refine wp_region_lit ?_
  refine stepp ha 8 (.string a1) KR KR ?_; clear ha a; intro a ha
  refine stepp ha 9 (.int .i64 (a1.size : Int)) KR KR ?_; clear ha a; intro a ha
  refine stepp ha 10 (.int .i64 0) KR KR ?_; clear ha a; intro a ha
  refine endl ?_
  refine thenN (hK279 _ _ ?_); clear hK279
  refine wp_block ?_
  refine loopk (fun k => fun a W323 => ∃ (x321 : Int), ∃ (x322 : Int), crc_More.l0 K a1 k x321 x322 = some r ∧ Has 36 [(0, .int .u32 x321), (1, .string a1), (9, .int .i64 (a1.size : Int)), (10, .int .i64 x322)] a ∧ Wd w W323 [] []) K ?_ ?_
  · skip
    exact ⟨bxor .u32 4294967295 a0, 0, h, ha.sub (subs_cons KR (subs_cons KR (subs_cons KR (subs_cons KR (subs_nil _))))), HW.pick [] [] (by decide) (by decide) KR KR⟩
  · skip
    intro k a W323 hI
    obtain ⟨x321, x322, h, ha, HW⟩ := hI
    cases k with
    | zero => exact (none_some (show none = some r from h)).elim
    | succ k324 =>
      replace h : crc_More.b0 K a1 (crc_More.l0 K a1 k324) x321 x322 = some r := h
      obtain ⟨again320, hag325⟩ : ∃ g_, g_ = crc_More.l0 K a1 k324 := ⟨_, rfl⟩
      rw [← hag325] at h
      unfold crc_More.b0 at h
      refine wp_seq_k (fun K326 hK327 => ?_)
      refine wp_region_lit ?_
      refine stepp ha 11 (.bool (decide (x322 < (a1.size : Int)))) KR KR ?_; clear ha a; intro a ha
      refine endl ?_
      refine thenN (hK327 _ _ ?_); clear hK327
      refine wp_seq_k (fun K328 hK329 => ?_)
      by_cases hp330 : x322 < (a1.size : Int)
      · skip
        replace h := ite_pos' h hp330
        refine condT ha KR KR (t := decide (x322 < (a1.size : Int))) (decide_eq_true hp330) ?_
        refine wp_skip ?_
        refine thenN (hK329 _ _ ?_); clear hK329
        refine wp_seq_k (fun K331 hK332 => ?_)
        refine wp_block ?_
        refine wp_seq_k (fun K333 hK334 => ?_)
        refine wp_region_lit ?_
        refine stepp ha 12 (.int .i64 x322) KR KR ?_; clear ha a; intro a ha
        refine stepp ha 5 (.int .i64 x322) KR KR ?_; clear ha a; intro a ha
        refine endl ?_
        refine thenN (hK334 _ _ ?_); clear hK334
        refine wp_seq_k (fun K335 hK336 => ?_)
        refine wp_region_lit ?_
        refine stepp ha 13 (.int .u32 x321) KR KR ?_; clear ha a; intro a ha
        refine stepp ha 14 (.string a1) KR KR ?_; clear ha a; intro a ha
        refine stepp ha 15 (.int .i64 x322) KR KR ?_; clear ha a; intro a ha
        obtain ⟨hA337, h_⟩ := asrt_some h; clear h; have h := h_; clear h_
        refine stepsi ha 16 9 (.tmp 14) (.tmp 15) a1 .i64 x322 rfl KR KR KR hA337 (show (x322 : Int) < ((a1).size : Int) from hp330) KR ?_; clear ha a; intro a ha
        refine stepp ha 17 (.int .u32 (IntKind.wrap .u32 (bt a1 x322))) KR KR ?_; clear ha a; intro a ha
        refine stepp ha 18 (.int .u32 (bxor .u32 x321 (IntKind.wrap .u32 (bt a1 x322)))) KR KR ?_; clear ha a; intro a ha
        refine stepp ha 0 (.int .u32 (bxor .u32 x321 (IntKind.wrap .u32 (bt a1 x322)))) KR KR ?_; clear ha a; intro a ha
        refine endl ?_
        refine thenN (hK336 _ _ ?_); clear hK336
        refine wp_seq_k (fun K338 hK339 => ?_)
        refine wp_region_lit ?_
        refine stepp ha 19 (.int .u32 (bxor .u32 x321 (IntKind.wrap .u32 (bt a1 x322)))) KR KR ?_; clear ha a; intro a ha
        refine stepp ha 20 (.int .u32 ((bxor .u32 x321 (IntKind.wrap .u32 (bt a1 x322))).fdiv 16)) KR KR ?_; clear ha a; intro a ha
        refine stepp ha 21 (.int .u32 (bxor .u32 x321 (IntKind.wrap .u32 (bt a1 x322)))) KR KR ?_; clear ha a; intro a ha
        refine stepp ha 22 (.int .u32 (band .u32 (bxor .u32 x321 (IntKind.wrap .u32 (bt a1 x322))) 15)) KR KR ?_; clear ha a; intro a ha
        obtain ⟨hA340, h_⟩ := asrt_some h; clear h; have h := h_; clear h_
        obtain ⟨hA341, h_⟩ := asrt_some h; clear h; have h := h_; clear h_
        refine stepiw ha 23 (sz := 1) 0 0 95 16 75 (.global 0) (.tmp 22) .u32 (band .u32 (bxor .u32 x321 (IntKind.wrap .u32 (bt a1 x322))) 15) rfl KR KR KR KR hA340 hA341 KR ?_; clear ha a; intro a ha
        refine stepl ha 24 (CA.el (sz := 1) (encIK .u32) (0 : Int) (fun _ => rfl) (HW.ca0 hG0) G_crc_steps rfl (len := 16) rfl hA340 hA341) 75 0 (.tmp 23) (.int .u32 (rdL (0 : Int) G_crc_steps (band .u32 (bxor .u32 x321 (IntKind.wrap .u32 (bt a1 x322))) 15))) rfl KR KR KR ?_; clear ha a; intro a ha
        refine stepp ha 25 (.int .u32 (bxor .u32 ((bxor .u32 x321 (IntKind.wrap .u32 (bt a1 x322))).fdiv 16) (rdL (0 : Int) G_crc_steps (band .u32 (bxor .u32 x321 (IntKind.wrap .u32 (bt a1 x322))) 15)))) KR KR ?_; clear ha a; intro a ha
        refine stepp ha 0 (.int .u32 (bxor .u32 ((bxor .u32 x321 (IntKind.wrap .u32 (bt a1 x322))).fdiv 16) (rdL (0 : Int) G_crc_steps (band .u32 (bxor .u32 x321 (IntKind.wrap .u32 (bt a1 x322))) 15)))) KR KR ?_; clear ha a; intro a ha
        refine endl ?_
        refine thenN (hK339 _ _ ?_); clear hK339
        refine wp_region_lit ?_
        refine stepp ha 26 (.int .u32 (bxor .u32 ((bxor .u32 x321 (IntKind.wrap .u32 (bt a1 x322))).fdiv 16) (rdL (0 : Int) G_crc_steps (band .u32 (bxor .u32 x321 (IntKind.wrap .u32 (bt a1 x322))) 15)))) KR KR ?_; clear ha a; intro a ha
        refine stepp ha 27 (.int .u32 ((bxor .u32 ((bxor .u32 x321 (IntKind.wrap .u32 (bt a1 x322))).fdiv 16) (rdL (0 : Int) G_crc_steps (band .u32 (bxor .u32 x321 (IntKind.wrap .u32 (bt a1 x322))) 15))).fdiv 16)) KR KR ?_; clear ha a; intro a ha
        refine stepp ha 28 (.int .u32 (bxor .u32 ((bxor .u32 x321 (IntKind.wrap .u32 (bt a1 x322))).fdiv 16) (rdL (0 : Int) G_crc_steps (band .u32 (bxor .u32 x321 (IntKind.wrap .u32 (bt a1 x322))) 15)))) KR KR ?_; clear ha a; intro a ha
        refine stepp ha 29 (.int .u32 (band .u32 (bxor .u32 ((bxor .u32 x321 (IntKind.wrap .u32 (bt a1 x322))).fdiv 16) (rdL (0 : Int) G_crc_steps (band .u32 (bxor .u32 x321 (IntKind.wrap .u32 (bt a1 x322))) 15))) 15)) KR KR ?_; clear ha a; intro a ha
        obtain ⟨hA342, h_⟩ := asrt_some h; clear h; have h := h_; clear h_
        obtain ⟨hA343, h_⟩ := asrt_some h; clear h; have h := h_; clear h_
        refine stepiw ha 30 (sz := 1) 0 0 95 16 75 (.global 0) (.tmp 29) .u32 (band .u32 (bxor .u32 ((bxor .u32 x321 (IntKind.wrap .u32 (bt a1 x322))).fdiv 16) (rdL (0 : Int) G_crc_steps (band .u32 (bxor .u32 x321 (IntKind.wrap .u32 (bt a1 x322))) 15))) 15) rfl KR KR KR KR hA342 hA343 KR ?_; clear ha a; intro a ha
        refine stepl ha 31 (CA.el (sz := 1) (encIK .u32) (0 : Int) (fun _ => rfl) (HW.ca0 hG0) G_crc_steps rfl (len := 16) rfl hA342 hA343) 75 0 (.tmp 30) (.int .u32 (rdL (0 : Int) G_crc_steps (band .u32 (bxor .u32 ((bxor .u32 x321 (IntKind.wrap .u32 (bt a1 x322))).fdiv 16) (rdL (0 : Int) G_crc_steps (band .u32 (bxor .u32 x321 (IntKind.wrap .u32 (bt a1 x322))) 15))) 15))) rfl KR KR KR ?_; clear ha a; intro a ha
        refine stepp ha 32 (.int .u32 (bxor .u32 ((bxor .u32 ((bxor .u32 x321 (IntKind.wrap .u32 (bt a1 x322))).fdiv 16) (rdL (0 : Int) G_crc_steps (band .u32 (bxor .u32 x321 (IntKind.wrap .u32 (bt a1 x322))) 15))).fdiv 16) (rdL (0 : Int) G_crc_steps (band .u32 (bxor .u32 ((bxor .u32 x321 (IntKind.wrap .u32 (bt a1 x322))).fdiv 16) (rdL (0 : Int) G_crc_steps (band .u32 (bxor .u32 x321 (IntKind.wrap .u32 (bt a1 x322))) 15))) 15)))) KR KR ?_; clear ha a; intro a ha
        refine stepp ha 0 (.int .u32 (bxor .u32 ((bxor .u32 ((bxor .u32 x321 (IntKind.wrap .u32 (bt a1 x322))).fdiv 16) (rdL (0 : Int) G_crc_steps (band .u32 (bxor .u32 x321 (IntKind.wrap .u32 (bt a1 x322))) 15))).fdiv 16) (rdL (0 : Int) G_crc_steps (band .u32 (bxor .u32 ((bxor .u32 x321 (IntKind.wrap .u32 (bt a1 x322))).fdiv 16) (rdL (0 : Int) G_crc_steps (band .u32 (bxor .u32 x321 (IntKind.wrap .u32 (bt a1 x322))) 15))) 15)))) KR KR ?_; clear ha a; intro a ha
        refine endl ?_
        refine blkN ?_
        refine thenN (hK332 _ _ ?_); clear hK332
        refine wp_region_lit ?_
        refine stepp ha 33 (.int .i64 (IntKind.wrap .i64 (x322 + 1))) KR KR ?_; clear ha a; intro a ha
        refine stepp ha 10 (.int .i64 (IntKind.wrap .i64 (x322 + 1))) KR KR ?_; clear ha a; intro a ha
        refine endl ?_
        exact thenN ⟨k324, Nat.lt_succ_self k324, bxor .u32 ((bxor .u32 ((bxor .u32 x321 (IntKind.wrap .u32 (bt a1 x322))).fdiv 16) (rdL (0 : Int) G_crc_steps (band .u32 (bxor .u32 x321 (IntKind.wrap .u32 (bt a1 x322))) 15))).fdiv 16) (rdL (0 : Int) G_crc_steps (band .u32 (bxor .u32 ((bxor .u32 x321 (IntKind.wrap .u32 (bt a1 x322))).fdiv 16) (rdL (0 : Int) G_crc_steps (band .u32 (bxor .u32 x321 (IntKind.wrap .u32 (bt a1 x322))) 15))) 15)), IntKind.wrap .i64 (x322 + 1), (by rw [← hag325]; exact h), ha.sub (subs_cons KR (subs_cons KR (subs_cons KR (subs_cons KR (subs_nil _))))), HW.pick [] [] (by decide) (by decide) KR KR⟩
      · skip
        replace h := ite_neg' h hp330
        refine condF ha KR KR (t := decide (x322 < (a1.size : Int))) (decide_eq_false hp330) ?_
        refine wp_exit ?_
        refine thenE ?_
        refine thenE ?_
        refine inBlk ?_
        refine thenN (hK277 _ _ ?_); clear hK277
        refine wp_seq_k (fun K344 hK345 => ?_)
        refine wp_region_lit ?_
        refine stepp ha 34 (.int .u32 x321) KR KR ?_; clear ha a; intro a ha
        refine stepp ha 35 (.int .u32 (bxor .u32 4294967295 x321)) KR KR ?_; clear ha a; intro a ha
        refine stepp ha 4 (.int .u32 (bxor .u32 4294967295 x321)) KR KR ?_; clear ha a; intro a ha
        refine endl ?_
        refine thenN (hK345 _ _ ?_); clear hK345
        refine wp_ret ?_
        obtain rfl := Option.some.inj h
        exact finv ha _ _ rfl (.tmp (v := .int .u32 (bxor .u32 4294967295 x321)) KR .nil) (.int .u32 (bxor .u32 4294967295 x321)) rfl ⟨rfl, HW.pick [] [] (by decide) (by decide) rfl KR⟩
/-! ### headgate/crc.Sum: function 35 -/
def crc_Sum.f (K : Nat) (a0 : ByteArray) : Option Int :=
  (crc_More.f K 0 a0).bind fun t350 => (some t350)
set_option maxRecDepth 100000 in
set_option maxHeartbeats 4000000 in
theorem crc_Sum.calls (K : Nat) (a0 : ByteArray)  (r : Int) (w : World) (hG0 : CA w 0 0 (encs (encIK .u32) G_crc_steps).toArray) (h : crc_Sum.f K a0 = some r) :
    Calls Tryd.prog 35 #[.string a0] w (fun e W' => e = .returned (.int .u32 r) ∧ Wd w W' [] [] ) := by
  refine sxstart (n := 5) (l := [(0, .string a0)]) Tryd.func35 rfl rfl (Nat.le_of_ble_eq_true KR) (subsA_cons rfl (subsA_nil _)) ?_
  intro a ha
  have HW := Wd.refl w
  unfold crc_Sum.f at h
  refine wp_seq_k (fun K346 hK347 => ?_)
  refine wp_region_lit ?_
  refine stepp ha 2 (.int .u32 0) KR KR ?_; clear ha a; intro a ha
  refine endl ?_
  refine thenN (hK347 _ _ ?_); clear hK347
  refine wp_seq_k (fun K348 hK349 => ?_)
  refine wp_region_lit ?_
  refine stepp ha 3 (.string a0) KR KR ?_; clear ha a; intro a ha
  obtain ⟨t350, ht351, h_⟩ := bind_some' h; clear h; have h := h_; clear h_
  refine stepc ha 4 KR KR (crc_More.calls K 0 a0 t350 _ (HW.ca0 hG0) ht351) ?_; clear ha a; rintro e W352 ⟨rfl, HX353⟩
  refine ⟨_, rfl, ?_⟩; intro a ha; replace HW := HW.callw HX353; clear HX353
  refine stepp ha 2 (.int .u32 t350) KR KR ?_; clear ha a; intro a ha
  refine endl ?_
  refine thenN (hK349 _ _ ?_); clear hK349
  refine wp_ret ?_
  obtain rfl := Option.some.inj h
  exact finv ha _ _ rfl (.tmp (v := .int .u32 t350) KR .nil) (.int .u32 t350) rfl ⟨rfl, HW.pick [] [] (by decide) (by decide) rfl KR⟩
/-! ### headgate/crc.Digest: function 23 -/
def crc_Digest.f (K : Nat) (a0 : ByteArray) : Option ByteArray :=
  (crc_Sum.f K a0).bind fun t358 => ((fields_PutLittle.f K (IntKind.wrap .u64 t358) 4).bind fun t362 => (some t362))
set_option maxRecDepth 100000 in
set_option maxHeartbeats 4000000 in
theorem crc_Digest.calls (K : Nat) (a0 : ByteArray)  (r : ByteArray) (w : World) (hG0 : CA w 0 0 (encs (encIK .u32) G_crc_steps).toArray) (h : crc_Digest.f K a0 = some r) :
    Calls Tryd.prog 23 #[.string a0] w (fun e W' => e = .returned (.string r) ∧ Wd w W' [] [] ) := by
  refine sxstart (n := 7) (l := [(0, .string a0)]) Tryd.func23 rfl rfl (Nat.le_of_ble_eq_true KR) (subsA_cons rfl (subsA_nil _)) ?_
  intro a ha
  have HW := Wd.refl w
  unfold crc_Digest.f at h
  refine wp_seq_k (fun K354 hK355 => ?_)
  refine wp_region_lit ?_
  refine stepp ha 2 (.string (⟨#[]⟩ : ByteArray)) KR KR ?_; clear ha a; intro a ha
  refine endl ?_
  refine thenN (hK355 _ _ ?_); clear hK355
  refine wp_seq_k (fun K356 hK357 => ?_)
  refine wp_region_lit ?_
  refine stepp ha 3 (.string a0) KR KR ?_; clear ha a; intro a ha
  obtain ⟨t358, ht359, h_⟩ := bind_some' h; clear h; have h := h_; clear h_
  refine stepc ha 4 KR KR (crc_Sum.calls K a0 t358 _ (HW.ca0 hG0) ht359) ?_; clear ha a; rintro e W360 ⟨rfl, HX361⟩
  refine ⟨_, rfl, ?_⟩; intro a ha; replace HW := HW.callw HX361; clear HX361
  refine stepp ha 5 (.int .u64 (IntKind.wrap .u64 t358)) KR KR ?_; clear ha a; intro a ha
  obtain ⟨t362, ht363, h_⟩ := bind_some' h; clear h; have h := h_; clear h_
  refine stepc ha 6 KR KR (fields_PutLittle.calls K (IntKind.wrap .u64 t358) 4 t362 _ ht363) ?_; clear ha a; rintro e W364 ⟨rfl, HX365⟩
  refine ⟨_, rfl, ?_⟩; intro a ha; replace HW := HW.callw HX365; clear HX365
  refine stepp ha 2 (.string t362) KR KR ?_; clear ha a; intro a ha
  refine endl ?_
  refine thenN (hK357 _ _ ?_); clear hK357
  refine wp_ret ?_
  obtain rfl := Option.some.inj h
  exact finv ha _ _ rfl (.tmp (v := .string t362) KR .nil) (.string t362) rfl ⟨rfl, HW.pick [] [] (by decide) (by decide) rfl KR⟩
/-! ### headgate/frame.Put: function 10 -/
def frame_Put.f (K : Nat) (a0 : Int) (a1 : ByteArray) : Option (ByteArray × Int) :=
  if (a1.size : Int) > 65536 then (some ((⟨#[]⟩ : ByteArray), 2)) else ((fields_PutBig.f K a0 8).bind fun t377 => (asrt (4 + t377.size ≤ 9223372036854775807) ((fields_PutBig.f K (IntKind.wrap .u64 (a1.size : Int)) 4).bind fun t382 => (asrt (((⟨#[72, 71, 70, 82]⟩ : ByteArray) ++ t377).size + t382.size ≤ 9223372036854775807) ((crc_Digest.f K (((⟨#[72, 71, 70, 82]⟩ : ByteArray) ++ t377) ++ t382)).bind fun t389 => (asrt ((((⟨#[72, 71, 70, 82]⟩ : ByteArray) ++ t377) ++ t382).size + t389.size ≤ 9223372036854775807) (asrt (((((⟨#[72, 71, 70, 82]⟩ : ByteArray) ++ t377) ++ t382) ++ t389).size + a1.size ≤ 9223372036854775807) ((crc_Digest.f K a1).bind fun t395 => (asrt ((((((⟨#[72, 71, 70, 82]⟩ : ByteArray) ++ t377) ++ t382) ++ t389) ++ a1).size + t395.size ≤ 9223372036854775807) ((fields_Pad.f ((((((⟨#[72, 71, 70, 82]⟩ : ByteArray) ++ t377) ++ t382) ++ t389) ++ a1) ++ t395) 512).bind fun t400 => (some (t400, 0))))))))))))
set_option maxRecDepth 100000 in
set_option maxHeartbeats 4000000 in
theorem frame_Put.calls (K : Nat) (a0 : Int) (a1 : ByteArray)  (r : ByteArray × Int) (w : World) (hG0 : CA w 0 0 (encs (encIK .u32) G_crc_steps).toArray) (h : frame_Put.f K a0 a1 = some r) :
    Calls Tryd.prog 10 #[.int .u64 a0, .string a1] w (fun e W' => e = .returned (.tuple #[.string r.1, .int .i64 r.2]) ∧ Wd w W' [] [] ) := by
  refine sxstart (n := 28) (l := [(0, .int .u64 a0), (1, .string a1)]) Tryd.func10 rfl rfl (Nat.le_of_ble_eq_true KR) (subsA_cons rfl (subsA_cons rfl (subsA_nil _))) ?_
  intro a ha
  have HW := Wd.refl w
  unfold frame_Put.f at h
  refine wp_seq_k (fun K366 hK367 => ?_)
  refine wp_region_lit ?_
  refine stepp ha 4 (.string (⟨#[]⟩ : ByteArray)) KR KR ?_; clear ha a; intro a ha
  refine stepp ha 5 (.int .i64 0) KR KR ?_; clear ha a; intro a ha
  refine endl ?_
  refine thenN (hK367 _ _ ?_); clear hK367
  refine wp_seq_k (fun K368 hK369 => ?_)
  refine wp_seq_k (fun K370 hK371 => ?_)
  refine wp_region_lit ?_
  refine stepp ha 7 (.string a1) KR KR ?_; clear ha a; intro a ha
  refine stepp ha 8 (.int .i64 (a1.size : Int)) KR KR ?_; clear ha a; intro a ha
  refine stepp ha 9 (.bool (decide ((a1.size : Int) > 65536))) KR KR ?_; clear ha a; intro a ha
  refine endl ?_
  refine thenN (hK371 _ _ ?_); clear hK371
  by_cases hp372 : (a1.size : Int) > 65536
  · skip
    replace h := ite_pos' h hp372
    refine condT ha KR KR (t := decide ((a1.size : Int) > 65536)) (decide_eq_true hp372) ?_
    refine wp_seq_k (fun K373 hK374 => ?_)
    refine wp_region_lit ?_
    refine stepp ha 4 (.string (⟨#[]⟩ : ByteArray)) KR KR ?_; clear ha a; intro a ha
    refine stepp ha 5 (.int .i64 2) KR KR ?_; clear ha a; intro a ha
    refine endl ?_
    refine thenN (hK374 _ _ ?_); clear hK374
    refine wp_ret ?_
    refine thenR ?_
    obtain rfl := Option.some.inj h
    exact finv ha _ _ rfl (.tmp (v := .string (⟨#[]⟩ : ByteArray)) KR (.tmp (v := .int .i64 2) KR .nil)) (.tuple #[.string (⟨#[]⟩ : ByteArray), .int .i64 2]) rfl ⟨rfl, HW.pick [] [] (by decide) (by decide) rfl KR⟩
  · skip
    replace h := ite_neg' h hp372
    refine condF ha KR KR (t := decide ((a1.size : Int) > 65536)) (decide_eq_false hp372) ?_
    refine wp_skip ?_
    refine thenN (hK369 _ _ ?_); clear hK369
    refine wp_seq_k (fun K375 hK376 => ?_)
    refine wp_region_lit ?_
    refine stepp ha 10 (.int .u64 a0) KR KR ?_; clear ha a; intro a ha
    obtain ⟨t377, ht378, h_⟩ := bind_some' h; clear h; have h := h_; clear h_
    refine stepc ha 11 KR KR (fields_PutBig.calls K a0 8 t377 _ ht378) ?_; clear ha a; rintro e W379 ⟨rfl, HX380⟩
    refine ⟨_, rfl, ?_⟩; intro a ha; replace HW := HW.callw HX380; clear HX380
    obtain ⟨hA381, h_⟩ := asrt_some h; clear h; have h := h_; clear h_
    refine stepsa ha 12 9 9 (.const (.string (⟨#[72, 71, 70, 82]⟩ : ByteArray))) (.tmp 11) (⟨#[72, 71, 70, 82]⟩ : ByteArray) t377 rfl KR KR (show ((⟨#[72, 71, 70, 82]⟩ : ByteArray)).size + (t377).size ≤ 9223372036854775807 from hA381) KR ?_; clear ha a; intro a ha
    refine stepp ha 13 (.string a1) KR KR ?_; clear ha a; intro a ha
    refine stepp ha 14 (.int .i64 (a1.size : Int)) KR KR ?_; clear ha a; intro a ha
    refine stepp ha 15 (.int .u64 (IntKind.wrap .u64 (a1.size : Int))) KR KR ?_; clear ha a; intro a ha
    obtain ⟨t382, ht383, h_⟩ := bind_some' h; clear h; have h := h_; clear h_
    refine stepc ha 16 KR KR (fields_PutBig.calls K (IntKind.wrap .u64 (a1.size : Int)) 4 t382 _ ht383) ?_; clear ha a; rintro e W384 ⟨rfl, HX385⟩
    refine ⟨_, rfl, ?_⟩; intro a ha; replace HW := HW.callw HX385; clear HX385
    obtain ⟨hA386, h_⟩ := asrt_some h; clear h; have h := h_; clear h_
    refine stepsa ha 17 9 9 (.tmp 12) (.tmp 16) ((⟨#[72, 71, 70, 82]⟩ : ByteArray) ++ t377) t382 rfl KR KR (show ((⟨#[72, 71, 70, 82]⟩ : ByteArray) ++ t377).size + (t382).size ≤ 9223372036854775807 from hA386) KR ?_; clear ha a; intro a ha
    refine stepp ha 6 (.string (((⟨#[72, 71, 70, 82]⟩ : ByteArray) ++ t377) ++ t382)) KR KR ?_; clear ha a; intro a ha
    refine endl ?_
    refine thenN (hK376 _ _ ?_); clear hK376
    refine wp_seq_k (fun K387 hK388 => ?_)
    refine wp_region_lit ?_
    refine stepp ha 18 (.string (((⟨#[72, 71, 70, 82]⟩ : ByteArray) ++ t377) ++ t382)) KR KR ?_; clear ha a; intro a ha
    refine stepp ha 19 (.string (((⟨#[72, 71, 70, 82]⟩ : ByteArray) ++ t377) ++ t382)) KR KR ?_; clear ha a; intro a ha
    obtain ⟨t389, ht390, h_⟩ := bind_some' h; clear h; have h := h_; clear h_
    refine stepc ha 20 KR KR (crc_Digest.calls K (((⟨#[72, 71, 70, 82]⟩ : ByteArray) ++ t377) ++ t382) t389 _ (HW.ca0 hG0) ht390) ?_; clear ha a; rintro e W391 ⟨rfl, HX392⟩
    refine ⟨_, rfl, ?_⟩; intro a ha; replace HW := HW.callw HX392; clear HX392
    obtain ⟨hA393, h_⟩ := asrt_some h; clear h; have h := h_; clear h_
    refine stepsa ha 21 9 9 (.tmp 18) (.tmp 20) (((⟨#[72, 71, 70, 82]⟩ : ByteArray) ++ t377) ++ t382) t389 rfl KR KR (show (((⟨#[72, 71, 70, 82]⟩ : ByteArray) ++ t377) ++ t382).size + (t389).size ≤ 9223372036854775807 from hA393) KR ?_; clear ha a; intro a ha
    refine stepp ha 22 (.string a1) KR KR ?_; clear ha a; intro a ha
    obtain ⟨hA394, h_⟩ := asrt_some h; clear h; have h := h_; clear h_
    refine stepsa ha 23 9 9 (.tmp 21) (.tmp 22) ((((⟨#[72, 71, 70, 82]⟩ : ByteArray) ++ t377) ++ t382) ++ t389) a1 rfl KR KR (show ((((⟨#[72, 71, 70, 82]⟩ : ByteArray) ++ t377) ++ t382) ++ t389).size + (a1).size ≤ 9223372036854775807 from hA394) KR ?_; clear ha a; intro a ha
    refine stepp ha 24 (.string a1) KR KR ?_; clear ha a; intro a ha
    obtain ⟨t395, ht396, h_⟩ := bind_some' h; clear h; have h := h_; clear h_
    refine stepc ha 25 KR KR (crc_Digest.calls K a1 t395 _ (HW.ca0 hG0) ht396) ?_; clear ha a; rintro e W397 ⟨rfl, HX398⟩
    refine ⟨_, rfl, ?_⟩; intro a ha; replace HW := HW.callw HX398; clear HX398
    obtain ⟨hA399, h_⟩ := asrt_some h; clear h; have h := h_; clear h_
    refine stepsa ha 26 9 9 (.tmp 23) (.tmp 25) (((((⟨#[72, 71, 70, 82]⟩ : ByteArray) ++ t377) ++ t382) ++ t389) ++ a1) t395 rfl KR KR (show (((((⟨#[72, 71, 70, 82]⟩ : ByteArray) ++ t377) ++ t382) ++ t389) ++ a1).size + (t395).size ≤ 9223372036854775807 from hA399) KR ?_; clear ha a; intro a ha
    obtain ⟨t400, ht401, h_⟩ := bind_some' h; clear h; have h := h_; clear h_
    refine stepc ha 27 KR KR (fields_Pad.calls ((((((⟨#[72, 71, 70, 82]⟩ : ByteArray) ++ t377) ++ t382) ++ t389) ++ a1) ++ t395) 512 t400 _ ht401) ?_; clear ha a; rintro e W402 ⟨rfl, HX403⟩
    refine ⟨_, rfl, ?_⟩; intro a ha; replace HW := HW.callw HX403; clear HX403
    refine stepp ha 4 (.string t400) KR KR ?_; clear ha a; intro a ha
    refine stepp ha 5 (.int .i64 0) KR KR ?_; clear ha a; intro a ha
    refine endl ?_
    refine thenN (hK388 _ _ ?_); clear hK388
    refine wp_ret ?_
    obtain rfl := Option.some.inj h
    exact finv ha _ _ rfl (.tmp (v := .string t400) KR (.tmp (v := .int .i64 0) KR .nil)) (.tuple #[.string t400, .int .i64 0]) rfl ⟨rfl, HW.pick [] [] (by decide) (by decide) rfl KR⟩
/-! ### headgate/frame.Sectors: function 12 -/
def frame_Sectors.f (a0 : Int) : Option Int :=
  if a0 < 0 then (some 0) else (if a0 > 65536 then (some 0) else (some (IntKind.wrap .i64 (Int.tdiv (IntKind.wrap .i64 ((IntKind.wrap .i64 ((IntKind.wrap .i64 (a0 + 24)) + 512)) - 1)) 512))))
set_option maxRecDepth 100000 in
set_option maxHeartbeats 4000000 in
theorem frame_Sectors.calls (a0 : Int)  (r : Int) (w : World)  (h : frame_Sectors.f a0 = some r) :
    Calls Tryd.prog 12 #[.int .i64 a0] w (fun e W' => e = .returned (.int .i64 r) ∧ Wd w W' [] [] ) := by
  refine sxstart (n := 14) (l := [(0, .int .i64 a0)]) Tryd.func12 rfl rfl (Nat.le_of_ble_eq_true KR) (subsA_cons rfl (subsA_nil _)) ?_
  intro a ha
  have HW := Wd.refl w
  unfold frame_Sectors.f at h
  refine wp_seq_k (fun K404 hK405 => ?_)
  refine wp_region_lit ?_
  refine stepp ha 2 (.int .i64 0) KR KR ?_; clear ha a; intro a ha
  refine endl ?_
  refine thenN (hK405 _ _ ?_); clear hK405
  refine wp_seq_k (fun K406 hK407 => ?_)
  refine wp_seq_k (fun K408 hK409 => ?_)
  refine wp_region_lit ?_
  refine stepp ha 3 (.int .i64 a0) KR KR ?_; clear ha a; intro a ha
  refine stepp ha 4 (.bool (decide (a0 < 0))) KR KR ?_; clear ha a; intro a ha
  refine stepp ha 5 (.bool (decide (a0 < 0))) KR KR ?_; clear ha a; intro a ha
  by_cases hp410 : a0 < 0
  · skip
    replace h := ite_pos' h hp410
    replace ha := ha.bool 5 KR (decide_eq_true hp410)
    refine stepo ha 6 KR ?_; clear ha a; intro a ha
    refine stepo ha 7 KR ?_; clear ha a; intro a ha
    refine stepp ha 8 (.bool true) KR KR ?_; clear ha a; intro a ha
    refine endl ?_
    refine thenN (hK409 _ _ ?_); clear hK409
    refine condT ha KR KR (t := true) (rfl) ?_
    refine wp_seq_k (fun K411 hK412 => ?_)
    refine wp_region_lit ?_
    refine stepp ha 2 (.int .i64 0) KR KR ?_; clear ha a; intro a ha
    refine endl ?_
    refine thenN (hK412 _ _ ?_); clear hK412
    refine wp_ret ?_
    refine thenR ?_
    obtain rfl := Option.some.inj h
    exact finv ha _ _ rfl (.tmp (v := .int .i64 0) KR .nil) (.int .i64 0) rfl ⟨rfl, HW.pick [] [] (by decide) (by decide) rfl KR⟩
  · skip
    replace h := ite_neg' h hp410
    replace ha := ha.bool 5 KR (decide_eq_false hp410)
    refine stepp ha 6 (.int .i64 a0) KR KR ?_; clear ha a; intro a ha
    refine stepp ha 7 (.bool (decide (a0 > 65536))) KR KR ?_; clear ha a; intro a ha
    refine stepp ha 8 (.bool (decide (a0 > 65536))) KR KR ?_; clear ha a; intro a ha
    refine endl ?_
    refine thenN (hK409 _ _ ?_); clear hK409
    by_cases hp413 : a0 > 65536
    · skip
      replace h := ite_pos' h hp413
      refine condT ha KR KR (t := decide (a0 > 65536)) (decide_eq_true hp413) ?_
      refine wp_seq_k (fun K414 hK415 => ?_)
      refine wp_region_lit ?_
      refine stepp ha 2 (.int .i64 0) KR KR ?_; clear ha a; intro a ha
      refine endl ?_
      refine thenN (hK415 _ _ ?_); clear hK415
      refine wp_ret ?_
      refine thenR ?_
      obtain rfl := Option.some.inj h
      exact finv ha _ _ rfl (.tmp (v := .int .i64 0) KR .nil) (.int .i64 0) rfl ⟨rfl, HW.pick [] [] (by decide) (by decide) rfl KR⟩
    · skip
      replace h := ite_neg' h hp413
      refine condF ha KR KR (t := decide (a0 > 65536)) (decide_eq_false hp413) ?_
      refine wp_skip ?_
      refine thenN (hK407 _ _ ?_); clear hK407
      refine wp_seq_k (fun K416 hK417 => ?_)
      refine wp_region_lit ?_
      refine stepp ha 9 (.int .i64 a0) KR KR ?_; clear ha a; intro a ha
      refine stepp ha 10 (.int .i64 (IntKind.wrap .i64 (a0 + 24))) KR KR ?_; clear ha a; intro a ha
      refine stepp ha 11 (.int .i64 (IntKind.wrap .i64 ((IntKind.wrap .i64 (a0 + 24)) + 512))) KR KR ?_; clear ha a; intro a ha
      refine stepp ha 12 (.int .i64 (IntKind.wrap .i64 ((IntKind.wrap .i64 ((IntKind.wrap .i64 (a0 + 24)) + 512)) - 1))) KR KR ?_; clear ha a; intro a ha
      refine stepp ha 13 (.int .i64 (IntKind.wrap .i64 (Int.tdiv (IntKind.wrap .i64 ((IntKind.wrap .i64 ((IntKind.wrap .i64 (a0 + 24)) + 512)) - 1)) 512))) KR KR ?_; clear ha a; intro a ha
      refine stepp ha 2 (.int .i64 (IntKind.wrap .i64 (Int.tdiv (IntKind.wrap .i64 ((IntKind.wrap .i64 ((IntKind.wrap .i64 (a0 + 24)) + 512)) - 1)) 512))) KR KR ?_; clear ha a; intro a ha
      refine endl ?_
      refine thenN (hK417 _ _ ?_); clear hK417
      refine wp_ret ?_
      obtain rfl := Option.some.inj h
      exact finv ha _ _ rfl (.tmp (v := .int .i64 (IntKind.wrap .i64 (Int.tdiv (IntKind.wrap .i64 ((IntKind.wrap .i64 ((IntKind.wrap .i64 (a0 + 24)) + 512)) - 1)) 512))) KR .nil) (.int .i64 (IntKind.wrap .i64 (Int.tdiv (IntKind.wrap .i64 ((IntKind.wrap .i64 ((IntKind.wrap .i64 (a0 + 24)) + 512)) - 1)) 512))) rfl ⟨rfl, HW.pick [] [] (by decide) (by decide) rfl KR⟩
/-! ### headgate/fields.get[uint64]: function 44 -/
def fields_get_uint64.b0 (K : Nat) (a0 : ByteArray) (a1 : Int) (t442 : List Int) (again485 : Int → Int → Option (Int × Bool)) (x486 : Int) (x487 : Int) : Option (Int × Bool) :=
  if x487 < (t442.length : Int) then (asrt (0 ≤ x487) (asrt (0 ≤ (IntKind.wrap .i64 (a1 + x487))) (asrt ((IntKind.wrap .i64 (a1 + x487)) < (a0.size : Int)) (asrt (0 ≤ (rdL (0 : Int) t442 x487)) (again485 (bor .u64 x486 (sshl .u64 (IntKind.wrap .u64 (bt a0 (IntKind.wrap .i64 (a1 + x487)))) (rdL (0 : Int) t442 x487))) (IntKind.wrap .i64 (x487 + 1))))))) else (some (x486, true))
def fields_get_uint64.l0 (K : Nat) (a0 : ByteArray) (a1 : Int) (t442 : List Int) : Nat → Int → Int → Option (Int × Bool)
  | 0, _, _ => none
  | k_ + 1, x486, x487 => fields_get_uint64.b0 K a0 a1 t442 (fields_get_uint64.l0 K a0 a1 t442 k_) x486 x487
def fields_get_uint64.f (K : Nat) (a0 : ByteArray) (a1 : Int) (a2 : Int) (a3 : Bool) : Option (Int × Bool) :=
  if a2 < 1 then (some (0, false)) else (if a2 > 8 then (some (0, false)) else (if a1 < 0 then (some (0, false)) else (if a1 > (IntKind.wrap .i64 ((a0.size : Int) - a2)) then (some (0, false)) else ((fields_shifts.f K a2 a3).bind fun t442 => (fields_get_uint64.l0 K a0 a1 t442 K 0 0)))))
set_option maxRecDepth 100000 in
set_option maxHeartbeats 4000000 in
theorem fields_get_uint64.calls (K : Nat) (a0 : ByteArray) (a1 : Int) (a2 : Int) (a3 : Bool)  (r : Int × Bool) (w : World)  (h : fields_get_uint64.f K a0 a1 a2 a3 = some r) :
    Calls Tryd.prog 44 #[.string a0, .int .i64 a1, .int .i64 a2, .bool a3] w (fun e W' => e = .returned (.tuple #[.int .u64 r.1, .bool r.2]) ∧ Wd w W' [] [] ) := by
  refine sxstart (n := 52) (l := [(0, .string a0), (1, .int .i64 a1), (2, .int .i64 a2), (3, .bool a3)]) Tryd.func44 rfl rfl (Nat.le_of_ble_eq_true KR) (subsA_cons rfl (subsA_cons rfl (subsA_cons rfl (subsA_cons rfl (subsA_nil _))))) ?_
  intro a ha
  have HW := Wd.refl w
  unfold fields_get_uint64.f at h
  refine wp_seq_k (fun K418 hK419 => ?_)
  refine wp_region_lit ?_
  refine stepp ha 8 (.int .u64 0) KR KR ?_; clear ha a; intro a ha
  refine stepp ha 9 (.bool false) KR KR ?_; clear ha a; intro a ha
  refine endl ?_
  refine thenN (hK419 _ _ ?_); clear hK419
  refine wp_seq_k (fun K420 hK421 => ?_)
  refine wp_seq_k (fun K422 hK423 => ?_)
  refine wp_region_lit ?_
  refine stepp ha 13 (.int .i64 a2) KR KR ?_; clear ha a; intro a ha
  refine stepp ha 14 (.bool (decide (a2 < 1))) KR KR ?_; clear ha a; intro a ha
  refine stepp ha 15 (.bool (decide (a2 < 1))) KR KR ?_; clear ha a; intro a ha
  by_cases hp424 : a2 < 1
  · skip
    replace h := ite_pos' h hp424
    replace ha := ha.bool 15 KR (decide_eq_true hp424)
    refine stepo ha 16 KR ?_; clear ha a; intro a ha
    refine stepo ha 17 KR ?_; clear ha a; intro a ha
    refine stepp ha 18 (.bool true) KR KR ?_; clear ha a; intro a ha
    refine stepp ha 19 (.bool true) KR KR ?_; clear ha a; intro a ha
    refine stepo ha 20 KR ?_; clear ha a; intro a ha
    refine stepo ha 21 KR ?_; clear ha a; intro a ha
    refine stepp ha 22 (.bool true) KR KR ?_; clear ha a; intro a ha
    refine stepp ha 23 (.bool true) KR KR ?_; clear ha a; intro a ha
    refine stepo ha 24 KR ?_; clear ha a; intro a ha
    refine stepo ha 25 KR ?_; clear ha a; intro a ha
    refine stepo ha 26 KR ?_; clear ha a; intro a ha
    refine stepo ha 27 KR ?_; clear ha a; intro a ha
    refine stepo ha 28 KR ?_; clear ha a; intro a ha
    refine stepo ha 29 KR ?_; clear ha a; intro a ha
    refine stepp ha 30 (.bool true) KR KR ?_; clear ha a; intro a ha
    refine endl ?_
    refine thenN (hK423 _ _ ?_); clear hK423
    refine condT ha KR KR (t := true) (rfl) ?_
    refine wp_seq_k (fun K427 hK428 => ?_)
    refine wp_region_lit ?_
    refine stepp ha 8 (.int .u64 0) KR KR ?_; clear ha a; intro a ha
    refine stepp ha 9 (.bool false) KR KR ?_; clear ha a; intro a ha
    refine endl ?_
    refine thenN (hK428 _ _ ?_); clear hK428
    refine wp_ret ?_
    refine thenR ?_
    obtain rfl := Option.some.inj h
    exact finv ha _ _ rfl (.tmp (v := .int .u64 0) KR (.tmp (v := .bool false) KR .nil)) (.tuple #[.int .u64 0, .bool false]) rfl ⟨rfl, HW.pick [] [] (by decide) (by decide) rfl KR⟩
  · skip
    replace h := ite_neg' h hp424
    replace ha := ha.bool 15 KR (decide_eq_false hp424)
    refine stepp ha 16 (.int .i64 a2) KR KR ?_; clear ha a; intro a ha
    refine stepp ha 17 (.bool (decide (a2 > 8))) KR KR ?_; clear ha a; intro a ha
    refine stepp ha 18 (.bool (decide (a2 > 8))) KR KR ?_; clear ha a; intro a ha
    refine stepp ha 19 (.bool (decide (a2 > 8))) KR KR ?_; clear ha a; intro a ha
    by_cases hp425 : a2 > 8
    · skip
      replace h := ite_pos' h hp425
      replace ha := ha.bool 19 KR (decide_eq_true hp425)
      refine stepo ha 20 KR ?_; clear ha a; intro a ha
      refine stepo ha 21 KR ?_; clear ha a; intro a ha
      refine stepp ha 22 (.bool true) KR KR ?_; clear ha a; intro a ha
      refine stepp ha 23 (.bool true) KR KR ?_; clear ha a; intro a ha
      refine stepo ha 24 KR ?_; clear ha a; intro a ha
      refine stepo ha 25 KR ?_; clear ha a; intro a ha
      refine stepo ha 26 KR ?_; clear ha a; intro a ha
      refine stepo ha 27 KR ?_; clear ha a; intro a ha
      refine stepo ha 28 KR ?_; clear ha a; intro a ha
      refine stepo ha 29 KR ?_; clear ha a; intro a ha
      refine stepp ha 30 (.bool true) KR KR ?_; clear ha a; intro a ha
      refine endl ?_
      refine thenN (hK423 _ _ ?_); clear hK423
      refine condT ha KR KR (t := true) (rfl) ?_
      refine wp_seq_k (fun K429 hK430 => ?_)
      refine wp_region_lit ?_
      refine stepp ha 8 (.int .u64 0) KR KR ?_; clear ha a; intro a ha
      refine stepp ha 9 (.bool false) KR KR ?_; clear ha a; intro a ha
      refine endl ?_
      refine thenN (hK430 _ _ ?_); clear hK430
      refine wp_ret ?_
      refine thenR ?_
      obtain rfl := Option.some.inj h
      exact finv ha _ _ rfl (.tmp (v := .int .u64 0) KR (.tmp (v := .bool false) KR .nil)) (.tuple #[.int .u64 0, .bool false]) rfl ⟨rfl, HW.pick [] [] (by decide) (by decide) rfl KR⟩
    · skip
      replace h := ite_neg' h hp425
      replace ha := ha.bool 19 KR (decide_eq_false hp425)
      refine stepp ha 20 (.int .i64 a1) KR KR ?_; clear ha a; intro a ha
      refine stepp ha 21 (.bool (decide (a1 < 0))) KR KR ?_; clear ha a; intro a ha
      refine stepp ha 22 (.bool (decide (a1 < 0))) KR KR ?_; clear ha a; intro a ha
      refine stepp ha 23 (.bool (decide (a1 < 0))) KR KR ?_; clear ha a; intro a ha
      by_cases hp426 : a1 < 0
      · skip
        replace h := ite_pos' h hp426
        replace ha := ha.bool 23 KR (decide_eq_true hp426)
        refine stepo ha 24 KR ?_; clear ha a; intro a ha
        refine stepo ha 25 KR ?_; clear ha a; intro a ha
        refine stepo ha 26 KR ?_; clear ha a; intro a ha
        refine stepo ha 27 KR ?_; clear ha a; intro a ha
        refine stepo ha 28 KR ?_; clear ha a; intro a ha
        refine stepo ha 29 KR ?_; clear ha a; intro a ha
        refine stepp ha 30 (.bool true) KR KR ?_; clear ha a; intro a ha
        refine endl ?_
        refine thenN (hK423 _ _ ?_); clear hK423
        refine condT ha KR KR (t := true) (rfl) ?_
        refine wp_seq_k (fun K431 hK432 => ?_)
        refine wp_region_lit ?_
        refine stepp ha 8 (.int .u64 0) KR KR ?_; clear ha a; intro a ha
        refine stepp ha 9 (.bool false) KR KR ?_; clear ha a; intro a ha
        refine endl ?_
        refine thenN (hK432 _ _ ?_); clear hK432
        refine wp_ret ?_
        refine thenR ?_
        obtain rfl := Option.some.inj h
        exact finv ha _ _ rfl (.tmp (v := .int .u64 0) KR (.tmp (v := .bool false) KR .nil)) (.tuple #[.int .u64 0, .bool false]) rfl ⟨rfl, HW.pick [] [] (by decide) (by decide) rfl KR⟩
      · skip
        replace h := ite_neg' h hp426
        replace ha := ha.bool 23 KR (decide_eq_false hp426)
        refine stepp ha 24 (.int .i64 a1) KR KR ?_; clear ha a; intro a ha
        refine stepp ha 25 (.string a0) KR KR ?_; clear ha a; intro a ha
        refine stepp ha 26 (.int .i64 (a0.size : Int)) KR KR ?_; clear ha a; intro a ha
        refine stepp ha 27 (.int .i64 a2) KR KR ?_; clear ha a; intro a ha
        refine stepp ha 28 (.int .i64 (IntKind.wrap .i64 ((a0.size : Int) - a2))) KR KR ?_; clear ha a; intro a ha
        refine stepp ha 29 (.bool (decide (a1 > (IntKind.wrap .i64 ((a0.size : Int) - a2))))) KR KR ?_; clear ha a; intro a ha
        refine stepp ha 30 (.bool (decide (a1 > (IntKind.wrap .i64 ((a0.size : Int) - a2))))) KR KR ?_; clear ha a; intro a ha
        refine endl ?_
        refine thenN (hK423 _ _ ?_); clear hK423
        by_cases hp433 : a1 > (IntKind.wrap .i64 ((a0.size : Int) - a2))
        · skip
          replace h := ite_pos' h hp433
          refine condT ha KR KR (t := decide (a1 > (IntKind.wrap .i64 ((a0.size : Int) - a2)))) (decide_eq_true hp433) ?_
          refine wp_seq_k (fun K434 hK435 => ?_)
          refine wp_region_lit ?_
          refine stepp ha 8 (.int .u64 0) KR KR ?_; clear ha a; intro a ha
          refine stepp ha 9 (.bool false) KR KR ?_; clear ha a; intro a ha
          refine endl ?_
          refine thenN (hK435 _ _ ?_); clear hK435
          refine wp_ret ?_
          refine thenR ?_
          obtain rfl := Option.some.inj h
          exact finv ha _ _ rfl (.tmp (v := .int .u64 0) KR (.tmp (v := .bool false) KR .nil)) (.tuple #[.int .u64 0, .bool false]) rfl ⟨rfl, HW.pick [] [] (by decide) (by decide) rfl KR⟩
        · skip
          replace h := ite_neg' h hp433
          refine condF ha KR KR (t := decide (a1 > (IntKind.wrap .i64 ((a0.size : Int) - a2)))) (decide_eq_false hp433) ?_
          refine wp_skip ?_
          refine thenN (hK421 _ _ ?_); clear hK421
          refine wp_seq_k (fun K436 hK437 => ?_)
          refine wp_region_lit ?_
          refine stepp ha 10 (.int .u64 0) KR KR ?_; clear ha a; intro a ha
          refine endl ?_
          refine thenN (hK437 _ _ ?_); clear hK437
          refine wp_seq_k (fun K438 hK439 => ?_)
          refine wp_seq_k (fun K440 hK441 => ?_)
          refine wp_region_lit ?_
          refine stepp ha 31 (.int .i64 a2) KR KR ?_; clear ha a; intro a ha
          refine stepp ha 32 (.bool a3) KR KR ?_; clear ha a; intro a ha
          obtain ⟨t442, ht443, h_⟩ := bind_some' h; clear h; have h := h_; clear h_
          refine stepc ha 33 KR KR (fields_shifts.calls K a2 a3 t442 _ ht443) ?_; clear ha a; rintro e W447 ⟨A444, c445, rfl, HX448⟩
          refine ⟨_, rfl, ?_⟩; intro a ha; replace HW := HW.callw HX448; clear HX448
          refine stepp ha 34 (.int .i64 (t442.length : Int)) KR KR ?_; clear ha a; intro a ha
          refine stepp ha 35 (.int .i64 0) KR KR ?_; clear ha a; intro a ha
          refine endl ?_
          refine thenN (hK441 _ _ ?_); clear hK441
          refine wp_block ?_
          refine loopk (fun k => fun a W488 => ∃ (x486 : Int), ∃ (x487 : Int), fields_get_uint64.l0 K a0 a1 t442 k x486 x487 = some r ∧ Has 52 [(0, .string a0), (1, .int .i64 a1), (10, .int .u64 x486), (33, .slice A444 t442.length c445), (34, .int .i64 (t442.length : Int)), (35, .int .i64 x487)] a ∧ Wd w W488 [] [⟨3, 1, .slice A444 t442.length c445, t442.length, encs (encIK .i64) t442⟩]) K ?_ ?_
          · skip
            exact ⟨0, 0, h, ha.sub (subs_cons KR (subs_cons KR (subs_cons KR (subs_cons KR (subs_cons KR (subs_cons KR (subs_nil _))))))), HW.pick [] [0] (by decide) (by decide) KR KR⟩
          · skip
            intro k a W488 hI
            obtain ⟨x486, x487, h, ha, HW⟩ := hI
            cases k with
            | zero => exact (none_some (show none = some r from h)).elim
            | succ k489 =>
              replace h : fields_get_uint64.b0 K a0 a1 t442 (fields_get_uint64.l0 K a0 a1 t442 k489) x486 x487 = some r := h
              obtain ⟨again485, hag490⟩ : ∃ g_, g_ = fields_get_uint64.l0 K a0 a1 t442 k489 := ⟨_, rfl⟩
              rw [← hag490] at h
              unfold fields_get_uint64.b0 at h
              refine wp_seq_k (fun K491 hK492 => ?_)
              refine wp_region_lit ?_
              refine stepp ha 36 (.bool (decide (x487 < (t442.length : Int)))) KR KR ?_; clear ha a; intro a ha
              refine endl ?_
              refine thenN (hK492 _ _ ?_); clear hK492
              refine wp_seq_k (fun K493 hK494 => ?_)
              by_cases hp495 : x487 < (t442.length : Int)
              · skip
                replace h := ite_pos' h hp495
                refine condT ha KR KR (t := decide (x487 < (t442.length : Int))) (decide_eq_true hp495) ?_
                refine wp_skip ?_
                refine thenN (hK494 _ _ ?_); clear hK494
                refine wp_seq_k (fun K496 hK497 => ?_)
                refine wp_block ?_
                refine wp_seq_k (fun K498 hK499 => ?_)
                refine wp_region_lit ?_
                refine stepp ha 37 (.int .i64 x487) KR KR ?_; clear ha a; intro a ha
                obtain ⟨hA500, h_⟩ := asrt_some h; clear h; have h := h_; clear h_
                refine stepie (encIK .i64) (0 : Int) ha 38 (fun _ => rfl) (v := .slice A444 t442.length c445) (xs := t442) (HW.rdo (i := 0) (q := ⟨3, 1, .slice A444 t442.length c445, t442.length, encs (encIK .i64) t442⟩) KR) 83 3 (.tmp 33) (.tmp 35) .i64 x487 rfl KR KR KR KR hA500 (show (x487 : Int) < ((t442).length : Int) from hp495) KR ?_; clear ha a; intro b501 off502 a hC503 ha
                refine stepl ha 39 hC503 3 0 (.tmp 38) (.int .i64 (rdL (0 : Int) t442 x487)) rfl KR KR KR ?_; clear ha a; intro a ha
                refine stepp ha 11 (.int .i64 x487) KR KR ?_; clear ha a; intro a ha
                refine stepp ha 12 (.int .i64 (rdL (0 : Int) t442 x487)) KR KR ?_; clear ha a; intro a ha
                refine endl ?_
                refine thenN (hK499 _ _ ?_); clear hK499
                refine wp_region_lit ?_
                refine stepp ha 40 (.int .u64 x486) KR KR ?_; clear ha a; intro a ha
                refine stepp ha 41 (.string a0) KR KR ?_; clear ha a; intro a ha
                refine stepp ha 42 (.int .i64 a1) KR KR ?_; clear ha a; intro a ha
                refine stepp ha 43 (.int .i64 x487) KR KR ?_; clear ha a; intro a ha
                refine stepp ha 44 (.int .i64 (IntKind.wrap .i64 (a1 + x487))) KR KR ?_; clear ha a; intro a ha
                obtain ⟨hA504, h_⟩ := asrt_some h; clear h; have h := h_; clear h_
                obtain ⟨hA505, h_⟩ := asrt_some h; clear h; have h := h_; clear h_
                refine stepsi ha 45 9 (.tmp 41) (.tmp 44) a0 .i64 (IntKind.wrap .i64 (a1 + x487)) rfl KR KR KR hA504 (show (IntKind.wrap .i64 (a1 + x487) : Int) < ((a0).size : Int) from hA505) KR ?_; clear ha a; intro a ha
                refine stepp ha 46 (.int .u64 (IntKind.wrap .u64 (bt a0 (IntKind.wrap .i64 (a1 + x487))))) KR KR ?_; clear ha a; intro a ha
                refine stepp ha 47 (.int .i64 (rdL (0 : Int) t442 x487)) KR KR ?_; clear ha a; intro a ha
                obtain ⟨hA506, h_⟩ := asrt_some h; clear h; have h := h_; clear h_
                refine stepshl ha 48 22 3 (.tmp 46) (.tmp 47) .u64 .i64 (IntKind.wrap .u64 (bt a0 (IntKind.wrap .i64 (a1 + x487)))) (rdL (0 : Int) t442 x487) rfl KR KR hA506 KR ?_; clear ha a; intro a ha
                refine stepp ha 49 (.int .u64 (bor .u64 x486 (sshl .u64 (IntKind.wrap .u64 (bt a0 (IntKind.wrap .i64 (a1 + x487)))) (rdL (0 : Int) t442 x487)))) KR KR ?_; clear ha a; intro a ha
                refine stepp ha 10 (.int .u64 (bor .u64 x486 (sshl .u64 (IntKind.wrap .u64 (bt a0 (IntKind.wrap .i64 (a1 + x487)))) (rdL (0 : Int) t442 x487)))) KR KR ?_; clear ha a; intro a ha
                refine endl ?_
                refine blkN ?_
                refine thenN (hK497 _ _ ?_); clear hK497
                refine wp_region_lit ?_
                refine stepp ha 50 (.int .i64 (IntKind.wrap .i64 (x487 + 1))) KR KR ?_; clear ha a; intro a ha
                refine stepp ha 35 (.int .i64 (IntKind.wrap .i64 (x487 + 1))) KR KR ?_; clear ha a; intro a ha
                refine endl ?_
                exact thenN ⟨k489, Nat.lt_succ_self k489, bor .u64 x486 (sshl .u64 (IntKind.wrap .u64 (bt a0 (IntKind.wrap .i64 (a1 + x487)))) (rdL (0 : Int) t442 x487)), IntKind.wrap .i64 (x487 + 1), (by rw [← hag490]; exact h), ha.sub (subs_cons KR (subs_cons KR (subs_cons KR (subs_cons KR (subs_cons KR (subs_cons KR (subs_nil _))))))), HW.pick [] [0] (by decide) (by decide) KR KR⟩
              · skip
                replace h := ite_neg' h hp495
                refine condF ha KR KR (t := decide (x487 < (t442.length : Int))) (decide_eq_false hp495) ?_
                refine wp_exit ?_
                refine thenE ?_
                refine thenE ?_
                refine inBlk ?_
                refine thenN (hK439 _ _ ?_); clear hK439
                refine wp_seq_k (fun K507 hK508 => ?_)
                refine wp_region_lit ?_
                refine stepp ha 51 (.int .u64 x486) KR KR ?_; clear ha a; intro a ha
                refine stepp ha 8 (.int .u64 x486) KR KR ?_; clear ha a; intro a ha
                refine stepp ha 9 (.bool true) KR KR ?_; clear ha a; intro a ha
                refine endl ?_
                refine thenN (hK508 _ _ ?_); clear hK508
                refine wp_ret ?_
                obtain rfl := Option.some.inj h
                exact finv ha _ _ rfl (.tmp (v := .int .u64 x486) KR (.tmp (v := .bool true) KR .nil)) (.tuple #[.int .u64 x486, .bool true]) rfl ⟨rfl, HW.pick [] [] (by decide) (by decide) rfl KR⟩
/-! ### headgate/fields.Big: function 32 -/
def fields_Big.f (K : Nat) (a0 : ByteArray) (a1 : Int) (a2 : Int) : Option (Int × Bool) :=
  (fields_get_uint64.f K a0 a1 a2 true).bind fun t513 => (some (t513.1, t513.2))
set_option maxRecDepth 100000 in
set_option maxHeartbeats 4000000 in
theorem fields_Big.calls (K : Nat) (a0 : ByteArray) (a1 : Int) (a2 : Int)  (r : Int × Bool) (w : World)  (h : fields_Big.f K a0 a1 a2 = some r) :
    Calls Tryd.prog 32 #[.string a0, .int .i64 a1, .int .i64 a2] w (fun e W' => e = .returned (.tuple #[.int .u64 r.1, .bool r.2]) ∧ Wd w W' [] [] ) := by
  refine sxstart (n := 14) (l := [(0, .string a0), (1, .int .i64 a1), (2, .int .i64 a2)]) Tryd.func32 rfl rfl (Nat.le_of_ble_eq_true KR) (subsA_cons rfl (subsA_cons rfl (subsA_cons rfl (subsA_nil _)))) ?_
  intro a ha
  have HW := Wd.refl w
  unfold fields_Big.f at h
  refine wp_seq_k (fun K509 hK510 => ?_)
  refine wp_region_lit ?_
  refine stepp ha 6 (.int .u64 0) KR KR ?_; clear ha a; intro a ha
  refine stepp ha 7 (.bool false) KR KR ?_; clear ha a; intro a ha
  refine endl ?_
  refine thenN (hK510 _ _ ?_); clear hK510
  refine wp_seq_k (fun K511 hK512 => ?_)
  refine wp_region_lit ?_
  refine stepp ha 8 (.string a0) KR KR ?_; clear ha a; intro a ha
  refine stepp ha 9 (.int .i64 a1) KR KR ?_; clear ha a; intro a ha
  refine stepp ha 10 (.int .i64 a2) KR KR ?_; clear ha a; intro a ha
  obtain ⟨t513, ht514, h_⟩ := bind_some' h; clear h; have h := h_; clear h_
  refine stepc ha 11 KR KR (fields_get_uint64.calls K a0 a1 a2 true t513 _ ht514) ?_; clear ha a; rintro e W515 ⟨rfl, HX516⟩
  refine ⟨_, rfl, ?_⟩; intro a ha; replace HW := HW.callw HX516; clear HX516
  refine stepp ha 12 (.int .u64 t513.1) KR KR ?_; clear ha a; intro a ha
  refine stepp ha 13 (.bool t513.2) KR KR ?_; clear ha a; intro a ha
  refine stepp ha 6 (.int .u64 t513.1) KR KR ?_; clear ha a; intro a ha
  refine stepp ha 7 (.bool t513.2) KR KR ?_; clear ha a; intro a ha
  refine endl ?_
  refine thenN (hK512 _ _ ?_); clear hK512
  refine wp_ret ?_
  obtain rfl := Option.some.inj h
  exact finv ha _ _ rfl (.tmp (v := .int .u64 t513.1) KR (.tmp (v := .bool t513.2) KR .nil)) (.tuple #[.int .u64 t513.1, .bool t513.2]) rfl ⟨rfl, HW.pick [] [] (by decide) (by decide) rfl KR⟩
/-! ### headgate/frame.want: function 38 -/
theorem frame_want.ok (k : Int) (w : World) : Calls Tryd.prog 38 #[.bool true, .int .i64 k] w (fun e W' => e = .returned (.tuple #[]) ∧ Wd w W' [] []) := by
  refine sxstart (n := 9) (l := [(0, .bool true), (1, .int .i64 k)]) Tryd.func38 rfl rfl (Nat.le_of_ble_eq_true KR) (subsA_cons rfl (subsA_cons rfl (subsA_nil _))) ?_
  intro a ha
  have HW := Wd.refl w
  refine wp_seq_k (fun K hK => ?_)
  refine wp_region_lit ?_
  refine stepp ha 4 (.bool true) KR KR ?_; clear ha a; intro a ha
  refine stepp ha 5 (.bool false) KR KR ?_; clear ha a; intro a ha
  refine endl ?_
  refine thenN (hK _ _ ?_); clear hK
  refine condF ha KR KR (t := false) rfl ?_
  refine wp_skip ?_
  exact finv (fn := Tryd.f38) (R := fun e W' => e = .returned (.tuple #[]) ∧ Wd w W' [] []) ha [] [] rfl .nil (.tuple #[]) rfl ⟨rfl, HW⟩
theorem frame_want.pan (k : Int) (w : World) : Calls Tryd.prog 38 #[.bool false, .int .i64 k] w (fun e W' => e = .panicked [{ v := .iface 61 (.agg #[.int .i64 k]), recovered := false }] ∧ Wd w W' [] []) := by
  refine sxstart (n := 9) (l := [(0, .bool false), (1, .int .i64 k)]) Tryd.func38 rfl rfl (Nat.le_of_ble_eq_true KR) (subsA_cons rfl (subsA_cons rfl (subsA_nil _))) ?_
  intro a ha
  have HW := Wd.refl w
  refine wp_seq_k (fun K hK => ?_)
  refine wp_region_lit ?_
  refine stepp ha 4 (.bool false) KR KR ?_; clear ha a; intro a ha
  refine stepp ha 5 (.bool true) KR KR ?_; clear ha a; intro a ha
  refine endl ?_
  refine thenN (hK _ _ ?_); clear hK
  refine condT ha KR KR (t := true) rfl ?_
  refine wp_region_lit ?_
  refine stepp ha 6 (.int .i64 k) KR KR ?_; clear ha a; intro a ha
  refine stepp ha 7 (.agg #[.int .i64 k]) KR KR ?_; clear ha a; intro a ha
  refine stepp ha 8 (.iface 61 (.agg #[.int .i64 k])) KR KR ?_; clear ha a; intro a ha
  refine steppan ha (.iface 61 (.agg #[.int .i64 k])) KR KR ?_
  exact finP ha ⟨rfl, HW⟩
/-! ### strings.HasPrefix: function 39, by the library's contract -/
def strings_HasPrefix.f (a0 : ByteArray) (a1 : ByteArray) : Option Bool :=
  some (Lib.hasPrefix a0.data.toList a1.data.toList)
theorem strings_HasPrefix.calls (a0 : ByteArray) (a1 : ByteArray)  (r : Bool) (w : World) (h : strings_HasPrefix.f a0 a1 = some r) :
    Calls Tryd.prog 39 #[.string a0, .string a1] w (fun e W' => e = .returned (.bool r) ∧ Wd w W' [] []) := by
  obtain rfl := Option.some.inj h
  exact (Tryd.strings_HasPrefix a0 a1 w).mono fun e W' ⟨he, hb⟩ => ⟨he, hb ▸ Wd.refl w⟩
/-! ### headgate/crc.Right: function 40 -/
def crc_Right.f (K : Nat) (a0 : ByteArray) (a1 : ByteArray) : Option Bool :=
  (crc_Digest.f K a0).bind fun t528 => (some (a1.toList == t528.toList))
set_option maxRecDepth 100000 in
set_option maxHeartbeats 4000000 in
theorem crc_Right.calls (K : Nat) (a0 : ByteArray) (a1 : ByteArray)  (r : Bool) (w : World) (hG0 : CA w 0 0 (encs (encIK .u32) G_crc_steps).toArray) (h : crc_Right.f K a0 a1 = some r) :
    Calls Tryd.prog 40 #[.string a0, .string a1] w (fun e W' => e = .returned (.bool r) ∧ Wd w W' [] [] ) := by
  refine sxstart (n := 9) (l := [(0, .string a0), (1, .string a1)]) Tryd.func40 rfl rfl (Nat.le_of_ble_eq_true KR) (subsA_cons rfl (subsA_cons rfl (subsA_nil _))) ?_
  intro a ha
  have HW := Wd.refl w
  unfold crc_Right.f at h
  refine wp_seq_k (fun K524 hK525 => ?_)
  refine wp_region_lit ?_
  refine stepp ha 4 (.bool false) KR KR ?_; clear ha a; intro a ha
  refine endl ?_
  refine thenN (hK525 _ _ ?_); clear hK525
  refine wp_seq_k (fun K526 hK527 => ?_)
  refine wp_region_lit ?_
  refine stepp ha 5 (.string a1) KR KR ?_; clear ha a; intro a ha
  refine stepp ha 6 (.string a0) KR KR ?_; clear ha a; intro a ha
  obtain ⟨t528, ht529, h_⟩ := bind_some' h; clear h; have h := h_; clear h_
  refine stepc ha 7 KR KR (crc_Digest.calls K a0 t528 _ (HW.ca0 hG0) ht529) ?_; clear ha a; rintro e W530 ⟨rfl, HX531⟩
  refine ⟨_, rfl, ?_⟩; intro a ha; replace HW := HW.callw HX531; clear HX531
  refine stepp ha 8 (.bool (a1.toList == t528.toList)) KR KR ?_; clear ha a; intro a ha
  refine stepp ha 4 (.bool (a1.toList == t528.toList)) KR KR ?_; clear ha a; intro a ha
  refine endl ?_
  refine thenN (hK527 _ _ ?_); clear hK527
  refine wp_ret ?_
  obtain rfl := Option.some.inj h
  exact finv ha _ _ rfl (.tmp (v := .bool (a1.toList == t528.toList)) KR .nil) (.bool (a1.toList == t528.toList)) rfl ⟨rfl, HW.pick [] [] (by decide) (by decide) rfl KR⟩
/-! ### strings.Trim: function 41, by the library's contract -/
def strings_Trim.f (a0 : ByteArray) (a1 : ByteArray) : Option ByteArray :=
  asrt (a1 = (⟨#[0]⟩ : ByteArray)) (asrt (a0.size ≤ 9223372036854775807) (some ⟨(Lib.trimB a0.data.toList 0).toArray⟩))
theorem strings_Trim.calls (a0 : ByteArray) (a1 : ByteArray)  (r : ByteArray) (w : World) (h : strings_Trim.f a0 a1 = some r) :
    Calls Tryd.prog 41 #[.string a0, .string a1] w (fun e W' => e = .returned (.string r) ∧ Wd w W' [] []) := by
  unfold strings_Trim.f at h
  obtain ⟨h0, h⟩ := asrt_some h
  obtain ⟨h1, h⟩ := asrt_some h
  obtain rfl := Option.some.inj h
  subst h0
  refine (Tryd.strings_Trim_one a0 0 (by decide) w h1).mono fun e W' ⟨he, hb⟩ => ⟨he, ?_⟩
  rcases hb with rfl | rfl
  · exact Wd.refl _
  · exact (Wd.refl w).drew _
/-! ### headgate/frame.got: function 28 -/
def frame_got.f (K : Nat) (a0 : ByteArray) : Option (Except Int (Int × ByteArray × Int)) :=
  if (a0.size : Int) ≥ 20 then ((strings_HasPrefix.f a0 (⟨#[72, 71, 70, 82]⟩ : ByteArray)).bind fun t1120 => (if t1120 = true then (asrt (16 ≤ (a0.size : Int)) (asrt (20 ≤ (a0.size : Int)) ((crc_Right.f K (a0.extract 0 (16 : Int).toNat) (a0.extract (16 : Int).toNat (20 : Int).toNat)).bind fun t1135 => (if t1135 = true then ((fields_Big.f K a0 4 8).bind fun t1147 => ((fields_Big.f K a0 12 4).bind fun t1153 => (if t1153.1 ≤ 65536 then ((frame_Sectors.f (IntKind.wrap .i64 t1153.1)).bind fun t1168 => (if (IntKind.wrap .i64 (t1168 * 512)) ≤ (a0.size : Int) then (asrt (20 ≤ (IntKind.wrap .i64 (20 + (IntKind.wrap .i64 t1153.1)))) (asrt ((IntKind.wrap .i64 (20 + (IntKind.wrap .i64 t1153.1))) ≤ (a0.size : Int)) (asrt (0 ≤ (IntKind.wrap .i64 (20 + (IntKind.wrap .i64 t1153.1)))) (asrt ((IntKind.wrap .i64 (20 + (IntKind.wrap .i64 t1153.1))) ≤ (IntKind.wrap .i64 ((IntKind.wrap .i64 (20 + (IntKind.wrap .i64 t1153.1))) + 4))) (asrt ((IntKind.wrap .i64 ((IntKind.wrap .i64 (20 + (IntKind.wrap .i64 t1153.1))) + 4)) ≤ (a0.size : Int)) ((crc_Right.f K (a0.extract (20 : Int).toNat (IntKind.wrap .i64 (20 + (IntKind.wrap .i64 t1153.1)) : Int).toNat) (a0.extract (IntKind.wrap .i64 (20 + (IntKind.wrap .i64 t1153.1)) : Int).toNat (IntKind.wrap .i64 ((IntKind.wrap .i64 (20 + (IntKind.wrap .i64 t1153.1))) + 4) : Int).toNat)).bind fun t1188 => (if t1188 = true then (asrt (0 ≤ (IntKind.wrap .i64 ((IntKind.wrap .i64 (20 + (IntKind.wrap .i64 t1153.1))) + 4))) (asrt ((IntKind.wrap .i64 ((IntKind.wrap .i64 (20 + (IntKind.wrap .i64 t1153.1))) + 4)) ≤ (IntKind.wrap .i64 (t1168 * 512))) ((strings_Trim.f (a0.extract (IntKind.wrap .i64 ((IntKind.wrap .i64 (20 + (IntKind.wrap .i64 t1153.1))) + 4) : Int).toNat (IntKind.wrap .i64 (t1168 * 512) : Int).toNat) (⟨#[0]⟩ : ByteArray)).bind fun t1201 => (if t1201 = (⟨#[]⟩ : ByteArray) then (some (.ok (t1147.1, a0.extract (20 : Int).toNat (IntKind.wrap .i64 (20 + (IntKind.wrap .i64 t1153.1)) : Int).toNat, IntKind.wrap .i64 (t1168 * 512)))) else (some (.error 50)))))) else (some (.error 51))))))))) else (some (.error 50)))) else (some (.error 50))))) else (some (.error 51)))))) else (some (.error 50)))) else (some (.error 50))
set_option maxRecDepth 100000 in
set_option maxHeartbeats 4000000 in
theorem frame_got.calls (K : Nat) (a0 : ByteArray)  (r : Except Int (Int × ByteArray × Int)) (w : World) (hG0 : CA w 0 0 (encs (encIK .u32) G_crc_steps).toArray) (h : frame_got.f K a0 = some r) :
    Calls Tryd.prog 28 #[.string a0] w (fun e W' => match r with | .ok r => e = .returned (.tuple #[.int .u64 r.1, .string r.2.1, .int .i64 r.2.2]) ∧ Wd w W' [] [] | .error k => e = .panicked [{ v := .iface 61 (.agg #[.int .i64 k]), recovered := false }] ∧ Wd w W' [] []) := by
  refine sxstart (n := 73) (l := [(0, .string a0)]) Tryd.func28 rfl rfl (Nat.le_of_ble_eq_true KR) (subsA_cons rfl (subsA_nil _)) ?_
  intro a ha
  have HW := Wd.refl w
  unfold frame_got.f at h
  refine wp_seq_k (fun K1115 hK1116 => ?_)
  refine wp_region_lit ?_
  refine stepp ha 2 (.int .u64 0) KR KR ?_; clear ha a; intro a ha
  refine stepp ha 3 (.string (⟨#[]⟩ : ByteArray)) KR KR ?_; clear ha a; intro a ha
  refine stepp ha 4 (.int .i64 0) KR KR ?_; clear ha a; intro a ha
  refine endl ?_
  refine thenN (hK1116 _ _ ?_); clear hK1116
  refine wp_seq_k (fun K1117 hK1118 => ?_)
  refine wp_region_lit ?_
  refine stepp ha 12 (.string a0) KR KR ?_; clear ha a; intro a ha
  refine stepp ha 13 (.int .i64 (a0.size : Int)) KR KR ?_; clear ha a; intro a ha
  refine stepp ha 14 (.bool (decide ((a0.size : Int) ≥ 20))) KR KR ?_; clear ha a; intro a ha
  refine stepp ha 15 (.bool (decide ((a0.size : Int) ≥ 20))) KR KR ?_; clear ha a; intro a ha
  by_cases hp1119 : (a0.size : Int) ≥ 20
  · skip
    replace h := ite_pos' h hp1119
    replace ha := ha.bool 15 KR (decide_eq_true hp1119)
    refine stepp ha 16 (.string a0) KR KR ?_; clear ha a; intro a ha
    obtain ⟨t1120, ht1121, h_⟩ := bind_some' h; clear h; have h := h_; clear h_
    refine stepc ha 17 KR KR (strings_HasPrefix.calls a0 (⟨#[72, 71, 70, 82]⟩ : ByteArray) t1120 _ ht1121) ?_; clear ha a; rintro e W1122 ⟨rfl, HX1123⟩
    refine ⟨_, rfl, ?_⟩; intro a ha; replace HW := HW.callw HX1123; clear HX1123
    refine stepp ha 18 (.bool t1120) KR KR ?_; clear ha a; intro a ha
    by_cases hp1124 : t1120 = true
    · skip
      replace h := ite_pos' h hp1124
      replace ha := ha.bool 18 KR (hp1124)
      refine stepc ha 19 KR KR (frame_want.ok 50 _) ?_; clear ha a; rintro e W1125 ⟨rfl, HX1126⟩
      refine ⟨_, rfl, ?_⟩; intro a ha; replace HW := HW.callw HX1126; clear HX1126
      refine endl ?_
      refine thenN (hK1118 _ _ ?_); clear hK1118
      refine wp_seq_k (fun K1131 hK1132 => ?_)
      obtain ⟨hA1133, h_⟩ := asrt_some h; clear h; have h := h_; clear h_
      obtain ⟨hA1134, h_⟩ := asrt_some h; clear h; have h := h_; clear h_
      obtain ⟨t1135, ht1136, h_⟩ := bind_some' h; clear h; have h := h_; clear h_
      refine regionGT 5 KR KR ha HW [.fix (.string a0), .fix (.string (a0.extract 0 (16 : Int).toNat)), .fix (.string a0), .fix (.string (a0.extract (16 : Int).toNat (20 : Int).toNat)), .fix (.bool t1135)] ?_ ?_
      · skip
        refine ⟨?_, ?_, ?_, ?_, ?_, trivial⟩
        · skip
          intro a wr hn hd HW hs; have ha := hasNil hn hd
          have ha := ha.add (seeE hs 0 (.string a0) KR KR)
          refine yStep ha 20 KR ?_; intro l_ ha HK
          refine stepp ha 20 (.string a0) KR KR ?_; intro ax hax; exact HK _ _ _ hax rfl (Below.refl _ _)
        · skip
          intro a wr hn hd HW hs; have ha := hasNil hn hd
          have ha := ha.add (seeF hs 20 0 (.string a0) KR KR)
          refine yStep ha 21 KR ?_; intro l_ ha HK
          refine stepssh ha 21 9 (.tmp 20) (.const (.int .i64 16)) a0 .i64 16 rfl KR KR KR (by decide) (show (16 : Int) ≤ ((a0).size : Int) from hA1133) KR ?_; intro ax hax; exact HK _ _ _ hax rfl (Below.refl _ _)
        · skip
          intro a wr hn hd HW hs; have ha := hasNil hn hd
          have ha := ha.add (seeE hs 0 (.string a0) KR KR)
          refine yStep ha 22 KR ?_; intro l_ ha HK
          refine stepp ha 22 (.string a0) KR KR ?_; intro ax hax; exact HK _ _ _ hax rfl (Below.refl _ _)
        · skip
          intro a wr hn hd HW hs; have ha := hasNil hn hd
          have ha := ha.add (seeF hs 22 2 (.string a0) KR KR)
          refine yStep ha 23 KR ?_; intro l_ ha HK
          refine stepss ha 23 9 (.tmp 22) (.const (.int .i64 16)) (.const (.int .i64 20)) a0 .i64 .i64 16 20 rfl KR KR KR KR (by decide) (by decide) (show (20 : Int) ≤ ((a0).size : Int) from hA1134) KR ?_; intro ax hax; exact HK _ _ _ hax rfl (Below.refl _ _)
        · skip
          intro a wr hn hd HW hs; have ha := hasNil hn hd
          have ha := ha.add (seeF hs 21 1 (.string (a0.extract 0 (16 : Int).toNat)) KR KR)
          have ha := ha.add (seeF hs 23 3 (.string (a0.extract (16 : Int).toNat (20 : Int).toNat)) KR KR)
          refine yStep ha 24 KR ?_; intro l_ ha HK
          refine stepc ha 24 KR KR (crc_Right.calls K (a0.extract 0 (16 : Int).toNat) (a0.extract (16 : Int).toNat (20 : Int).toNat) t1135 _ (HW.ca0 hG0) ht1136) ?_; rintro e W1137 ⟨rfl, HX1138⟩
          refine ⟨_, rfl, ?_⟩; intro ax hax; exact HK _ _ _ hax rfl HX1138.below
      · skip
        intro a W1139 ha HW he hf
        replace ha := ha.add (he 0 (.string a0) KR KR)
        replace ha := ha.add (gotF (m := 5) (j := 4) (d := 24) (v := .bool t1135) hf KR KR KR)
        clear he hf
        by_cases hp1140 : t1135 = true
        · skip
          replace h := ite_pos' h hp1140
          replace ha := ha.bool 24 KR (hp1140)
          refine stepc ha 25 KR KR (frame_want.ok 51 _) ?_; clear ha a; rintro e W1141 ⟨rfl, HX1142⟩
          refine ⟨_, rfl, ?_⟩; intro a ha; replace HW := HW.callw HX1142; clear HX1142
          refine endl ?_
          refine thenN (hK1132 _ _ ?_); clear hK1132
          refine wp_seq_k (fun K1145 hK1146 => ?_)
          refine wp_region_lit ?_
          refine stepp ha 27 (.string a0) KR KR ?_; clear ha a; intro a ha
          obtain ⟨t1147, ht1148, h_⟩ := bind_some' h; clear h; have h := h_; clear h_
          refine stepc ha 28 KR KR (fields_Big.calls K a0 4 8 t1147 _ ht1148) ?_; clear ha a; rintro e W1149 ⟨rfl, HX1150⟩
          refine ⟨_, rfl, ?_⟩; intro a ha; replace HW := HW.callw HX1150; clear HX1150
          refine stepp ha 26 (.tuple #[.int .u64 t1147.1, .bool t1147.2]) KR KR ?_; clear ha a; intro a ha
          refine stepp ha 29 (.int .u64 t1147.1) KR KR ?_; clear ha a; intro a ha
          refine stepp ha 30 (.bool t1147.2) KR KR ?_; clear ha a; intro a ha
          refine stepp ha 5 (.int .u64 t1147.1) KR KR ?_; clear ha a; intro a ha
          refine stepp ha 6 (.bool t1147.2) KR KR ?_; clear ha a; intro a ha
          refine endl ?_
          refine thenN (hK1146 _ _ ?_); clear hK1146
          refine wp_seq_k (fun K1151 hK1152 => ?_)
          refine wp_region_lit ?_
          refine stepp ha 32 (.string a0) KR KR ?_; clear ha a; intro a ha
          obtain ⟨t1153, ht1154, h_⟩ := bind_some' h; clear h; have h := h_; clear h_
          refine stepc ha 33 KR KR (fields_Big.calls K a0 12 4 t1153 _ ht1154) ?_; clear ha a; rintro e W1155 ⟨rfl, HX1156⟩
          refine ⟨_, rfl, ?_⟩; intro a ha; replace HW := HW.callw HX1156; clear HX1156
          refine stepp ha 31 (.tuple #[.int .u64 t1153.1, .bool t1153.2]) KR KR ?_; clear ha a; intro a ha
          refine stepp ha 34 (.int .u64 t1153.1) KR KR ?_; clear ha a; intro a ha
          refine stepp ha 35 (.bool t1153.2) KR KR ?_; clear ha a; intro a ha
          refine stepp ha 7 (.int .u64 t1153.1) KR KR ?_; clear ha a; intro a ha
          refine stepp ha 8 (.bool t1153.2) KR KR ?_; clear ha a; intro a ha
          refine endl ?_
          refine thenN (hK1152 _ _ ?_); clear hK1152
          refine wp_seq_k (fun K1157 hK1158 => ?_)
          refine wp_region_lit ?_
          refine stepp ha 36 (.int .u64 t1153.1) KR KR ?_; clear ha a; intro a ha
          refine stepp ha 37 (.bool (decide (t1153.1 ≤ 65536))) KR KR ?_; clear ha a; intro a ha
          by_cases hp1159 : t1153.1 ≤ 65536
          · skip
            replace h := ite_pos' h hp1159
            replace ha := ha.bool 37 KR (decide_eq_true hp1159)
            refine stepc ha 38 KR KR (frame_want.ok 50 _) ?_; clear ha a; rintro e W1160 ⟨rfl, HX1161⟩
            refine ⟨_, rfl, ?_⟩; intro a ha; replace HW := HW.callw HX1161; clear HX1161
            refine endl ?_
            refine thenN (hK1158 _ _ ?_); clear hK1158
            refine wp_seq_k (fun K1164 hK1165 => ?_)
            refine wp_region_lit ?_
            refine stepp ha 39 (.int .u64 t1153.1) KR KR ?_; clear ha a; intro a ha
            refine stepp ha 40 (.int .i64 (IntKind.wrap .i64 t1153.1)) KR KR ?_; clear ha a; intro a ha
            refine stepp ha 41 (.int .i64 (IntKind.wrap .i64 (20 + (IntKind.wrap .i64 t1153.1)))) KR KR ?_; clear ha a; intro a ha
            refine stepp ha 9 (.int .i64 (IntKind.wrap .i64 (20 + (IntKind.wrap .i64 t1153.1)))) KR KR ?_; clear ha a; intro a ha
            refine endl ?_
            refine thenN (hK1165 _ _ ?_); clear hK1165
            refine wp_seq_k (fun K1166 hK1167 => ?_)
            refine wp_region_lit ?_
            refine stepp ha 42 (.int .u64 t1153.1) KR KR ?_; clear ha a; intro a ha
            refine stepp ha 43 (.int .i64 (IntKind.wrap .i64 t1153.1)) KR KR ?_; clear ha a; intro a ha
            obtain ⟨t1168, ht1169, h_⟩ := bind_some' h; clear h; have h := h_; clear h_
            refine stepc ha 44 KR KR (frame_Sectors.calls (IntKind.wrap .i64 t1153.1) t1168 _ ht1169) ?_; clear ha a; rintro e W1170 ⟨rfl, HX1171⟩
            refine ⟨_, rfl, ?_⟩; intro a ha; replace HW := HW.callw HX1171; clear HX1171
            refine stepp ha 45 (.int .i64 (IntKind.wrap .i64 (t1168 * 512))) KR KR ?_; clear ha a; intro a ha
            refine stepp ha 10 (.int .i64 (IntKind.wrap .i64 (t1168 * 512))) KR KR ?_; clear ha a; intro a ha
            refine endl ?_
            refine thenN (hK1167 _ _ ?_); clear hK1167
            refine wp_seq_k (fun K1172 hK1173 => ?_)
            refine wp_region_lit ?_
            refine stepp ha 46 (.int .i64 (IntKind.wrap .i64 (t1168 * 512))) KR KR ?_; clear ha a; intro a ha
            refine stepp ha 47 (.string a0) KR KR ?_; clear ha a; intro a ha
            refine stepp ha 48 (.int .i64 (a0.size : Int)) KR KR ?_; clear ha a; intro a ha
            refine stepp ha 49 (.bool (decide ((IntKind.wrap .i64 (t1168 * 512)) ≤ (a0.size : Int)))) KR KR ?_; clear ha a; intro a ha
            by_cases hp1174 : (IntKind.wrap .i64 (t1168 * 512)) ≤ (a0.size : Int)
            · skip
              replace h := ite_pos' h hp1174
              replace ha := ha.bool 49 KR (decide_eq_true hp1174)
              refine stepc ha 50 KR KR (frame_want.ok 50 _) ?_; clear ha a; rintro e W1175 ⟨rfl, HX1176⟩
              refine ⟨_, rfl, ?_⟩; intro a ha; replace HW := HW.callw HX1176; clear HX1176
              refine endl ?_
              refine thenN (hK1173 _ _ ?_); clear hK1173
              refine wp_seq_k (fun K1179 hK1180 => ?_)
              refine wp_region_lit ?_
              refine stepp ha 51 (.string a0) KR KR ?_; clear ha a; intro a ha
              refine stepp ha 52 (.int .i64 (IntKind.wrap .i64 (20 + (IntKind.wrap .i64 t1153.1)))) KR KR ?_; clear ha a; intro a ha
              obtain ⟨hA1181, h_⟩ := asrt_some h; clear h; have h := h_; clear h_
              obtain ⟨hA1182, h_⟩ := asrt_some h; clear h; have h := h_; clear h_
              refine stepss ha 53 9 (.tmp 51) (.const (.int .i64 20)) (.tmp 52) a0 .i64 .i64 20 (IntKind.wrap .i64 (20 + (IntKind.wrap .i64 t1153.1))) rfl KR KR KR KR (by decide) hA1181 (show (IntKind.wrap .i64 (20 + (IntKind.wrap .i64 t1153.1)) : Int) ≤ ((a0).size : Int) from hA1182) KR ?_; clear ha a; intro a ha
              refine stepp ha 11 (.string (a0.extract (20 : Int).toNat (IntKind.wrap .i64 (20 + (IntKind.wrap .i64 t1153.1)) : Int).toNat)) KR KR ?_; clear ha a; intro a ha
              refine endl ?_
              refine thenN (hK1180 _ _ ?_); clear hK1180
              refine wp_seq_k (fun K1183 hK1184 => ?_)
              refine wp_region_lit ?_
              refine stepp ha 54 (.string (a0.extract (20 : Int).toNat (IntKind.wrap .i64 (20 + (IntKind.wrap .i64 t1153.1)) : Int).toNat)) KR KR ?_; clear ha a; intro a ha
              refine stepp ha 55 (.string a0) KR KR ?_; clear ha a; intro a ha
              refine stepp ha 56 (.int .i64 (IntKind.wrap .i64 (20 + (IntKind.wrap .i64 t1153.1)))) KR KR ?_; clear ha a; intro a ha
              refine stepp ha 57 (.int .i64 (IntKind.wrap .i64 (20 + (IntKind.wrap .i64 t1153.1)))) KR KR ?_; clear ha a; intro a ha
              refine stepp ha 58 (.int .i64 (IntKind.wrap .i64 ((IntKind.wrap .i64 (20 + (IntKind.wrap .i64 t1153.1))) + 4))) KR KR ?_; clear ha a; intro a ha
              obtain ⟨hA1185, h_⟩ := asrt_some h; clear h; have h := h_; clear h_
              obtain ⟨hA1186, h_⟩ := asrt_some h; clear h; have h := h_; clear h_
              obtain ⟨hA1187, h_⟩ := asrt_some h; clear h; have h := h_; clear h_
              refine stepss ha 59 9 (.tmp 55) (.tmp 56) (.tmp 58) a0 .i64 .i64 (IntKind.wrap .i64 (20 + (IntKind.wrap .i64 t1153.1))) (IntKind.wrap .i64 ((IntKind.wrap .i64 (20 + (IntKind.wrap .i64 t1153.1))) + 4)) rfl KR KR KR KR hA1185 hA1186 (show (IntKind.wrap .i64 ((IntKind.wrap .i64 (20 + (IntKind.wrap .i64 t1153.1))) + 4) : Int) ≤ ((a0).size : Int) from hA1187) KR ?_; clear ha a; intro a ha
              obtain ⟨t1188, ht1189, h_⟩ := bind_some' h; clear h; have h := h_; clear h_
              refine stepc ha 60 KR KR (crc_Right.calls K (a0.extract (20 : Int).toNat (IntKind.wrap .i64 (20 + (IntKind.wrap .i64 t1153.1)) : Int).toNat) (a0.extract (IntKind.wrap .i64 (20 + (IntKind.wrap .i64 t1153.1)) : Int).toNat (IntKind.wrap .i64 ((IntKind.wrap .i64 (20 + (IntKind.wrap .i64 t1153.1))) + 4) : Int).toNat) t1188 _ (HW.ca0 hG0) ht1189) ?_; clear ha a; rintro e W1190 ⟨rfl, HX1191⟩
              refine ⟨_, rfl, ?_⟩; intro a ha; replace HW := HW.callw HX1191; clear HX1191
              by_cases hp1192 : t1188 = true
              · skip
                replace h := ite_pos' h hp1192
                replace ha := ha.bool 60 KR (hp1192)
                refine stepc ha 61 KR KR (frame_want.ok 51 _) ?_; clear ha a; rintro e W1193 ⟨rfl, HX1194⟩
                refine ⟨_, rfl, ?_⟩; intro a ha; replace HW := HW.callw HX1194; clear HX1194
                refine endl ?_
                refine thenN (hK1184 _ _ ?_); clear hK1184
                refine wp_seq_k (fun K1197 hK1198 => ?_)
                refine wp_region_lit ?_
                refine stepp ha 62 (.string a0) KR KR ?_; clear ha a; intro a ha
                refine stepp ha 63 (.int .i64 (IntKind.wrap .i64 (20 + (IntKind.wrap .i64 t1153.1)))) KR KR ?_; clear ha a; intro a ha
                refine stepp ha 64 (.int .i64 (IntKind.wrap .i64 ((IntKind.wrap .i64 (20 + (IntKind.wrap .i64 t1153.1))) + 4))) KR KR ?_; clear ha a; intro a ha
                refine stepp ha 65 (.int .i64 (IntKind.wrap .i64 (t1168 * 512))) KR KR ?_; clear ha a; intro a ha
                obtain ⟨hA1199, h_⟩ := asrt_some h; clear h; have h := h_; clear h_
                obtain ⟨hA1200, h_⟩ := asrt_some h; clear h; have h := h_; clear h_
                refine stepss ha 66 9 (.tmp 62) (.tmp 64) (.tmp 65) a0 .i64 .i64 (IntKind.wrap .i64 ((IntKind.wrap .i64 (20 + (IntKind.wrap .i64 t1153.1))) + 4)) (IntKind.wrap .i64 (t1168 * 512)) rfl KR KR KR KR hA1199 hA1200 (show (IntKind.wrap .i64 (t1168 * 512) : Int) ≤ ((a0).size : Int) from hp1174) KR ?_; clear ha a; intro a ha
                obtain ⟨t1201, ht1202, h_⟩ := bind_some' h; clear h; have h := h_; clear h_
                refine stepc ha 67 KR KR (strings_Trim.calls (a0.extract (IntKind.wrap .i64 ((IntKind.wrap .i64 (20 + (IntKind.wrap .i64 t1153.1))) + 4) : Int).toNat (IntKind.wrap .i64 (t1168 * 512) : Int).toNat) (⟨#[0]⟩ : ByteArray) t1201 _ ht1202) ?_; clear ha a; rintro e W1203 ⟨rfl, HX1204⟩
                refine ⟨_, rfl, ?_⟩; intro a ha; replace HW := HW.callw HX1204; clear HX1204
                refine stepp ha 68 (.bool (t1201.toList == (⟨#[]⟩ : ByteArray).toList)) KR KR ?_; clear ha a; intro a ha
                by_cases hp1205 : t1201 = (⟨#[]⟩ : ByteArray)
                · skip
                  replace h := ite_pos' h hp1205
                  replace ha := ha.bool 68 KR (str_eq_t hp1205)
                  refine stepc ha 69 KR KR (frame_want.ok 50 _) ?_; clear ha a; rintro e W1206 ⟨rfl, HX1207⟩
                  refine ⟨_, rfl, ?_⟩; intro a ha; replace HW := HW.callw HX1207; clear HX1207
                  refine endl ?_
                  refine thenN (hK1198 _ _ ?_); clear hK1198
                  refine wp_seq_k (fun K1210 hK1211 => ?_)
                  refine wp_region_lit ?_
                  refine stepp ha 70 (.int .u64 t1147.1) KR KR ?_; clear ha a; intro a ha
                  refine stepp ha 71 (.string (a0.extract (20 : Int).toNat (IntKind.wrap .i64 (20 + (IntKind.wrap .i64 t1153.1)) : Int).toNat)) KR KR ?_; clear ha a; intro a ha
                  refine stepp ha 72 (.int .i64 (IntKind.wrap .i64 (t1168 * 512))) KR KR ?_; clear ha a; intro a ha
                  refine stepp ha 2 (.int .u64 t1147.1) KR KR ?_; clear ha a; intro a ha
                  refine stepp ha 3 (.string (a0.extract (20 : Int).toNat (IntKind.wrap .i64 (20 + (IntKind.wrap .i64 t1153.1)) : Int).toNat)) KR KR ?_; clear ha a; intro a ha
                  refine stepp ha 4 (.int .i64 (IntKind.wrap .i64 (t1168 * 512))) KR KR ?_; clear ha a; intro a ha
                  refine endl ?_
                  refine thenN (hK1211 _ _ ?_); clear hK1211
                  refine wp_ret ?_
                  obtain rfl := Option.some.inj h
                  exact finv ha _ _ rfl (.tmp (v := .int .u64 t1147.1) KR (.tmp (v := .string (a0.extract (20 : Int).toNat (IntKind.wrap .i64 (20 + (IntKind.wrap .i64 t1153.1)) : Int).toNat)) KR (.tmp (v := .int .i64 (IntKind.wrap .i64 (t1168 * 512))) KR .nil))) (.tuple #[.int .u64 t1147.1, .string (a0.extract (20 : Int).toNat (IntKind.wrap .i64 (20 + (IntKind.wrap .i64 t1153.1)) : Int).toNat), .int .i64 (IntKind.wrap .i64 (t1168 * 512))]) rfl ⟨rfl, HW.pick [] [] (by decide) (by decide) rfl KR⟩
                · skip
                  replace h := ite_neg' h hp1205
                  replace ha := ha.bool 68 KR (str_eq_f hp1205)
                  refine stepcP ha 69 KR KR (frame_want.pan 50 _) ?_; rintro e W1208 ⟨rfl, HX1209⟩
                  refine .inr ⟨_, rfl, ?_⟩; replace HW := HW.callw HX1209; clear HX1209
                  refine thenP ?_
                  obtain rfl := Option.some.inj h
                  exact finP ha ⟨rfl, HW.pick [] [] (by decide) (by decide) rfl rfl⟩
              · skip
                replace h := ite_neg' h hp1192
                replace ha := ha.bool 60 KR (bool_f hp1192)
                refine stepcP ha 61 KR KR (frame_want.pan 51 _) ?_; rintro e W1195 ⟨rfl, HX1196⟩
                refine .inr ⟨_, rfl, ?_⟩; replace HW := HW.callw HX1196; clear HX1196
                refine thenP ?_
                obtain rfl := Option.some.inj h
                exact finP ha ⟨rfl, HW.pick [] [] (by decide) (by decide) rfl rfl⟩
            · skip
              replace h := ite_neg' h hp1174
              replace ha := ha.bool 49 KR (decide_eq_false hp1174)
              refine stepcP ha 50 KR KR (frame_want.pan 50 _) ?_; rintro e W1177 ⟨rfl, HX1178⟩
              refine .inr ⟨_, rfl, ?_⟩; replace HW := HW.callw HX1178; clear HX1178
              refine thenP ?_
              obtain rfl := Option.some.inj h
              exact finP ha ⟨rfl, HW.pick [] [] (by decide) (by decide) rfl rfl⟩
          · skip
            replace h := ite_neg' h hp1159
            replace ha := ha.bool 37 KR (decide_eq_false hp1159)
            refine stepcP ha 38 KR KR (frame_want.pan 50 _) ?_; rintro e W1162 ⟨rfl, HX1163⟩
            refine .inr ⟨_, rfl, ?_⟩; replace HW := HW.callw HX1163; clear HX1163
            refine thenP ?_
            obtain rfl := Option.some.inj h
            exact finP ha ⟨rfl, HW.pick [] [] (by decide) (by decide) rfl rfl⟩
        · skip
          replace h := ite_neg' h hp1140
          replace ha := ha.bool 24 KR (bool_f hp1140)
          refine stepcP ha 25 KR KR (frame_want.pan 51 _) ?_; rintro e W1143 ⟨rfl, HX1144⟩
          refine .inr ⟨_, rfl, ?_⟩; replace HW := HW.callw HX1144; clear HX1144
          refine thenP ?_
          obtain rfl := Option.some.inj h
          exact finP ha ⟨rfl, HW.pick [] [] (by decide) (by decide) rfl rfl⟩
    · skip
      replace h := ite_neg' h hp1124
      replace ha := ha.bool 18 KR (bool_f hp1124)
      refine stepcP ha 19 KR KR (frame_want.pan 50 _) ?_; rintro e W1127 ⟨rfl, HX1128⟩
      refine .inr ⟨_, rfl, ?_⟩; replace HW := HW.callw HX1128; clear HX1128
      refine thenP ?_
      obtain rfl := Option.some.inj h
      exact finP ha ⟨rfl, HW.pick [] [] (by decide) (by decide) rfl rfl⟩
  · skip
    replace h := ite_neg' h hp1119
    replace ha := ha.bool 15 KR (decide_eq_false hp1119)
    refine stepo ha 16 KR ?_; clear ha a; intro a ha
    refine stepo ha 17 KR ?_; clear ha a; intro a ha
    refine stepp ha 18 (.bool false) KR KR ?_; clear ha a; intro a ha
    refine stepcP ha 19 KR KR (frame_want.pan 50 _) ?_; rintro e W1129 ⟨rfl, HX1130⟩
    refine .inr ⟨_, rfl, ?_⟩; replace HW := HW.callw HX1130; clear HX1130
    refine thenP ?_
    obtain rfl := Option.some.inj h
    exact finP ha ⟨rfl, HW.pick [] [] (by decide) (by decide) rfl rfl⟩
/-! ### headgate/frame.Get: function 14 -/
def frame_Get.f (K : Nat) (a0 : ByteArray) : Option (Int × ByteArray × Int × Int) :=
  (frame_got.f K a0).bind fun r => match r with
    | .ok x => some (x.1, x.2.1, x.2.2, 0)
    | .error k => some (0, ⟨#[]⟩, 0, k)
theorem frame_Get.calls (K : Nat) (a0 : ByteArray) (r : Int × ByteArray × Int × Int) (w : World) (hG0 : CA w 0 0 (encs (encIK .u32) G_crc_steps).toArray) (h : frame_Get.f K a0 = some r) :
    Calls Tryd.prog 14 #[.string a0] w (fun e W' => e = .returned (.tuple #[.int .u64 r.1, .string r.2.1, .int .i64 r.2.2.1, .int .i64 r.2.2.2]) ∧ Wd w W' [] []) := by
  unfold frame_Get.f at h
  obtain ⟨t, ht, h⟩ := bind_some' h
  cases t with
  | ok x =>
    obtain rfl := Option.some.inj h
    refine (get_ok a0 x.1 x.2.1 x.2.2 w (fun W hb => (frame_got.calls K a0 (.ok x) W ((Wd.refl w).call hb |>.ca0 hG0) ht).mono fun e W' ⟨he, hw⟩ => ⟨he, hw.below⟩)).mono fun e W' ⟨he, hb⟩ => ⟨he, (Wd.refl w).call hb⟩
  | error k =>
    obtain rfl := Option.some.inj h
    refine (get_pan a0 k w (fun W hb => (frame_got.calls K a0 (.error k) W ((Wd.refl w).call hb |>.ca0 hG0) ht).mono fun e W' ⟨he, hw⟩ => ⟨he, hw.below⟩)).mono fun e W' ⟨he, hb⟩ => ⟨he, (Wd.refl w).call hb⟩
end Go.Proofs.YtdcojinnjpihaaaDoor.F
