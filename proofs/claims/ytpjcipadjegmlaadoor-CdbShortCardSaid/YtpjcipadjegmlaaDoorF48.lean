/- headgate/fields.shifts, headgate/fields.put[uint64], headgate/fields.PutBig, headgate/fields.get[uint64], headgate/fields.Big, headgate/cdb.Number: plain functions, and that the calls come to what they say. No condition. -/
import Derived.Test.YtpjcipadjegmlaaDoorFT
namespace Go.Proofs.YtpjcipadjegmlaaDoor.F
open Go Go.RowKit Go.Proofs.YtpjcipadjegmlaaDoor.X
set_option linter.unusedVariables false
set_option linter.unusedSimpArgs false
/-! ### headgate/fields.shifts: function 48 -/
def fields_shifts.b0 (K : Nat) (a0 : Int) (a1 : Bool) (again172 : (List Int) → Int → Option (List Int)) (x173 : List Int) (x177 : Int) : Option (List Int) :=
  if x177 < a0 then (if a1 = true then (asrt (x173.length + ([IntKind.wrap .i64 (8 * (IntKind.wrap .i64 ((IntKind.wrap .i64 (a0 - 1)) - x177)))] : List Int).length ≤ 17592186044416) (again172 (x173 ++ ([IntKind.wrap .i64 (8 * (IntKind.wrap .i64 ((IntKind.wrap .i64 (a0 - 1)) - x177)))] : List Int)) (IntKind.wrap .i64 (x177 + 1)))) else (asrt (x173.length + ([IntKind.wrap .i64 (8 * x177)] : List Int).length ≤ 17592186044416) (again172 (x173 ++ ([IntKind.wrap .i64 (8 * x177)] : List Int)) (IntKind.wrap .i64 (x177 + 1))))) else (some x173)
def fields_shifts.l0 (K : Nat) (a0 : Int) (a1 : Bool) : Nat → (List Int) → Int → Option (List Int)
  | 0, _, _ => none
  | k_ + 1, x173, x177 => fields_shifts.b0 K a0 a1 (fields_shifts.l0 K a0 a1 k_) x173 x177
def fields_shifts.f (K : Nat) (a0 : Int) (a1 : Bool) : Option (List Int) :=
  fields_shifts.l0 K a0 a1 K ([] : List Int) 0
set_option maxRecDepth 100000 in
set_option maxHeartbeats 4000000 in
theorem fields_shifts.calls (K : Nat) (a0 : Int) (a1 : Bool)  (r : List Int) (w : World)  (h : fields_shifts.f K a0 a1 = some r) :
    Calls Tryd.prog 48 #[.int .i64 a0, .bool a1] w (fun e W' => ∃ A_0 c_0, e = .returned (.slice A_0 r.length c_0) ∧ Wd w W' [] [⟨3, 1, .slice A_0 r.length c_0, r.length, encs (encI .i64) r⟩] ) := by
  refine sxstart (n := 27) (l := [(0, .int .i64 a0), (1, .bool a1)]) Tryd.func48 rfl rfl (Nat.le_of_ble_eq_true KR) (subsA_cons rfl (subsA_cons rfl (subsA_nil _))) ?_
  intro a ha
  have HW := Wd.refl w
  unfold fields_shifts.f at h
  refine wp_seq_k (fun K95 hK96 => ?_)
  refine wp_region_lit ?_
  refine stepp ha 4 (.slice none 0 0) KR KR ?_; clear ha a; intro a ha
  refine endl ?_
  refine thenN (hK96 _ _ ?_); clear hK96
  refine wp_seq_k (fun K97 hK98 => ?_)
  refine wp_region_lit ?_
  refine stepp ha 5 (.slice none 0 0) KR KR ?_; clear ha a; intro a ha
  refine endl ?_
  refine thenN (hK98 _ _ ?_); clear hK98
  refine wp_seq_k (fun K99 hK100 => ?_)
  refine wp_seq_k (fun K101 hK102 => ?_)
  refine wp_region_lit ?_
  refine stepp ha 7 (.int .i64 a0) KR KR ?_; clear ha a; intro a ha
  refine stepp ha 8 (.int .i64 0) KR KR ?_; clear ha a; intro a ha
  refine endl ?_
  refine thenN (hK102 _ _ ?_); clear hK102
  refine wp_block ?_
  refine loopk (fun k => fun a W178 => ∃ (x173 : List Int), ∃ A174, ∃ c175, ∃ (x177 : Int), fields_shifts.l0 K a0 a1 k x173 x177 = some r ∧ Has 27 [(0, .int .i64 a0), (1, .bool a1), (5, .slice A174 x173.length c175), (7, .int .i64 a0), (8, .int .i64 x177)] a ∧ Wd w W178 [] [⟨3, 1, .slice A174 x173.length c175, x173.length, encs (encI .i64) x173⟩]) K ?_ ?_
  · skip
    replace HW := HW.nilo 3 1
    exact ⟨([] : List Int), none, 0, 0, h, ha.sub (subs_cons KR (subs_cons KR (subs_cons KR (subs_cons KR (subs_cons KR (subs_nil _)))))), HW.pick [] [0] (by decide) (by decide) KR KR⟩
  · skip
    intro k a W178 hI
    obtain ⟨x173, A174, c175, x177, h, ha, HW⟩ := hI
    cases k with
    | zero => exact (none_some (show none = some r from h)).elim
    | succ k179 =>
      replace h : fields_shifts.b0 K a0 a1 (fields_shifts.l0 K a0 a1 k179) x173 x177 = some r := h
      obtain ⟨again172, hag180⟩ : ∃ g_, g_ = fields_shifts.l0 K a0 a1 k179 := ⟨_, rfl⟩
      rw [← hag180] at h
      unfold fields_shifts.b0 at h
      refine wp_seq_k (fun K181 hK182 => ?_)
      refine wp_region_lit ?_
      refine stepp ha 9 (.bool (decide (x177 < a0))) KR KR ?_; clear ha a; intro a ha
      refine endl ?_
      refine thenN (hK182 _ _ ?_); clear hK182
      refine wp_seq_k (fun K183 hK184 => ?_)
      by_cases hp185 : x177 < a0
      · skip
        replace h := ite_pos' h hp185
        refine condT ha KR KR (t := decide (x177 < a0)) (decide_eq_true hp185) ?_
        refine wp_skip ?_
        refine thenN (hK184 _ _ ?_); clear hK184
        refine wp_seq_k (fun K186 hK187 => ?_)
        refine wp_block ?_
        refine wp_seq_k (fun K188 hK189 => ?_)
        refine wp_region_lit ?_
        refine stepp ha 10 (.int .i64 x177) KR KR ?_; clear ha a; intro a ha
        refine stepp ha 6 (.int .i64 x177) KR KR ?_; clear ha a; intro a ha
        refine endl ?_
        refine thenN (hK189 _ _ ?_); clear hK189
        refine wp_seq_k (fun K190 hK191 => ?_)
        refine wp_region_lit ?_
        refine stepp ha 11 (.bool a1) KR KR ?_; clear ha a; intro a ha
        refine endl ?_
        refine thenN (hK191 _ _ ?_); clear hK191
        by_cases hp192 : a1 = true
        · skip
          replace h := ite_pos' h hp192
          refine condT ha KR KR (t := a1) (hp192) ?_
          refine wp_region_lit ?_
          refine stepp ha 12 (.slice A174 x173.length c175) KR KR ?_; clear ha a; intro a ha
          refine stepp ha 13 (.int .i64 a0) KR KR ?_; clear ha a; intro a ha
          refine stepp ha 14 (.int .i64 (IntKind.wrap .i64 (a0 - 1))) KR KR ?_; clear ha a; intro a ha
          refine stepp ha 15 (.int .i64 x177) KR KR ?_; clear ha a; intro a ha
          refine stepp ha 16 (.int .i64 (IntKind.wrap .i64 ((IntKind.wrap .i64 (a0 - 1)) - x177))) KR KR ?_; clear ha a; intro a ha
          refine stepp ha 17 (.int .i64 (IntKind.wrap .i64 (8 * (IntKind.wrap .i64 ((IntKind.wrap .i64 (a0 - 1)) - x177))))) KR KR ?_; clear ha a; intro a ha
          refine stepbs ha HW 18 3 1 1 #[.int .i64 (IntKind.wrap .i64 (8 * (IntKind.wrap .i64 ((IntKind.wrap .i64 (a0 - 1)) - x177))))] [.int .i64 (IntKind.wrap .i64 (8 * (IntKind.wrap .i64 ((IntKind.wrap .i64 (a0 - 1)) - x177))))] (by decide) KR KR KR KR ?_; clear ha HW a; intro b193 a W194 HW ha
          replace HW : Wd w W194 [] [⟨3, 1, .slice (some ⟨b193, 0, none⟩) ([IntKind.wrap .i64 (8 * (IntKind.wrap .i64 ((IntKind.wrap .i64 (a0 - 1)) - x177)))] : List Int).length 1, ([IntKind.wrap .i64 (8 * (IntKind.wrap .i64 ((IntKind.wrap .i64 (a0 - 1)) - x177)))] : List Int).length, encs (encI .i64) ([IntKind.wrap .i64 (8 * (IntKind.wrap .i64 ((IntKind.wrap .i64 (a0 - 1)) - x177)))] : List Int)⟩, ⟨3, 1, .slice A174 x173.length c175, x173.length, encs (encI .i64) x173⟩] := HW
          replace ha := ha.turn 18 (v := .slice (some ⟨b193, 0, none⟩) ([IntKind.wrap .i64 (8 * (IntKind.wrap .i64 ((IntKind.wrap .i64 (a0 - 1)) - x177)))] : List Int).length 1) KR rfl
          obtain ⟨hA196, h_⟩ := asrt_some h; clear h; have h := h_; clear h_
          refine stepape (encI .i64) ha HW 19 1 84 3 (.tmp 12) (.tmp 18) (.int .i64 0) 1 8 (.slice A174 x173.length c175) x173 (.slice (some ⟨b193, 0, none⟩) ([IntKind.wrap .i64 (8 * (IntKind.wrap .i64 ((IntKind.wrap .i64 (a0 - 1)) - x177)))] : List Int).length 1) ([IntKind.wrap .i64 (8 * (IntKind.wrap .i64 ((IntKind.wrap .i64 (a0 - 1)) - x177)))] : List Int) KR rfl KR KR (HW.rdo (i := 0) (q := ⟨3, 1, .slice (some ⟨b193, 0, none⟩) ([IntKind.wrap .i64 (8 * (IntKind.wrap .i64 ((IntKind.wrap .i64 (a0 - 1)) - x177)))] : List Int).length 1, ([IntKind.wrap .i64 (8 * (IntKind.wrap .i64 ((IntKind.wrap .i64 (a0 - 1)) - x177)))] : List Int).length, encs (encI .i64) ([IntKind.wrap .i64 (8 * (IntKind.wrap .i64 ((IntKind.wrap .i64 (a0 - 1)) - x177)))] : List Int)⟩) KR) (fun _ => rfl) KR KR KR (by decide) (by have := hA196; unfold maxLen; omega) (by have := hA196; omega) KR ?_; clear ha HW a; intro A197 c198 a W199 HW ha
          refine stepp ha 5 (.slice A197 (x173 ++ ([IntKind.wrap .i64 (8 * (IntKind.wrap .i64 ((IntKind.wrap .i64 (a0 - 1)) - x177)))] : List Int)).length c198) KR KR ?_; clear ha a; intro a ha
          refine endl ?_
          refine blkN ?_
          refine thenN (hK187 _ _ ?_); clear hK187
          refine wp_region_lit ?_
          refine stepp ha 25 (.int .i64 (IntKind.wrap .i64 (x177 + 1))) KR KR ?_; clear ha a; intro a ha
          refine stepp ha 8 (.int .i64 (IntKind.wrap .i64 (x177 + 1))) KR KR ?_; clear ha a; intro a ha
          refine endl ?_
          exact thenN ⟨k179, Nat.lt_succ_self k179, x173 ++ ([IntKind.wrap .i64 (8 * (IntKind.wrap .i64 ((IntKind.wrap .i64 (a0 - 1)) - x177)))] : List Int), A197, c198, IntKind.wrap .i64 (x177 + 1), (by rw [← hag180]; exact h), ha.sub (subs_cons KR (subs_cons KR (subs_cons KR (subs_cons KR (subs_cons KR (subs_nil _)))))), HW.pick [] [1] (by decide) (by decide) KR KR⟩
        · skip
          replace h := ite_neg' h hp192
          refine condF ha KR KR (t := a1) (bool_f hp192) ?_
          refine wp_region_lit ?_
          refine stepp ha 20 (.slice A174 x173.length c175) KR KR ?_; clear ha a; intro a ha
          refine stepp ha 21 (.int .i64 x177) KR KR ?_; clear ha a; intro a ha
          refine stepp ha 22 (.int .i64 (IntKind.wrap .i64 (8 * x177))) KR KR ?_; clear ha a; intro a ha
          refine stepbs ha HW 23 3 1 1 #[.int .i64 (IntKind.wrap .i64 (8 * x177))] [.int .i64 (IntKind.wrap .i64 (8 * x177))] (by decide) KR KR KR KR ?_; clear ha HW a; intro b202 a W203 HW ha
          replace HW : Wd w W203 [] [⟨3, 1, .slice (some ⟨b202, 0, none⟩) ([IntKind.wrap .i64 (8 * x177)] : List Int).length 1, ([IntKind.wrap .i64 (8 * x177)] : List Int).length, encs (encI .i64) ([IntKind.wrap .i64 (8 * x177)] : List Int)⟩, ⟨3, 1, .slice A174 x173.length c175, x173.length, encs (encI .i64) x173⟩] := HW
          replace ha := ha.turn 23 (v := .slice (some ⟨b202, 0, none⟩) ([IntKind.wrap .i64 (8 * x177)] : List Int).length 1) KR rfl
          obtain ⟨hA205, h_⟩ := asrt_some h; clear h; have h := h_; clear h_
          refine stepape (encI .i64) ha HW 24 1 84 3 (.tmp 20) (.tmp 23) (.int .i64 0) 1 8 (.slice A174 x173.length c175) x173 (.slice (some ⟨b202, 0, none⟩) ([IntKind.wrap .i64 (8 * x177)] : List Int).length 1) ([IntKind.wrap .i64 (8 * x177)] : List Int) KR rfl KR KR (HW.rdo (i := 0) (q := ⟨3, 1, .slice (some ⟨b202, 0, none⟩) ([IntKind.wrap .i64 (8 * x177)] : List Int).length 1, ([IntKind.wrap .i64 (8 * x177)] : List Int).length, encs (encI .i64) ([IntKind.wrap .i64 (8 * x177)] : List Int)⟩) KR) (fun _ => rfl) KR KR KR (by decide) (by have := hA205; unfold maxLen; omega) (by have := hA205; omega) KR ?_; clear ha HW a; intro A206 c207 a W208 HW ha
          refine stepp ha 5 (.slice A206 (x173 ++ ([IntKind.wrap .i64 (8 * x177)] : List Int)).length c207) KR KR ?_; clear ha a; intro a ha
          refine endl ?_
          refine blkN ?_
          refine thenN (hK187 _ _ ?_); clear hK187
          refine wp_region_lit ?_
          refine stepp ha 25 (.int .i64 (IntKind.wrap .i64 (x177 + 1))) KR KR ?_; clear ha a; intro a ha
          refine stepp ha 8 (.int .i64 (IntKind.wrap .i64 (x177 + 1))) KR KR ?_; clear ha a; intro a ha
          refine endl ?_
          exact thenN ⟨k179, Nat.lt_succ_self k179, x173 ++ ([IntKind.wrap .i64 (8 * x177)] : List Int), A206, c207, IntKind.wrap .i64 (x177 + 1), (by rw [← hag180]; exact h), ha.sub (subs_cons KR (subs_cons KR (subs_cons KR (subs_cons KR (subs_cons KR (subs_nil _)))))), HW.pick [] [1] (by decide) (by decide) KR KR⟩
      · skip
        replace h := ite_neg' h hp185
        refine condF ha KR KR (t := decide (x177 < a0)) (decide_eq_false hp185) ?_
        refine wp_exit ?_
        refine thenE ?_
        refine thenE ?_
        refine inBlk ?_
        refine thenN (hK100 _ _ ?_); clear hK100
        refine wp_seq_k (fun K211 hK212 => ?_)
        refine wp_region_lit ?_
        refine stepp ha 26 (.slice A174 x173.length c175) KR KR ?_; clear ha a; intro a ha
        refine stepp ha 4 (.slice A174 x173.length c175) KR KR ?_; clear ha a; intro a ha
        refine endl ?_
        refine thenN (hK212 _ _ ?_); clear hK212
        refine wp_ret ?_
        obtain rfl := Option.some.inj h
        exact finv ha _ _ rfl (.tmp (v := .slice A174 x173.length c175) KR .nil) (.slice A174 x173.length c175) rfl ⟨A174, c175, rfl, HW.pick [] [0] (by decide) (by decide) rfl KR⟩
/-! ### headgate/fields.put[uint64]: function 43 -/
def fields_put_uint64.b0 (K : Nat) (a0 : Int) (t231 : List Int) (again292 : (List Int) → Int → Option ByteArray) (x293 : List Int) (x297 : Int) : Option ByteArray :=
  if x297 < (t231.length : Int) then (asrt (0 ≤ x297) (asrt (0 ≤ (rdL (0 : Int) t231 x297)) (asrt (x293.length + ([IntKind.wrap .u8 (sshr .u64 a0 (rdL (0 : Int) t231 x297))] : List Int).length ≤ 140737488355328) (again292 (x293 ++ ([IntKind.wrap .u8 (sshr .u64 a0 (rdL (0 : Int) t231 x297))] : List Int)) (IntKind.wrap .i64 (x297 + 1)))))) else (some (strOfNums x293))
def fields_put_uint64.l0 (K : Nat) (a0 : Int) (t231 : List Int) : Nat → (List Int) → Int → Option ByteArray
  | 0, _, _ => none
  | k_ + 1, x293, x297 => fields_put_uint64.b0 K a0 t231 (fields_put_uint64.l0 K a0 t231 k_) x293 x297
def fields_put_uint64.f (K : Nat) (a0 : Int) (a1 : Int) (a2 : Bool) : Option ByteArray :=
  if a1 < 1 then (some (⟨#[]⟩ : ByteArray)) else (if a1 > 8 then (some (⟨#[]⟩ : ByteArray)) else ((fields_shifts.f K a1 a2).bind fun t231 => (fields_put_uint64.l0 K a0 t231 K ([] : List Int) 0)))
set_option maxRecDepth 100000 in
set_option maxHeartbeats 4000000 in
theorem fields_put_uint64.calls (K : Nat) (a0 : Int) (a1 : Int) (a2 : Bool)  (r : ByteArray) (w : World)  (h : fields_put_uint64.f K a0 a1 a2 = some r) :
    Calls Tryd.prog 43 #[.int .u64 a0, .int .i64 a1, .bool a2] w (fun e W' => e = .returned (.string r) ∧ Wd w W' [] [] ) := by
  refine sxstart (n := 34) (l := [(0, .int .u64 a0), (1, .int .i64 a1), (2, .bool a2)]) Tryd.func43 rfl rfl (Nat.le_of_ble_eq_true KR) (subsA_cons rfl (subsA_cons rfl (subsA_cons rfl (subsA_nil _)))) ?_
  intro a ha
  have HW := Wd.refl w
  unfold fields_put_uint64.f at h
  refine wp_seq_k (fun K213 hK214 => ?_)
  refine wp_region_lit ?_
  refine stepp ha 6 (.string (⟨#[]⟩ : ByteArray)) KR KR ?_; clear ha a; intro a ha
  refine endl ?_
  refine thenN (hK214 _ _ ?_); clear hK214
  refine wp_seq_k (fun K215 hK216 => ?_)
  refine wp_seq_k (fun K217 hK218 => ?_)
  refine wp_region_lit ?_
  refine stepp ha 10 (.int .i64 a1) KR KR ?_; clear ha a; intro a ha
  refine stepp ha 11 (.bool (decide (a1 < 1))) KR KR ?_; clear ha a; intro a ha
  refine stepp ha 12 (.bool (decide (a1 < 1))) KR KR ?_; clear ha a; intro a ha
  by_cases hp219 : a1 < 1
  · skip
    replace h := ite_pos' h hp219
    replace ha := ha.bool 12 KR (decide_eq_true hp219)
    refine stepo ha 13 KR ?_; clear ha a; intro a ha
    refine stepo ha 14 KR ?_; clear ha a; intro a ha
    refine stepp ha 15 (.bool true) KR KR ?_; clear ha a; intro a ha
    refine endl ?_
    refine thenN (hK218 _ _ ?_); clear hK218
    refine condT ha KR KR (t := true) (rfl) ?_
    refine wp_seq_k (fun K220 hK221 => ?_)
    refine wp_region_lit ?_
    refine stepp ha 6 (.string (⟨#[]⟩ : ByteArray)) KR KR ?_; clear ha a; intro a ha
    refine endl ?_
    refine thenN (hK221 _ _ ?_); clear hK221
    refine wp_ret ?_
    refine thenR ?_
    obtain rfl := Option.some.inj h
    exact finv ha _ _ rfl (.tmp (v := .string (⟨#[]⟩ : ByteArray)) KR .nil) (.string (⟨#[]⟩ : ByteArray)) rfl ⟨rfl, HW.pick [] [] (by decide) (by decide) rfl KR⟩
  · skip
    replace h := ite_neg' h hp219
    replace ha := ha.bool 12 KR (decide_eq_false hp219)
    refine stepp ha 13 (.int .i64 a1) KR KR ?_; clear ha a; intro a ha
    refine stepp ha 14 (.bool (decide (a1 > 8))) KR KR ?_; clear ha a; intro a ha
    refine stepp ha 15 (.bool (decide (a1 > 8))) KR KR ?_; clear ha a; intro a ha
    refine endl ?_
    refine thenN (hK218 _ _ ?_); clear hK218
    by_cases hp222 : a1 > 8
    · skip
      replace h := ite_pos' h hp222
      refine condT ha KR KR (t := decide (a1 > 8)) (decide_eq_true hp222) ?_
      refine wp_seq_k (fun K223 hK224 => ?_)
      refine wp_region_lit ?_
      refine stepp ha 6 (.string (⟨#[]⟩ : ByteArray)) KR KR ?_; clear ha a; intro a ha
      refine endl ?_
      refine thenN (hK224 _ _ ?_); clear hK224
      refine wp_ret ?_
      refine thenR ?_
      obtain rfl := Option.some.inj h
      exact finv ha _ _ rfl (.tmp (v := .string (⟨#[]⟩ : ByteArray)) KR .nil) (.string (⟨#[]⟩ : ByteArray)) rfl ⟨rfl, HW.pick [] [] (by decide) (by decide) rfl KR⟩
    · skip
      replace h := ite_neg' h hp222
      refine condF ha KR KR (t := decide (a1 > 8)) (decide_eq_false hp222) ?_
      refine wp_skip ?_
      refine thenN (hK216 _ _ ?_); clear hK216
      refine wp_seq_k (fun K225 hK226 => ?_)
      refine wp_region_lit ?_
      refine stepp ha 7 (.slice none 0 0) KR KR ?_; clear ha a; intro a ha
      refine endl ?_
      refine thenN (hK226 _ _ ?_); clear hK226
      refine wp_seq_k (fun K227 hK228 => ?_)
      refine wp_seq_k (fun K229 hK230 => ?_)
      refine wp_region_lit ?_
      refine stepp ha 16 (.int .i64 a1) KR KR ?_; clear ha a; intro a ha
      refine stepp ha 17 (.bool a2) KR KR ?_; clear ha a; intro a ha
      obtain ⟨t231, ht232, h_⟩ := bind_some' h; clear h; have h := h_; clear h_
      refine stepc ha 18 KR KR (fields_shifts.calls K a1 a2 t231 _ ht232) ?_; clear ha a; rintro e W236 ⟨A233, c234, rfl, HX237⟩
      refine ⟨_, rfl, ?_⟩; intro a ha; replace HW := HW.callw HX237; clear HX237
      refine stepp ha 19 (.int .i64 (t231.length : Int)) KR KR ?_; clear ha a; intro a ha
      refine stepp ha 20 (.int .i64 0) KR KR ?_; clear ha a; intro a ha
      refine endl ?_
      refine thenN (hK230 _ _ ?_); clear hK230
      refine wp_block ?_
      refine loopk (fun k => fun a W298 => ∃ (x293 : List Int), ∃ A294, ∃ c295, ∃ (x297 : Int), fields_put_uint64.l0 K a0 t231 k x293 x297 = some r ∧ Has 34 [(0, .int .u64 a0), (7, .slice A294 x293.length c295), (18, .slice A233 t231.length c234), (19, .int .i64 (t231.length : Int)), (20, .int .i64 x297)] a ∧ Wd w W298 [] [⟨5, 1, .slice A294 x293.length c295, x293.length, encs (encI .u8) x293⟩, ⟨3, 1, .slice A233 t231.length c234, t231.length, encs (encI .i64) t231⟩]) K ?_ ?_
      · skip
        replace HW := HW.nilo 5 1
        exact ⟨([] : List Int), none, 0, 0, h, ha.sub (subs_cons KR (subs_cons KR (subs_cons KR (subs_cons KR (subs_cons KR (subs_nil _)))))), HW.pick [] [0, 1] (by decide) (by decide) KR KR⟩
      · skip
        intro k a W298 hI
        obtain ⟨x293, A294, c295, x297, h, ha, HW⟩ := hI
        cases k with
        | zero => exact (none_some (show none = some r from h)).elim
        | succ k299 =>
          replace h : fields_put_uint64.b0 K a0 t231 (fields_put_uint64.l0 K a0 t231 k299) x293 x297 = some r := h
          obtain ⟨again292, hag300⟩ : ∃ g_, g_ = fields_put_uint64.l0 K a0 t231 k299 := ⟨_, rfl⟩
          rw [← hag300] at h
          unfold fields_put_uint64.b0 at h
          refine wp_seq_k (fun K301 hK302 => ?_)
          refine wp_region_lit ?_
          refine stepp ha 21 (.bool (decide (x297 < (t231.length : Int)))) KR KR ?_; clear ha a; intro a ha
          refine endl ?_
          refine thenN (hK302 _ _ ?_); clear hK302
          refine wp_seq_k (fun K303 hK304 => ?_)
          by_cases hp305 : x297 < (t231.length : Int)
          · skip
            replace h := ite_pos' h hp305
            refine condT ha KR KR (t := decide (x297 < (t231.length : Int))) (decide_eq_true hp305) ?_
            refine wp_skip ?_
            refine thenN (hK304 _ _ ?_); clear hK304
            refine wp_seq_k (fun K306 hK307 => ?_)
            refine wp_block ?_
            refine wp_seq_k (fun K308 hK309 => ?_)
            refine wp_region_lit ?_
            obtain ⟨hA310, h_⟩ := asrt_some h; clear h; have h := h_; clear h_
            refine stepie (encI .i64) (0 : Int) ha 22 (fun _ => rfl) (v := .slice A233 t231.length c234) (xs := t231) (HW.rdo (i := 1) (q := ⟨3, 1, .slice A233 t231.length c234, t231.length, encs (encI .i64) t231⟩) KR) 84 3 (.tmp 18) (.tmp 20) .i64 x297 rfl KR KR KR KR hA310 (show (x297 : Int) < ((t231).length : Int) from hp305) KR ?_; clear ha a; intro b311 off312 a hC313 ha
            refine stepl ha 23 hC313 3 0 (.tmp 22) (.int .i64 (rdL (0 : Int) t231 x297)) rfl KR KR KR ?_; clear ha a; intro a ha
            refine stepp ha 9 (.int .i64 (rdL (0 : Int) t231 x297)) KR KR ?_; clear ha a; intro a ha
            refine endl ?_
            refine thenN (hK309 _ _ ?_); clear hK309
            refine wp_region_lit ?_
            refine stepp ha 24 (.slice A294 x293.length c295) KR KR ?_; clear ha a; intro a ha
            refine stepp ha 25 (.int .u64 a0) KR KR ?_; clear ha a; intro a ha
            refine stepp ha 26 (.int .i64 (rdL (0 : Int) t231 x297)) KR KR ?_; clear ha a; intro a ha
            obtain ⟨hA314, h_⟩ := asrt_some h; clear h; have h := h_; clear h_
            refine stepshr ha 27 32 3 (.tmp 25) (.tmp 26) .u64 .i64 a0 (rdL (0 : Int) t231 x297) rfl KR KR hA314 KR ?_; clear ha a; intro a ha
            refine stepp ha 28 (.int .u8 (IntKind.wrap .u8 (sshr .u64 a0 (rdL (0 : Int) t231 x297)))) KR KR ?_; clear ha a; intro a ha
            refine stepbs ha HW 29 5 1 1 #[.int .u8 (IntKind.wrap .u8 (sshr .u64 a0 (rdL (0 : Int) t231 x297)))] [.int .u8 (IntKind.wrap .u8 (sshr .u64 a0 (rdL (0 : Int) t231 x297)))] (by decide) KR KR KR KR ?_; clear ha HW a; intro b315 a W316 HW ha
            replace HW : Wd w W316 [] [⟨5, 1, .slice (some ⟨b315, 0, none⟩) ([IntKind.wrap .u8 (sshr .u64 a0 (rdL (0 : Int) t231 x297))] : List Int).length 1, ([IntKind.wrap .u8 (sshr .u64 a0 (rdL (0 : Int) t231 x297))] : List Int).length, encs (encI .u8) ([IntKind.wrap .u8 (sshr .u64 a0 (rdL (0 : Int) t231 x297))] : List Int)⟩, ⟨5, 1, .slice A294 x293.length c295, x293.length, encs (encI .u8) x293⟩, ⟨3, 1, .slice A233 t231.length c234, t231.length, encs (encI .i64) t231⟩] := HW
            replace ha := ha.turn 29 (v := .slice (some ⟨b315, 0, none⟩) ([IntKind.wrap .u8 (sshr .u64 a0 (rdL (0 : Int) t231 x297))] : List Int).length 1) KR rfl
            obtain ⟨hA318, h_⟩ := asrt_some h; clear h; have h := h_; clear h_
            refine stepape (encI .u8) ha HW 30 1 56 5 (.tmp 24) (.tmp 29) (.int .u8 0) 1 1 (.slice A294 x293.length c295) x293 (.slice (some ⟨b315, 0, none⟩) ([IntKind.wrap .u8 (sshr .u64 a0 (rdL (0 : Int) t231 x297))] : List Int).length 1) ([IntKind.wrap .u8 (sshr .u64 a0 (rdL (0 : Int) t231 x297))] : List Int) KR rfl KR KR (HW.rdo (i := 0) (q := ⟨5, 1, .slice (some ⟨b315, 0, none⟩) ([IntKind.wrap .u8 (sshr .u64 a0 (rdL (0 : Int) t231 x297))] : List Int).length 1, ([IntKind.wrap .u8 (sshr .u64 a0 (rdL (0 : Int) t231 x297))] : List Int).length, encs (encI .u8) ([IntKind.wrap .u8 (sshr .u64 a0 (rdL (0 : Int) t231 x297))] : List Int)⟩) KR) (fun _ => rfl) KR KR KR (by decide) (by have := hA318; unfold maxLen; omega) (by have := hA318; omega) KR ?_; clear ha HW a; intro A319 c320 a W321 HW ha
            refine stepp ha 7 (.slice A319 (x293 ++ ([IntKind.wrap .u8 (sshr .u64 a0 (rdL (0 : Int) t231 x297))] : List Int)).length c320) KR KR ?_; clear ha a; intro a ha
            refine endl ?_
            refine blkN ?_
            refine thenN (hK307 _ _ ?_); clear hK307
            refine wp_region_lit ?_
            refine stepp ha 31 (.int .i64 (IntKind.wrap .i64 (x297 + 1))) KR KR ?_; clear ha a; intro a ha
            refine stepp ha 20 (.int .i64 (IntKind.wrap .i64 (x297 + 1))) KR KR ?_; clear ha a; intro a ha
            refine endl ?_
            exact thenN ⟨k299, Nat.lt_succ_self k299, x293 ++ ([IntKind.wrap .u8 (sshr .u64 a0 (rdL (0 : Int) t231 x297))] : List Int), A319, c320, IntKind.wrap .i64 (x297 + 1), (by rw [← hag300]; exact h), ha.sub (subs_cons KR (subs_cons KR (subs_cons KR (subs_cons KR (subs_cons KR (subs_nil _)))))), HW.pick [] [1, 2] (by decide) (by decide) KR KR⟩
          · skip
            replace h := ite_neg' h hp305
            refine condF ha KR KR (t := decide (x297 < (t231.length : Int))) (decide_eq_false hp305) ?_
            refine wp_exit ?_
            refine thenE ?_
            refine thenE ?_
            refine inBlk ?_
            refine thenN (hK228 _ _ ?_); clear hK228
            refine wp_seq_k (fun K324 hK325 => ?_)
            refine wp_region_lit ?_
            refine stepp ha 32 (.slice A294 x293.length c295) KR KR ?_; clear ha a; intro a ha
            refine stepbt ha 33 56 9 5 (.tmp 32) (v := .slice A294 x293.length c295) (xs := x293) (HW.rdo (i := 0) (q := ⟨5, 1, .slice A294 x293.length c295, x293.length, encs (encI .u8) x293⟩) KR) rfl KR KR KR KR KR ?_; clear ha a; intro a ha
            refine stepp ha 6 (.string (strOfNums x293)) KR KR ?_; clear ha a; intro a ha
            refine endl ?_
            refine thenN (hK325 _ _ ?_); clear hK325
            refine wp_ret ?_
            obtain rfl := Option.some.inj h
            exact finv ha _ _ rfl (.tmp (v := .string (strOfNums x293)) KR .nil) (.string (strOfNums x293)) rfl ⟨rfl, HW.pick [] [] (by decide) (by decide) rfl KR⟩
/-! ### headgate/fields.PutBig: function 30 -/
def fields_PutBig.f (K : Nat) (a0 : Int) (a1 : Int) : Option ByteArray :=
  (fields_put_uint64.f K a0 a1 true).bind fun t330 => (some t330)
set_option maxRecDepth 100000 in
set_option maxHeartbeats 4000000 in
theorem fields_PutBig.calls (K : Nat) (a0 : Int) (a1 : Int)  (r : ByteArray) (w : World)  (h : fields_PutBig.f K a0 a1 = some r) :
    Calls Tryd.prog 30 #[.int .u64 a0, .int .i64 a1] w (fun e W' => e = .returned (.string r) ∧ Wd w W' [] [] ) := by
  refine sxstart (n := 8) (l := [(0, .int .u64 a0), (1, .int .i64 a1)]) Tryd.func30 rfl rfl (Nat.le_of_ble_eq_true KR) (subsA_cons rfl (subsA_cons rfl (subsA_nil _))) ?_
  intro a ha
  have HW := Wd.refl w
  unfold fields_PutBig.f at h
  refine wp_seq_k (fun K326 hK327 => ?_)
  refine wp_region_lit ?_
  refine stepp ha 4 (.string (⟨#[]⟩ : ByteArray)) KR KR ?_; clear ha a; intro a ha
  refine endl ?_
  refine thenN (hK327 _ _ ?_); clear hK327
  refine wp_seq_k (fun K328 hK329 => ?_)
  refine wp_region_lit ?_
  refine stepp ha 5 (.int .u64 a0) KR KR ?_; clear ha a; intro a ha
  refine stepp ha 6 (.int .i64 a1) KR KR ?_; clear ha a; intro a ha
  obtain ⟨t330, ht331, h_⟩ := bind_some' h; clear h; have h := h_; clear h_
  refine stepc ha 7 KR KR (fields_put_uint64.calls K a0 a1 true t330 _ ht331) ?_; clear ha a; rintro e W332 ⟨rfl, HX333⟩
  refine ⟨_, rfl, ?_⟩; intro a ha; replace HW := HW.callw HX333; clear HX333
  refine stepp ha 4 (.string t330) KR KR ?_; clear ha a; intro a ha
  refine endl ?_
  refine thenN (hK329 _ _ ?_); clear hK329
  refine wp_ret ?_
  obtain rfl := Option.some.inj h
  exact finv ha _ _ rfl (.tmp (v := .string t330) KR .nil) (.string t330) rfl ⟨rfl, HW.pick [] [] (by decide) (by decide) rfl KR⟩
/-! ### headgate/fields.get[uint64]: function 44 -/
def fields_get_uint64.b0 (K : Nat) (a0 : ByteArray) (a1 : Int) (t467 : List Int) (again510 : Int → Int → Option (Int × Bool)) (x511 : Int) (x512 : Int) : Option (Int × Bool) :=
  if x512 < (t467.length : Int) then (asrt (0 ≤ x512) (asrt (0 ≤ (IntKind.wrap .i64 (a1 + x512))) (asrt ((IntKind.wrap .i64 (a1 + x512)) < (a0.size : Int)) (asrt (0 ≤ (rdL (0 : Int) t467 x512)) (again510 (bor .u64 x511 (sshl .u64 (IntKind.wrap .u64 (bt a0 (IntKind.wrap .i64 (a1 + x512)))) (rdL (0 : Int) t467 x512))) (IntKind.wrap .i64 (x512 + 1))))))) else (some (x511, true))
def fields_get_uint64.l0 (K : Nat) (a0 : ByteArray) (a1 : Int) (t467 : List Int) : Nat → Int → Int → Option (Int × Bool)
  | 0, _, _ => none
  | k_ + 1, x511, x512 => fields_get_uint64.b0 K a0 a1 t467 (fields_get_uint64.l0 K a0 a1 t467 k_) x511 x512
def fields_get_uint64.f (K : Nat) (a0 : ByteArray) (a1 : Int) (a2 : Int) (a3 : Bool) : Option (Int × Bool) :=
  if a2 < 1 then (some (0, false)) else (if a2 > 8 then (some (0, false)) else (if a1 < 0 then (some (0, false)) else (if a1 > (IntKind.wrap .i64 ((a0.size : Int) - a2)) then (some (0, false)) else ((fields_shifts.f K a2 a3).bind fun t467 => (fields_get_uint64.l0 K a0 a1 t467 K 0 0)))))
set_option maxRecDepth 100000 in
set_option maxHeartbeats 4000000 in
theorem fields_get_uint64.calls (K : Nat) (a0 : ByteArray) (a1 : Int) (a2 : Int) (a3 : Bool)  (r : Int × Bool) (w : World)  (h : fields_get_uint64.f K a0 a1 a2 a3 = some r) :
    Calls Tryd.prog 44 #[.string a0, .int .i64 a1, .int .i64 a2, .bool a3] w (fun e W' => e = .returned (.tuple #[.int .u64 r.1, .bool r.2]) ∧ Wd w W' [] [] ) := by
  refine sxstart (n := 52) (l := [(0, .string a0), (1, .int .i64 a1), (2, .int .i64 a2), (3, .bool a3)]) Tryd.func44 rfl rfl (Nat.le_of_ble_eq_true KR) (subsA_cons rfl (subsA_cons rfl (subsA_cons rfl (subsA_cons rfl (subsA_nil _))))) ?_
  intro a ha
  have HW := Wd.refl w
  unfold fields_get_uint64.f at h
  refine wp_seq_k (fun K443 hK444 => ?_)
  refine wp_region_lit ?_
  refine stepp ha 8 (.int .u64 0) KR KR ?_; clear ha a; intro a ha
  refine stepp ha 9 (.bool false) KR KR ?_; clear ha a; intro a ha
  refine endl ?_
  refine thenN (hK444 _ _ ?_); clear hK444
  refine wp_seq_k (fun K445 hK446 => ?_)
  refine wp_seq_k (fun K447 hK448 => ?_)
  refine wp_region_lit ?_
  refine stepp ha 13 (.int .i64 a2) KR KR ?_; clear ha a; intro a ha
  refine stepp ha 14 (.bool (decide (a2 < 1))) KR KR ?_; clear ha a; intro a ha
  refine stepp ha 15 (.bool (decide (a2 < 1))) KR KR ?_; clear ha a; intro a ha
  by_cases hp449 : a2 < 1
  · skip
    replace h := ite_pos' h hp449
    replace ha := ha.bool 15 KR (decide_eq_true hp449)
    refine stepo ha 16 KR ?_; clear ha a; intro a ha
    refine stepo ha 17 KR ?_; clear ha a; intro a ha
    refine stepp ha 18 (.bool true) KR KR ?_; clear ha a; intro a ha
    refine stepp ha 19 (.bool true) KR KR ?_; clear ha a; intro a ha
    refine stepo ha 20 KR ?_; clear ha a; intro a ha
    refine stepo ha 21 KR ?_; clear ha a; intro a ha
    refine stepp ha 22 (.bool true) KR KR ?_; clear ha a; intro a ha
    refine stepp ha 23 (.bool true) KR KR ?_; clear ha a; intro a ha
    refine stepo ha 24 KR ?_; clear ha a; intro a ha
    refine stepo ha 25 KR ?_; clear ha a; intro a ha
    refine stepo ha 26 KR ?_; clear ha a; intro a ha
    refine stepo ha 27 KR ?_; clear ha a; intro a ha
    refine stepo ha 28 KR ?_; clear ha a; intro a ha
    refine stepo ha 29 KR ?_; clear ha a; intro a ha
    refine stepp ha 30 (.bool true) KR KR ?_; clear ha a; intro a ha
    refine endl ?_
    refine thenN (hK448 _ _ ?_); clear hK448
    refine condT ha KR KR (t := true) (rfl) ?_
    refine wp_seq_k (fun K452 hK453 => ?_)
    refine wp_region_lit ?_
    refine stepp ha 8 (.int .u64 0) KR KR ?_; clear ha a; intro a ha
    refine stepp ha 9 (.bool false) KR KR ?_; clear ha a; intro a ha
    refine endl ?_
    refine thenN (hK453 _ _ ?_); clear hK453
    refine wp_ret ?_
    refine thenR ?_
    obtain rfl := Option.some.inj h
    exact finv ha _ _ rfl (.tmp (v := .int .u64 0) KR (.tmp (v := .bool false) KR .nil)) (.tuple #[.int .u64 0, .bool false]) rfl ⟨rfl, HW.pick [] [] (by decide) (by decide) rfl KR⟩
  · skip
    replace h := ite_neg' h hp449
    replace ha := ha.bool 15 KR (decide_eq_false hp449)
    refine stepp ha 16 (.int .i64 a2) KR KR ?_; clear ha a; intro a ha
    refine stepp ha 17 (.bool (decide (a2 > 8))) KR KR ?_; clear ha a; intro a ha
    refine stepp ha 18 (.bool (decide (a2 > 8))) KR KR ?_; clear ha a; intro a ha
    refine stepp ha 19 (.bool (decide (a2 > 8))) KR KR ?_; clear ha a; intro a ha
    by_cases hp450 : a2 > 8
    · skip
      replace h := ite_pos' h hp450
      replace ha := ha.bool 19 KR (decide_eq_true hp450)
      refine stepo ha 20 KR ?_; clear ha a; intro a ha
      refine stepo ha 21 KR ?_; clear ha a; intro a ha
      refine stepp ha 22 (.bool true) KR KR ?_; clear ha a; intro a ha
      refine stepp ha 23 (.bool true) KR KR ?_; clear ha a; intro a ha
      refine stepo ha 24 KR ?_; clear ha a; intro a ha
      refine stepo ha 25 KR ?_; clear ha a; intro a ha
      refine stepo ha 26 KR ?_; clear ha a; intro a ha
      refine stepo ha 27 KR ?_; clear ha a; intro a ha
      refine stepo ha 28 KR ?_; clear ha a; intro a ha
      refine stepo ha 29 KR ?_; clear ha a; intro a ha
      refine stepp ha 30 (.bool true) KR KR ?_; clear ha a; intro a ha
      refine endl ?_
      refine thenN (hK448 _ _ ?_); clear hK448
      refine condT ha KR KR (t := true) (rfl) ?_
      refine wp_seq_k (fun K454 hK455 => ?_)
      refine wp_region_lit ?_
      refine stepp ha 8 (.int .u64 0) KR KR ?_; clear ha a; intro a ha
      refine stepp ha 9 (.bool false) KR KR ?_; clear ha a; intro a ha
      refine endl ?_
      refine thenN (hK455 _ _ ?_); clear hK455
      refine wp_ret ?_
      refine thenR ?_
      obtain rfl := Option.some.inj h
      exact finv ha _ _ rfl (.tmp (v := .int .u64 0) KR (.tmp (v := .bool false) KR .nil)) (.tuple #[.int .u64 0, .bool false]) rfl ⟨rfl, HW.pick [] [] (by decide) (by decide) rfl KR⟩
    · skip
      replace h := ite_neg' h hp450
      replace ha := ha.bool 19 KR (decide_eq_false hp450)
      refine stepp ha 20 (.int .i64 a1) KR KR ?_; clear ha a; intro a ha
      refine stepp ha 21 (.bool (decide (a1 < 0))) KR KR ?_; clear ha a; intro a ha
      refine stepp ha 22 (.bool (decide (a1 < 0))) KR KR ?_; clear ha a; intro a ha
      refine stepp ha 23 (.bool (decide (a1 < 0))) KR KR ?_; clear ha a; intro a ha
      by_cases hp451 : a1 < 0
      · skip
        replace h := ite_pos' h hp451
        replace ha := ha.bool 23 KR (decide_eq_true hp451)
        refine stepo ha 24 KR ?_; clear ha a; intro a ha
        refine stepo ha 25 KR ?_; clear ha a; intro a ha
        refine stepo ha 26 KR ?_; clear ha a; intro a ha
        refine stepo ha 27 KR ?_; clear ha a; intro a ha
        refine stepo ha 28 KR ?_; clear ha a; intro a ha
        refine stepo ha 29 KR ?_; clear ha a; intro a ha
        refine stepp ha 30 (.bool true) KR KR ?_; clear ha a; intro a ha
        refine endl ?_
        refine thenN (hK448 _ _ ?_); clear hK448
        refine condT ha KR KR (t := true) (rfl) ?_
        refine wp_seq_k (fun K456 hK457 => ?_)
        refine wp_region_lit ?_
        refine stepp ha 8 (.int .u64 0) KR KR ?_; clear ha a; intro a ha
        refine stepp ha 9 (.bool false) KR KR ?_; clear ha a; intro a ha
        refine endl ?_
        refine thenN (hK457 _ _ ?_); clear hK457
        refine wp_ret ?_
        refine thenR ?_
        obtain rfl := Option.some.inj h
        exact finv ha _ _ rfl (.tmp (v := .int .u64 0) KR (.tmp (v := .bool false) KR .nil)) (.tuple #[.int .u64 0, .bool false]) rfl ⟨rfl, HW.pick [] [] (by decide) (by decide) rfl KR⟩
      · skip
        replace h := ite_neg' h hp451
        replace ha := ha.bool 23 KR (decide_eq_false hp451)
        refine stepp ha 24 (.int .i64 a1) KR KR ?_; clear ha a; intro a ha
        refine stepp ha 25 (.string a0) KR KR ?_; clear ha a; intro a ha
        refine stepp ha 26 (.int .i64 (a0.size : Int)) KR KR ?_; clear ha a; intro a ha
        refine stepp ha 27 (.int .i64 a2) KR KR ?_; clear ha a; intro a ha
        refine stepp ha 28 (.int .i64 (IntKind.wrap .i64 ((a0.size : Int) - a2))) KR KR ?_; clear ha a; intro a ha
        refine stepp ha 29 (.bool (decide (a1 > (IntKind.wrap .i64 ((a0.size : Int) - a2))))) KR KR ?_; clear ha a; intro a ha
        refine stepp ha 30 (.bool (decide (a1 > (IntKind.wrap .i64 ((a0.size : Int) - a2))))) KR KR ?_; clear ha a; intro a ha
        refine endl ?_
        refine thenN (hK448 _ _ ?_); clear hK448
        by_cases hp458 : a1 > (IntKind.wrap .i64 ((a0.size : Int) - a2))
        · skip
          replace h := ite_pos' h hp458
          refine condT ha KR KR (t := decide (a1 > (IntKind.wrap .i64 ((a0.size : Int) - a2)))) (decide_eq_true hp458) ?_
          refine wp_seq_k (fun K459 hK460 => ?_)
          refine wp_region_lit ?_
          refine stepp ha 8 (.int .u64 0) KR KR ?_; clear ha a; intro a ha
          refine stepp ha 9 (.bool false) KR KR ?_; clear ha a; intro a ha
          refine endl ?_
          refine thenN (hK460 _ _ ?_); clear hK460
          refine wp_ret ?_
          refine thenR ?_
          obtain rfl := Option.some.inj h
          exact finv ha _ _ rfl (.tmp (v := .int .u64 0) KR (.tmp (v := .bool false) KR .nil)) (.tuple #[.int .u64 0, .bool false]) rfl ⟨rfl, HW.pick [] [] (by decide) (by decide) rfl KR⟩
        · skip
          replace h := ite_neg' h hp458
          refine condF ha KR KR (t := decide (a1 > (IntKind.wrap .i64 ((a0.size : Int) - a2)))) (decide_eq_false hp458) ?_
          refine wp_skip ?_
          refine thenN (hK446 _ _ ?_); clear hK446
          refine wp_seq_k (fun K461 hK462 => ?_)
          refine wp_region_lit ?_
          refine stepp ha 10 (.int .u64 0) KR KR ?_; clear ha a; intro a ha
          refine endl ?_
          refine thenN (hK462 _ _ ?_); clear hK462
          refine wp_seq_k (fun K463 hK464 => ?_)
          refine wp_seq_k (fun K465 hK466 => ?_)
          refine wp_region_lit ?_
          refine stepp ha 31 (.int .i64 a2) KR KR ?_; clear ha a; intro a ha
          refine stepp ha 32 (.bool a3) KR KR ?_; clear ha a; intro a ha
          obtain ⟨t467, ht468, h_⟩ := bind_some' h; clear h; have h := h_; clear h_
          refine stepc ha 33 KR KR (fields_shifts.calls K a2 a3 t467 _ ht468) ?_; clear ha a; rintro e W472 ⟨A469, c470, rfl, HX473⟩
          refine ⟨_, rfl, ?_⟩; intro a ha; replace HW := HW.callw HX473; clear HX473
          refine stepp ha 34 (.int .i64 (t467.length : Int)) KR KR ?_; clear ha a; intro a ha
          refine stepp ha 35 (.int .i64 0) KR KR ?_; clear ha a; intro a ha
          refine endl ?_
          refine thenN (hK466 _ _ ?_); clear hK466
          refine wp_block ?_
          refine loopk (fun k => fun a W513 => ∃ (x511 : Int), ∃ (x512 : Int), fields_get_uint64.l0 K a0 a1 t467 k x511 x512 = some r ∧ Has 52 [(0, .string a0), (1, .int .i64 a1), (10, .int .u64 x511), (33, .slice A469 t467.length c470), (34, .int .i64 (t467.length : Int)), (35, .int .i64 x512)] a ∧ Wd w W513 [] [⟨3, 1, .slice A469 t467.length c470, t467.length, encs (encI .i64) t467⟩]) K ?_ ?_
          · skip
            exact ⟨0, 0, h, ha.sub (subs_cons KR (subs_cons KR (subs_cons KR (subs_cons KR (subs_cons KR (subs_cons KR (subs_nil _))))))), HW.pick [] [0] (by decide) (by decide) KR KR⟩
          · skip
            intro k a W513 hI
            obtain ⟨x511, x512, h, ha, HW⟩ := hI
            cases k with
            | zero => exact (none_some (show none = some r from h)).elim
            | succ k514 =>
              replace h : fields_get_uint64.b0 K a0 a1 t467 (fields_get_uint64.l0 K a0 a1 t467 k514) x511 x512 = some r := h
              obtain ⟨again510, hag515⟩ : ∃ g_, g_ = fields_get_uint64.l0 K a0 a1 t467 k514 := ⟨_, rfl⟩
              rw [← hag515] at h
              unfold fields_get_uint64.b0 at h
              refine wp_seq_k (fun K516 hK517 => ?_)
              refine wp_region_lit ?_
              refine stepp ha 36 (.bool (decide (x512 < (t467.length : Int)))) KR KR ?_; clear ha a; intro a ha
              refine endl ?_
              refine thenN (hK517 _ _ ?_); clear hK517
              refine wp_seq_k (fun K518 hK519 => ?_)
              by_cases hp520 : x512 < (t467.length : Int)
              · skip
                replace h := ite_pos' h hp520
                refine condT ha KR KR (t := decide (x512 < (t467.length : Int))) (decide_eq_true hp520) ?_
                refine wp_skip ?_
                refine thenN (hK519 _ _ ?_); clear hK519
                refine wp_seq_k (fun K521 hK522 => ?_)
                refine wp_block ?_
                refine wp_seq_k (fun K523 hK524 => ?_)
                refine wp_region_lit ?_
                refine stepp ha 37 (.int .i64 x512) KR KR ?_; clear ha a; intro a ha
                obtain ⟨hA525, h_⟩ := asrt_some h; clear h; have h := h_; clear h_
                refine stepie (encI .i64) (0 : Int) ha 38 (fun _ => rfl) (v := .slice A469 t467.length c470) (xs := t467) (HW.rdo (i := 0) (q := ⟨3, 1, .slice A469 t467.length c470, t467.length, encs (encI .i64) t467⟩) KR) 84 3 (.tmp 33) (.tmp 35) .i64 x512 rfl KR KR KR KR hA525 (show (x512 : Int) < ((t467).length : Int) from hp520) KR ?_; clear ha a; intro b526 off527 a hC528 ha
                refine stepl ha 39 hC528 3 0 (.tmp 38) (.int .i64 (rdL (0 : Int) t467 x512)) rfl KR KR KR ?_; clear ha a; intro a ha
                refine stepp ha 11 (.int .i64 x512) KR KR ?_; clear ha a; intro a ha
                refine stepp ha 12 (.int .i64 (rdL (0 : Int) t467 x512)) KR KR ?_; clear ha a; intro a ha
                refine endl ?_
                refine thenN (hK524 _ _ ?_); clear hK524
                refine wp_region_lit ?_
                refine stepp ha 40 (.int .u64 x511) KR KR ?_; clear ha a; intro a ha
                refine stepp ha 41 (.string a0) KR KR ?_; clear ha a; intro a ha
                refine stepp ha 42 (.int .i64 a1) KR KR ?_; clear ha a; intro a ha
                refine stepp ha 43 (.int .i64 x512) KR KR ?_; clear ha a; intro a ha
                refine stepp ha 44 (.int .i64 (IntKind.wrap .i64 (a1 + x512))) KR KR ?_; clear ha a; intro a ha
                obtain ⟨hA529, h_⟩ := asrt_some h; clear h; have h := h_; clear h_
                obtain ⟨hA530, h_⟩ := asrt_some h; clear h; have h := h_; clear h_
                refine stepsi ha 45 9 (.tmp 41) (.tmp 44) a0 .i64 (IntKind.wrap .i64 (a1 + x512)) rfl KR KR KR hA529 (show (IntKind.wrap .i64 (a1 + x512) : Int) < ((a0).size : Int) from hA530) KR ?_; clear ha a; intro a ha
                refine stepp ha 46 (.int .u64 (IntKind.wrap .u64 (bt a0 (IntKind.wrap .i64 (a1 + x512))))) KR KR ?_; clear ha a; intro a ha
                refine stepp ha 47 (.int .i64 (rdL (0 : Int) t467 x512)) KR KR ?_; clear ha a; intro a ha
                obtain ⟨hA531, h_⟩ := asrt_some h; clear h; have h := h_; clear h_
                refine stepshl ha 48 32 3 (.tmp 46) (.tmp 47) .u64 .i64 (IntKind.wrap .u64 (bt a0 (IntKind.wrap .i64 (a1 + x512)))) (rdL (0 : Int) t467 x512) rfl KR KR hA531 KR ?_; clear ha a; intro a ha
                refine stepp ha 49 (.int .u64 (bor .u64 x511 (sshl .u64 (IntKind.wrap .u64 (bt a0 (IntKind.wrap .i64 (a1 + x512)))) (rdL (0 : Int) t467 x512)))) KR KR ?_; clear ha a; intro a ha
                refine stepp ha 10 (.int .u64 (bor .u64 x511 (sshl .u64 (IntKind.wrap .u64 (bt a0 (IntKind.wrap .i64 (a1 + x512)))) (rdL (0 : Int) t467 x512)))) KR KR ?_; clear ha a; intro a ha
                refine endl ?_
                refine blkN ?_
                refine thenN (hK522 _ _ ?_); clear hK522
                refine wp_region_lit ?_
                refine stepp ha 50 (.int .i64 (IntKind.wrap .i64 (x512 + 1))) KR KR ?_; clear ha a; intro a ha
                refine stepp ha 35 (.int .i64 (IntKind.wrap .i64 (x512 + 1))) KR KR ?_; clear ha a; intro a ha
                refine endl ?_
                exact thenN ⟨k514, Nat.lt_succ_self k514, bor .u64 x511 (sshl .u64 (IntKind.wrap .u64 (bt a0 (IntKind.wrap .i64 (a1 + x512)))) (rdL (0 : Int) t467 x512)), IntKind.wrap .i64 (x512 + 1), (by rw [← hag515]; exact h), ha.sub (subs_cons KR (subs_cons KR (subs_cons KR (subs_cons KR (subs_cons KR (subs_cons KR (subs_nil _))))))), HW.pick [] [0] (by decide) (by decide) KR KR⟩
              · skip
                replace h := ite_neg' h hp520
                refine condF ha KR KR (t := decide (x512 < (t467.length : Int))) (decide_eq_false hp520) ?_
                refine wp_exit ?_
                refine thenE ?_
                refine thenE ?_
                refine inBlk ?_
                refine thenN (hK464 _ _ ?_); clear hK464
                refine wp_seq_k (fun K532 hK533 => ?_)
                refine wp_region_lit ?_
                refine stepp ha 51 (.int .u64 x511) KR KR ?_; clear ha a; intro a ha
                refine stepp ha 8 (.int .u64 x511) KR KR ?_; clear ha a; intro a ha
                refine stepp ha 9 (.bool true) KR KR ?_; clear ha a; intro a ha
                refine endl ?_
                refine thenN (hK533 _ _ ?_); clear hK533
                refine wp_ret ?_
                obtain rfl := Option.some.inj h
                exact finv ha _ _ rfl (.tmp (v := .int .u64 x511) KR (.tmp (v := .bool true) KR .nil)) (.tuple #[.int .u64 x511, .bool true]) rfl ⟨rfl, HW.pick [] [] (by decide) (by decide) rfl KR⟩
/-! ### headgate/fields.Big: function 34 -/
def fields_Big.f (K : Nat) (a0 : ByteArray) (a1 : Int) (a2 : Int) : Option (Int × Bool) :=
  (fields_get_uint64.f K a0 a1 a2 true).bind fun t538 => (some (t538.1, t538.2))
set_option maxRecDepth 100000 in
set_option maxHeartbeats 4000000 in
theorem fields_Big.calls (K : Nat) (a0 : ByteArray) (a1 : Int) (a2 : Int)  (r : Int × Bool) (w : World)  (h : fields_Big.f K a0 a1 a2 = some r) :
    Calls Tryd.prog 34 #[.string a0, .int .i64 a1, .int .i64 a2] w (fun e W' => e = .returned (.tuple #[.int .u64 r.1, .bool r.2]) ∧ Wd w W' [] [] ) := by
  refine sxstart (n := 14) (l := [(0, .string a0), (1, .int .i64 a1), (2, .int .i64 a2)]) Tryd.func34 rfl rfl (Nat.le_of_ble_eq_true KR) (subsA_cons rfl (subsA_cons rfl (subsA_cons rfl (subsA_nil _)))) ?_
  intro a ha
  have HW := Wd.refl w
  unfold fields_Big.f at h
  refine wp_seq_k (fun K534 hK535 => ?_)
  refine wp_region_lit ?_
  refine stepp ha 6 (.int .u64 0) KR KR ?_; clear ha a; intro a ha
  refine stepp ha 7 (.bool false) KR KR ?_; clear ha a; intro a ha
  refine endl ?_
  refine thenN (hK535 _ _ ?_); clear hK535
  refine wp_seq_k (fun K536 hK537 => ?_)
  refine wp_region_lit ?_
  refine stepp ha 8 (.string a0) KR KR ?_; clear ha a; intro a ha
  refine stepp ha 9 (.int .i64 a1) KR KR ?_; clear ha a; intro a ha
  refine stepp ha 10 (.int .i64 a2) KR KR ?_; clear ha a; intro a ha
  obtain ⟨t538, ht539, h_⟩ := bind_some' h; clear h; have h := h_; clear h_
  refine stepc ha 11 KR KR (fields_get_uint64.calls K a0 a1 a2 true t538 _ ht539) ?_; clear ha a; rintro e W540 ⟨rfl, HX541⟩
  refine ⟨_, rfl, ?_⟩; intro a ha; replace HW := HW.callw HX541; clear HX541
  refine stepp ha 12 (.int .u64 t538.1) KR KR ?_; clear ha a; intro a ha
  refine stepp ha 13 (.bool t538.2) KR KR ?_; clear ha a; intro a ha
  refine stepp ha 6 (.int .u64 t538.1) KR KR ?_; clear ha a; intro a ha
  refine stepp ha 7 (.bool t538.2) KR KR ?_; clear ha a; intro a ha
  refine endl ?_
  refine thenN (hK537 _ _ ?_); clear hK537
  refine wp_ret ?_
  obtain rfl := Option.some.inj h
  exact finv ha _ _ rfl (.tmp (v := .int .u64 t538.1) KR (.tmp (v := .bool t538.2) KR .nil)) (.tuple #[.int .u64 t538.1, .bool t538.2]) rfl ⟨rfl, HW.pick [] [] (by decide) (by decide) rfl KR⟩
/-! ### headgate/cdb.Number: function 14 -/
def cdb_Number.f (a0 : Int) : Option Int :=
  if a0 < 1 then (some 0) else (if a0 > 6 then (some 0) else (asrt (0 ≤ a0) (asrt (a0 < 7) (some (rdL (0 : Int) G_cdb_numbers a0)))))
set_option maxRecDepth 100000 in
set_option maxHeartbeats 4000000 in
theorem cdb_Number.calls (a0 : Int)  (r : Int) (w : World) (hG0 : CA w 0 0 (encs (encI .i64) G_cdb_numbers).toArray) (h : cdb_Number.f a0 = some r) :
    Calls Tryd.prog 14 #[.int .i64 a0] w (fun e W' => e = .returned (.int .i64 r) ∧ Wd w W' [] [] ) := by
  refine sxstart (n := 12) (l := [(0, .int .i64 a0)]) Tryd.func14 rfl rfl (Nat.le_of_ble_eq_true KR) (subsA_cons rfl (subsA_nil _)) ?_
  intro a ha
  have HW := Wd.refl w
  unfold cdb_Number.f at h
  refine wp_seq_k (fun K1112 hK1113 => ?_)
  refine wp_region_lit ?_
  refine stepp ha 2 (.int .i64 0) KR KR ?_; clear ha a; intro a ha
  refine endl ?_
  refine thenN (hK1113 _ _ ?_); clear hK1113
  refine wp_seq_k (fun K1114 hK1115 => ?_)
  refine wp_seq_k (fun K1116 hK1117 => ?_)
  refine wp_region_lit ?_
  refine stepp ha 3 (.int .i64 a0) KR KR ?_; clear ha a; intro a ha
  refine stepp ha 4 (.bool (decide (a0 < 1))) KR KR ?_; clear ha a; intro a ha
  refine stepp ha 5 (.bool (decide (a0 < 1))) KR KR ?_; clear ha a; intro a ha
  by_cases hp1118 : a0 < 1
  · skip
    replace h := ite_pos' h hp1118
    replace ha := ha.bool 5 KR (decide_eq_true hp1118)
    refine stepo ha 6 KR ?_; clear ha a; intro a ha
    refine stepo ha 7 KR ?_; clear ha a; intro a ha
    refine stepp ha 8 (.bool true) KR KR ?_; clear ha a; intro a ha
    refine endl ?_
    refine thenN (hK1117 _ _ ?_); clear hK1117
    refine condT ha KR KR (t := true) (rfl) ?_
    refine wp_seq_k (fun K1119 hK1120 => ?_)
    refine wp_region_lit ?_
    refine stepp ha 2 (.int .i64 0) KR KR ?_; clear ha a; intro a ha
    refine endl ?_
    refine thenN (hK1120 _ _ ?_); clear hK1120
    refine wp_ret ?_
    refine thenR ?_
    obtain rfl := Option.some.inj h
    exact finv ha _ _ rfl (.tmp (v := .int .i64 0) KR .nil) (.int .i64 0) rfl ⟨rfl, HW.pick [] [] (by decide) (by decide) rfl KR⟩
  · skip
    replace h := ite_neg' h hp1118
    replace ha := ha.bool 5 KR (decide_eq_false hp1118)
    refine stepp ha 6 (.int .i64 a0) KR KR ?_; clear ha a; intro a ha
    refine stepp ha 7 (.bool (decide (a0 > 6))) KR KR ?_; clear ha a; intro a ha
    refine stepp ha 8 (.bool (decide (a0 > 6))) KR KR ?_; clear ha a; intro a ha
    refine endl ?_
    refine thenN (hK1117 _ _ ?_); clear hK1117
    by_cases hp1121 : a0 > 6
    · skip
      replace h := ite_pos' h hp1121
      refine condT ha KR KR (t := decide (a0 > 6)) (decide_eq_true hp1121) ?_
      refine wp_seq_k (fun K1122 hK1123 => ?_)
      refine wp_region_lit ?_
      refine stepp ha 2 (.int .i64 0) KR KR ?_; clear ha a; intro a ha
      refine endl ?_
      refine thenN (hK1123 _ _ ?_); clear hK1123
      refine wp_ret ?_
      refine thenR ?_
      obtain rfl := Option.some.inj h
      exact finv ha _ _ rfl (.tmp (v := .int .i64 0) KR .nil) (.int .i64 0) rfl ⟨rfl, HW.pick [] [] (by decide) (by decide) rfl KR⟩
    · skip
      replace h := ite_neg' h hp1121
      refine condF ha KR KR (t := decide (a0 > 6)) (decide_eq_false hp1121) ?_
      refine wp_skip ?_
      refine thenN (hK1115 _ _ ?_); clear hK1115
      refine wp_seq_k (fun K1124 hK1125 => ?_)
      refine wp_region_lit ?_
      refine stepp ha 9 (.int .i64 a0) KR KR ?_; clear ha a; intro a ha
      obtain ⟨hA1126, h_⟩ := asrt_some h; clear h; have h := h_; clear h_
      obtain ⟨hA1127, h_⟩ := asrt_some h; clear h; have h := h_; clear h_
      refine stepiw ha 10 (sz := 1) 0 0 69 7 3 (.global 0) (.tmp 9) .i64 a0 rfl KR KR KR KR hA1126 hA1127 KR ?_; clear ha a; intro a ha
      refine stepl ha 11 (CA.el (encI .i64) (0 : Int) (fun _ => rfl) (HW.ca0 hG0) G_cdb_numbers rfl (len := 7) rfl hA1126 hA1127) 3 0 (.tmp 10) (.int .i64 (rdL (0 : Int) G_cdb_numbers a0)) rfl KR KR KR ?_; clear ha a; intro a ha
      refine stepp ha 2 (.int .i64 (rdL (0 : Int) G_cdb_numbers a0)) KR KR ?_; clear ha a; intro a ha
      refine endl ?_
      refine thenN (hK1125 _ _ ?_); clear hK1125
      refine wp_ret ?_
      obtain rfl := Option.some.inj h
      exact finv ha _ _ rfl (.tmp (v := .int .i64 (rdL (0 : Int) G_cdb_numbers a0)) KR .nil) (.int .i64 (rdL (0 : Int) G_cdb_numbers a0)) rfl ⟨rfl, HW.pick [] [] (by decide) (by decide) rfl KR⟩
end Go.Proofs.YtpjcipadjegmlaaDoor.F
