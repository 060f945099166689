/- headgate/headgatelaw08.Id, headgate/headgatelaw09.Small, headgate/fields.shifts, headgate/fields.get[uint64], headgate/fields.Big, headgate/access.Type, headgate/resv.everybody, headgate/fields.put[uint64], headgate/fields.PutBig, headgate/image.Encode$1, headgate/fields.PutLittle, headgate/crc.More, headgate/crc.Sum, headgate/crc.Digest, headgate/headgateref08.Needs, sync/atomic.b32, headgate/store.good, math/bits.Mul32, math/bits.Mul64, math/bits.Mul, internal/stringslite.HasPrefix, strings.HasPrefix, strings.Repeat: plain functions, and that the calls come to what they say. No condition. -/
import Derived.Test.YteahodjiihjmnaaGreatDoorFT
import Derived.Test.YteahodjiihjmnaaGreatDoorXShelf
namespace Go.Proofs.YteahodjiihjmnaaGreatDoor.F
open Go Go.RowKit Go.Proofs.YteahodjiihjmnaaGreatDoor.X
set_option linter.unusedVariables false
set_option linter.unusedSimpArgs false
/-! ### headgate/headgatelaw08.Id: function 55 -/
def headgatelaw08_Id.f (a0 : Int) : Option ByteArray :=
  asrt (15 + (strOfNums ([IntKind.wrap .u8 (97 + (Int.tmod a0 26))] : List Int)).size ≤ 9223372036854775807) (some ((⟨#[117, 110, 105, 116, 45, 105, 100, 45, 48, 48, 48, 48, 48, 48, 48]⟩ : ByteArray) ++ (strOfNums ([IntKind.wrap .u8 (97 + (Int.tmod a0 26))] : List Int))))
set_option maxRecDepth 100000 in
set_option maxHeartbeats 4000000 in
theorem headgatelaw08_Id.calls (a0 : Int)  (r : ByteArray) (w : World)  (h : headgatelaw08_Id.f a0 = some r) :
    Calls Tryz.prog 55 #[.int .u8 a0] w (fun e W' => e = .returned (.string r) ∧ Wd w W' [] [] ) := by
  refine sxstart (n := 9) (l := [(0, .int .u8 a0)]) Tryz.func55 rfl rfl (Nat.le_of_ble_eq_true KR) (subsA_cons rfl (subsA_nil _)) ?_
  intro a ha
  have HW := Wd.refl w
  unfold headgatelaw08_Id.f at h
  refine wp_seq_k (fun K1 hK2 => ?_)
  refine wp_region_lit ?_
  refine stepp ha 2 (.string (⟨#[]⟩ : ByteArray)) KR KR ?_; clear ha a; intro a ha
  refine endl ?_
  refine thenN (hK2 _ _ ?_); clear hK2
  refine wp_seq_k (fun K3 hK4 => ?_)
  refine wp_region_lit ?_
  refine stepp ha 3 (.int .u8 a0) KR KR ?_; clear ha a; intro a ha
  refine stepp ha 4 (.int .u8 (Int.tmod a0 26)) KR KR ?_; clear ha a; intro a ha
  refine stepp ha 5 (.int .u8 (IntKind.wrap .u8 (97 + (Int.tmod a0 26)))) KR KR ?_; clear ha a; intro a ha
  refine stepbs ha HW 6 5 1 1 #[.int .u8 (IntKind.wrap .u8 (97 + (Int.tmod a0 26)))] [.int .u8 (IntKind.wrap .u8 (97 + (Int.tmod a0 26)))] (by decide) KR KR KR KR ?_; clear ha HW a; intro b5 a W6 HW ha
  replace HW : Wd w W6 [] [⟨5, 1, .slice (some ⟨b5, 0, none⟩) ([IntKind.wrap .u8 (97 + (Int.tmod a0 26))] : List Int).length 1, ([IntKind.wrap .u8 (97 + (Int.tmod a0 26))] : List Int).length, encs (encIK .u8) ([IntKind.wrap .u8 (97 + (Int.tmod a0 26))] : List Int)⟩] := HW
  replace ha := ha.turn 6 (v := .slice (some ⟨b5, 0, none⟩) ([IntKind.wrap .u8 (97 + (Int.tmod a0 26))] : List Int).length 1) KR rfl
  refine stepbt ha 7 79 9 5 (.tmp 6) (v := .slice (some ⟨b5, 0, none⟩) ([IntKind.wrap .u8 (97 + (Int.tmod a0 26))] : List Int).length 1) (xs := ([IntKind.wrap .u8 (97 + (Int.tmod a0 26))] : List Int)) (HW.rdo (i := 0) (q := ⟨5, 1, .slice (some ⟨b5, 0, none⟩) ([IntKind.wrap .u8 (97 + (Int.tmod a0 26))] : List Int).length 1, ([IntKind.wrap .u8 (97 + (Int.tmod a0 26))] : List Int).length, encs (encIK .u8) ([IntKind.wrap .u8 (97 + (Int.tmod a0 26))] : List Int)⟩) KR) rfl KR KR KR KR KR ?_; clear ha a; intro a ha
  obtain ⟨hA8, h_⟩ := asrt_some h; clear h; have h := h_; clear h_
  refine stepsa ha 8 9 9 (.const (.string (⟨#[117, 110, 105, 116, 45, 105, 100, 45, 48, 48, 48, 48, 48, 48, 48]⟩ : ByteArray))) (.tmp 7) (⟨#[117, 110, 105, 116, 45, 105, 100, 45, 48, 48, 48, 48, 48, 48, 48]⟩ : ByteArray) (strOfNums ([IntKind.wrap .u8 (97 + (Int.tmod a0 26))] : List Int)) rfl KR KR (show ((⟨#[117, 110, 105, 116, 45, 105, 100, 45, 48, 48, 48, 48, 48, 48, 48]⟩ : ByteArray)).size + (strOfNums ([IntKind.wrap .u8 (97 + (Int.tmod a0 26))] : List Int)).size ≤ 9223372036854775807 from hA8) KR ?_; clear ha a; intro a ha
  refine stepp ha 2 (.string ((⟨#[117, 110, 105, 116, 45, 105, 100, 45, 48, 48, 48, 48, 48, 48, 48]⟩ : ByteArray) ++ (strOfNums ([IntKind.wrap .u8 (97 + (Int.tmod a0 26))] : List Int)))) KR KR ?_; clear ha a; intro a ha
  refine endl ?_
  refine thenN (hK4 _ _ ?_); clear hK4
  refine wp_ret ?_
  obtain rfl := Option.some.inj h
  exact finv ha _ _ rfl (.tmp (v := .string ((⟨#[117, 110, 105, 116, 45, 105, 100, 45, 48, 48, 48, 48, 48, 48, 48]⟩ : ByteArray) ++ (strOfNums ([IntKind.wrap .u8 (97 + (Int.tmod a0 26))] : List Int)))) KR .nil) (.string ((⟨#[117, 110, 105, 116, 45, 105, 100, 45, 48, 48, 48, 48, 48, 48, 48]⟩ : ByteArray) ++ (strOfNums ([IntKind.wrap .u8 (97 + (Int.tmod a0 26))] : List Int)))) rfl ⟨rfl, HW.pick [] [] (by decide) (by decide) rfl KR⟩
/-! ### headgate/headgatelaw09.Small: function 19 -/
def headgatelaw09_Small.f  : Option (List T_api_Unit) :=
  (headgatelaw08_Id.f 0).bind fun t13 => ((headgatelaw08_Id.f 1).bind fun t17 => (some ([(⟨6, t13⟩ : T_api_Unit), (⟨3, t17⟩ : T_api_Unit)] : List T_api_Unit)))
set_option maxRecDepth 100000 in
set_option maxHeartbeats 4000000 in
theorem headgatelaw09_Small.calls   (r : List T_api_Unit) (w : World)  (h : headgatelaw09_Small.f  = some r) :
    Calls Tryz.prog 19 #[] w (fun e W' => ∃ A_0 c_0, e = .returned (.slice A_0 r.length c_0) ∧ Wd w W' [] [⟨85, 2, .slice A_0 r.length c_0, r.length, encs T_api_Unit.enc r⟩] ) := by
  refine sxstart (n := 6) (l := []) Tryz.func19 rfl rfl (Nat.le_of_ble_eq_true KR) (subsA_nil _) ?_
  intro a ha
  have HW := Wd.refl w
  unfold headgatelaw09_Small.f at h
  refine wp_seq_k (fun K9 hK10 => ?_)
  refine wp_region_lit ?_
  refine stepp ha 0 (.slice none 0 0) KR KR ?_; clear ha a; intro a ha
  refine endl ?_
  refine thenN (hK10 _ _ ?_); clear hK10
  refine wp_seq_k (fun K11 hK12 => ?_)
  refine wp_region_lit ?_
  obtain ⟨t13, ht14, h_⟩ := bind_some' h; clear h; have h := h_; clear h_
  refine stepc ha 1 KR KR (headgatelaw08_Id.calls 0 t13 _ ht14) ?_; clear ha a; rintro e W15 ⟨rfl, HX16⟩
  refine ⟨_, rfl, ?_⟩; intro a ha; replace HW := HW.callw HX16; clear HX16
  refine stepp ha 2 (.agg #[.int .i64 6, .string t13]) KR KR ?_; clear ha a; intro a ha
  obtain ⟨t17, ht18, h_⟩ := bind_some' h; clear h; have h := h_; clear h_
  refine stepc ha 3 KR KR (headgatelaw08_Id.calls 1 t17 _ ht18) ?_; clear ha a; rintro e W19 ⟨rfl, HX20⟩
  refine ⟨_, rfl, ?_⟩; intro a ha; replace HW := HW.callw HX20; clear HX20
  refine stepp ha 4 (.agg #[.int .i64 3, .string t17]) KR KR ?_; clear ha a; intro a ha
  refine stepbs ha HW 5 85 2 2 #[.int .i64 6, .string t13, .int .i64 3, .string t17] [.int .i64 6, .string t13, .int .i64 3, .string t17] (by decide) KR KR KR KR ?_; clear ha HW a; intro b21 a W22 HW ha
  replace HW : Wd w W22 [] [⟨85, 2, .slice (some ⟨b21, 0, none⟩) ([(⟨6, t13⟩ : T_api_Unit), (⟨3, t17⟩ : T_api_Unit)] : List T_api_Unit).length 2, ([(⟨6, t13⟩ : T_api_Unit), (⟨3, t17⟩ : T_api_Unit)] : List T_api_Unit).length, encs T_api_Unit.enc ([(⟨6, t13⟩ : T_api_Unit), (⟨3, t17⟩ : T_api_Unit)] : List T_api_Unit)⟩] := HW
  replace ha := ha.turn 5 (v := .slice (some ⟨b21, 0, none⟩) ([(⟨6, t13⟩ : T_api_Unit), (⟨3, t17⟩ : T_api_Unit)] : List T_api_Unit).length 2) KR rfl
  refine stepp ha 0 (.slice (some ⟨b21, 0, none⟩) ([(⟨6, t13⟩ : T_api_Unit), (⟨3, t17⟩ : T_api_Unit)] : List T_api_Unit).length 2) KR KR ?_; clear ha a; intro a ha
  refine endl ?_
  refine thenN (hK12 _ _ ?_); clear hK12
  refine wp_ret ?_
  obtain rfl := Option.some.inj h
  exact finv ha _ _ rfl (.tmp (v := .slice (some ⟨b21, 0, none⟩) ([(⟨6, t13⟩ : T_api_Unit), (⟨3, t17⟩ : T_api_Unit)] : List T_api_Unit).length 2) KR .nil) (.slice (some ⟨b21, 0, none⟩) ([(⟨6, t13⟩ : T_api_Unit), (⟨3, t17⟩ : T_api_Unit)] : List T_api_Unit).length 2) rfl ⟨some ⟨b21, 0, none⟩, 2, rfl, HW.pick [] [0] (by decide) (by decide) rfl KR⟩
/-! ### headgate/fields.shifts: function 249 -/
def fields_shifts.b0 (K : Nat) (a0 : Int) (a1 : Bool) (again149 : (List Int) → Int → Option (List Int)) (x150 : List Int) (x154 : Int) : Option (List Int) :=
  if x154 < a0 then (if a1 = true then (asrt (x150.length + ([IntKind.wrap .i64 (8 * (IntKind.wrap .i64 ((IntKind.wrap .i64 (a0 - 1)) - x154)))] : List Int).length ≤ 17592186044416) (again149 (x150 ++ ([IntKind.wrap .i64 (8 * (IntKind.wrap .i64 ((IntKind.wrap .i64 (a0 - 1)) - x154)))] : List Int)) (IntKind.wrap .i64 (x154 + 1)))) else (asrt (x150.length + ([IntKind.wrap .i64 (8 * x154)] : List Int).length ≤ 17592186044416) (again149 (x150 ++ ([IntKind.wrap .i64 (8 * x154)] : List Int)) (IntKind.wrap .i64 (x154 + 1))))) else (some x150)
def fields_shifts.l0 (K : Nat) (a0 : Int) (a1 : Bool) : Nat → (List Int) → Int → Option (List Int)
  | 0, _, _ => none
  | k_ + 1, x150, x154 => fields_shifts.b0 K a0 a1 (fields_shifts.l0 K a0 a1 k_) x150 x154
def fields_shifts.f (K : Nat) (a0 : Int) (a1 : Bool) : Option (List Int) :=
  fields_shifts.l0 K a0 a1 K ([] : List Int) 0
set_option maxRecDepth 100000 in
set_option maxHeartbeats 4000000 in
theorem fields_shifts.calls (K : Nat) (a0 : Int) (a1 : Bool)  (r : List Int) (w : World)  (h : fields_shifts.f K a0 a1 = some r) :
    Calls Tryz.prog 249 #[.int .i64 a0, .bool a1] w (fun e W' => ∃ A_0 c_0, e = .returned (.slice A_0 r.length c_0) ∧ Wd w W' [] [⟨3, 1, .slice A_0 r.length c_0, r.length, encs (encIK .i64) r⟩] ) := by
  refine sxstart (n := 27) (l := [(0, .int .i64 a0), (1, .bool a1)]) Tryz.func249 rfl rfl (Nat.le_of_ble_eq_true KR) (subsA_cons rfl (subsA_cons rfl (subsA_nil _))) ?_
  intro a ha
  have HW := Wd.refl w
  unfold fields_shifts.f at h
  refine wp_seq_k (fun K72 hK73 => ?_)
  refine wp_region_lit ?_
  refine stepp ha 4 (.slice none 0 0) KR KR ?_; clear ha a; intro a ha
  refine endl ?_
  refine thenN (hK73 _ _ ?_); clear hK73
  refine wp_seq_k (fun K74 hK75 => ?_)
  refine wp_region_lit ?_
  refine stepp ha 5 (.slice none 0 0) KR KR ?_; clear ha a; intro a ha
  refine endl ?_
  refine thenN (hK75 _ _ ?_); clear hK75
  refine wp_seq_k (fun K76 hK77 => ?_)
  refine wp_seq_k (fun K78 hK79 => ?_)
  refine wp_region_lit ?_
  refine stepp ha 7 (.int .i64 a0) KR KR ?_; clear ha a; intro a ha
  refine stepp ha 8 (.int .i64 0) KR KR ?_; clear ha a; intro a ha
  refine endl ?_
  refine thenN (hK79 _ _ ?_); clear hK79
  refine wp_block ?_
  refine loopk (fun k => fun a W155 => ∃ (x150 : List Int), ∃ A151, ∃ c152, ∃ (x154 : Int), fields_shifts.l0 K a0 a1 k x150 x154 = some r ∧ Has 27 [(0, .int .i64 a0), (1, .bool a1), (5, .slice A151 x150.length c152), (7, .int .i64 a0), (8, .int .i64 x154)] a ∧ Wd w W155 [] [⟨3, 1, .slice A151 x150.length c152, x150.length, encs (encIK .i64) x150⟩]) K ?_ ?_
  · skip
    replace HW := HW.nilo 3 1
    exact ⟨([] : List Int), none, 0, 0, h, ha.sub (subs_cons KR (subs_cons KR (subs_cons KR (subs_cons KR (subs_cons KR (subs_nil _)))))), HW.pick [] [0] (by decide) (by decide) KR KR⟩
  · skip
    intro k a W155 hI
    obtain ⟨x150, A151, c152, x154, h, ha, HW⟩ := hI
    cases k with
    | zero => exact (none_some (show none = some r from h)).elim
    | succ k156 =>
      replace h : fields_shifts.b0 K a0 a1 (fields_shifts.l0 K a0 a1 k156) x150 x154 = some r := h
      obtain ⟨again149, hag157⟩ : ∃ g_, g_ = fields_shifts.l0 K a0 a1 k156 := ⟨_, rfl⟩
      rw [← hag157] at h
      unfold fields_shifts.b0 at h
      refine wp_seq_k (fun K158 hK159 => ?_)
      refine wp_region_lit ?_
      refine stepp ha 9 (.bool (decide (x154 < a0))) KR KR ?_; clear ha a; intro a ha
      refine endl ?_
      refine thenN (hK159 _ _ ?_); clear hK159
      refine wp_seq_k (fun K160 hK161 => ?_)
      by_cases hp162 : x154 < a0
      · skip
        replace h := ite_pos' h hp162
        refine condT ha KR KR (t := decide (x154 < a0)) (decide_eq_true hp162) ?_
        refine wp_skip ?_
        refine thenN (hK161 _ _ ?_); clear hK161
        refine wp_seq_k (fun K163 hK164 => ?_)
        refine wp_block ?_
        refine wp_seq_k (fun K165 hK166 => ?_)
        refine wp_region_lit ?_
        refine stepp ha 10 (.int .i64 x154) KR KR ?_; clear ha a; intro a ha
        refine stepp ha 6 (.int .i64 x154) KR KR ?_; clear ha a; intro a ha
        refine endl ?_
        refine thenN (hK166 _ _ ?_); clear hK166
        refine wp_seq_k (fun K167 hK168 => ?_)
        refine wp_region_lit ?_
        refine stepp ha 11 (.bool a1) KR KR ?_; clear ha a; intro a ha
        refine endl ?_
        refine thenN (hK168 _ _ ?_); clear hK168
        by_cases hp169 : a1 = true
        · skip
          replace h := ite_pos' h hp169
          refine condT ha KR KR (t := a1) (hp169) ?_
          refine wp_region_lit ?_
          refine stepp ha 12 (.slice A151 x150.length c152) KR KR ?_; clear ha a; intro a ha
          refine stepp ha 13 (.int .i64 a0) KR KR ?_; clear ha a; intro a ha
          refine stepp ha 14 (.int .i64 (IntKind.wrap .i64 (a0 - 1))) KR KR ?_; clear ha a; intro a ha
          refine stepp ha 15 (.int .i64 x154) KR KR ?_; clear ha a; intro a ha
          refine stepp ha 16 (.int .i64 (IntKind.wrap .i64 ((IntKind.wrap .i64 (a0 - 1)) - x154))) KR KR ?_; clear ha a; intro a ha
          refine stepp ha 17 (.int .i64 (IntKind.wrap .i64 (8 * (IntKind.wrap .i64 ((IntKind.wrap .i64 (a0 - 1)) - x154))))) KR KR ?_; clear ha a; intro a ha
          refine stepbs ha HW 18 3 1 1 #[.int .i64 (IntKind.wrap .i64 (8 * (IntKind.wrap .i64 ((IntKind.wrap .i64 (a0 - 1)) - x154))))] [.int .i64 (IntKind.wrap .i64 (8 * (IntKind.wrap .i64 ((IntKind.wrap .i64 (a0 - 1)) - x154))))] (by decide) KR KR KR KR ?_; clear ha HW a; intro b170 a W171 HW ha
          replace HW : Wd w W171 [] [⟨3, 1, .slice (some ⟨b170, 0, none⟩) ([IntKind.wrap .i64 (8 * (IntKind.wrap .i64 ((IntKind.wrap .i64 (a0 - 1)) - x154)))] : List Int).length 1, ([IntKind.wrap .i64 (8 * (IntKind.wrap .i64 ((IntKind.wrap .i64 (a0 - 1)) - x154)))] : List Int).length, encs (encIK .i64) ([IntKind.wrap .i64 (8 * (IntKind.wrap .i64 ((IntKind.wrap .i64 (a0 - 1)) - x154)))] : List Int)⟩, ⟨3, 1, .slice A151 x150.length c152, x150.length, encs (encIK .i64) x150⟩] := HW
          replace ha := ha.turn 18 (v := .slice (some ⟨b170, 0, none⟩) ([IntKind.wrap .i64 (8 * (IntKind.wrap .i64 ((IntKind.wrap .i64 (a0 - 1)) - x154)))] : List Int).length 1) KR rfl
          obtain ⟨hA173, h_⟩ := asrt_some h; clear h; have h := h_; clear h_
          refine stepape (encIK .i64) ha HW 19 1 23 3 (.tmp 12) (.tmp 18) (.int .i64 0) 1 8 (.slice A151 x150.length c152) x150 (.slice (some ⟨b170, 0, none⟩) ([IntKind.wrap .i64 (8 * (IntKind.wrap .i64 ((IntKind.wrap .i64 (a0 - 1)) - x154)))] : List Int).length 1) ([IntKind.wrap .i64 (8 * (IntKind.wrap .i64 ((IntKind.wrap .i64 (a0 - 1)) - x154)))] : List Int) KR rfl KR KR (HW.rdo (i := 0) (q := ⟨3, 1, .slice (some ⟨b170, 0, none⟩) ([IntKind.wrap .i64 (8 * (IntKind.wrap .i64 ((IntKind.wrap .i64 (a0 - 1)) - x154)))] : List Int).length 1, ([IntKind.wrap .i64 (8 * (IntKind.wrap .i64 ((IntKind.wrap .i64 (a0 - 1)) - x154)))] : List Int).length, encs (encIK .i64) ([IntKind.wrap .i64 (8 * (IntKind.wrap .i64 ((IntKind.wrap .i64 (a0 - 1)) - x154)))] : List Int)⟩) KR) (fun _ => rfl) KR KR KR (by decide) (by have := hA173; unfold maxLen; omega) (by have := hA173; omega) KR ?_; clear ha HW a; intro A174 c175 a W176 HW ha
          refine stepp ha 5 (.slice A174 (x150 ++ ([IntKind.wrap .i64 (8 * (IntKind.wrap .i64 ((IntKind.wrap .i64 (a0 - 1)) - x154)))] : List Int)).length c175) KR KR ?_; clear ha a; intro a ha
          refine endl ?_
          refine blkN ?_
          refine thenN (hK164 _ _ ?_); clear hK164
          refine wp_region_lit ?_
          refine stepp ha 25 (.int .i64 (IntKind.wrap .i64 (x154 + 1))) KR KR ?_; clear ha a; intro a ha
          refine stepp ha 8 (.int .i64 (IntKind.wrap .i64 (x154 + 1))) KR KR ?_; clear ha a; intro a ha
          refine endl ?_
          exact thenN ⟨k156, Nat.lt_succ_self k156, x150 ++ ([IntKind.wrap .i64 (8 * (IntKind.wrap .i64 ((IntKind.wrap .i64 (a0 - 1)) - x154)))] : List Int), A174, c175, IntKind.wrap .i64 (x154 + 1), (by rw [← hag157]; exact h), ha.sub (subs_cons KR (subs_cons KR (subs_cons KR (subs_cons KR (subs_cons KR (subs_nil _)))))), HW.pick [] [1] (by decide) (by decide) KR KR⟩
        · skip
          replace h := ite_neg' h hp169
          refine condF ha KR KR (t := a1) (bool_f hp169) ?_
          refine wp_region_lit ?_
          refine stepp ha 20 (.slice A151 x150.length c152) KR KR ?_; clear ha a; intro a ha
          refine stepp ha 21 (.int .i64 x154) KR KR ?_; clear ha a; intro a ha
          refine stepp ha 22 (.int .i64 (IntKind.wrap .i64 (8 * x154))) KR KR ?_; clear ha a; intro a ha
          refine stepbs ha HW 23 3 1 1 #[.int .i64 (IntKind.wrap .i64 (8 * x154))] [.int .i64 (IntKind.wrap .i64 (8 * x154))] (by decide) KR KR KR KR ?_; clear ha HW a; intro b179 a W180 HW ha
          replace HW : Wd w W180 [] [⟨3, 1, .slice (some ⟨b179, 0, none⟩) ([IntKind.wrap .i64 (8 * x154)] : List Int).length 1, ([IntKind.wrap .i64 (8 * x154)] : List Int).length, encs (encIK .i64) ([IntKind.wrap .i64 (8 * x154)] : List Int)⟩, ⟨3, 1, .slice A151 x150.length c152, x150.length, encs (encIK .i64) x150⟩] := HW
          replace ha := ha.turn 23 (v := .slice (some ⟨b179, 0, none⟩) ([IntKind.wrap .i64 (8 * x154)] : List Int).length 1) KR rfl
          obtain ⟨hA182, h_⟩ := asrt_some h; clear h; have h := h_; clear h_
          refine stepape (encIK .i64) ha HW 24 1 23 3 (.tmp 20) (.tmp 23) (.int .i64 0) 1 8 (.slice A151 x150.length c152) x150 (.slice (some ⟨b179, 0, none⟩) ([IntKind.wrap .i64 (8 * x154)] : List Int).length 1) ([IntKind.wrap .i64 (8 * x154)] : List Int) KR rfl KR KR (HW.rdo (i := 0) (q := ⟨3, 1, .slice (some ⟨b179, 0, none⟩) ([IntKind.wrap .i64 (8 * x154)] : List Int).length 1, ([IntKind.wrap .i64 (8 * x154)] : List Int).length, encs (encIK .i64) ([IntKind.wrap .i64 (8 * x154)] : List Int)⟩) KR) (fun _ => rfl) KR KR KR (by decide) (by have := hA182; unfold maxLen; omega) (by have := hA182; omega) KR ?_; clear ha HW a; intro A183 c184 a W185 HW ha
          refine stepp ha 5 (.slice A183 (x150 ++ ([IntKind.wrap .i64 (8 * x154)] : List Int)).length c184) KR KR ?_; clear ha a; intro a ha
          refine endl ?_
          refine blkN ?_
          refine thenN (hK164 _ _ ?_); clear hK164
          refine wp_region_lit ?_
          refine stepp ha 25 (.int .i64 (IntKind.wrap .i64 (x154 + 1))) KR KR ?_; clear ha a; intro a ha
          refine stepp ha 8 (.int .i64 (IntKind.wrap .i64 (x154 + 1))) KR KR ?_; clear ha a; intro a ha
          refine endl ?_
          exact thenN ⟨k156, Nat.lt_succ_self k156, x150 ++ ([IntKind.wrap .i64 (8 * x154)] : List Int), A183, c184, IntKind.wrap .i64 (x154 + 1), (by rw [← hag157]; exact h), ha.sub (subs_cons KR (subs_cons KR (subs_cons KR (subs_cons KR (subs_cons KR (subs_nil _)))))), HW.pick [] [1] (by decide) (by decide) KR KR⟩
      · skip
        replace h := ite_neg' h hp162
        refine condF ha KR KR (t := decide (x154 < a0)) (decide_eq_false hp162) ?_
        refine wp_exit ?_
        refine thenE ?_
        refine thenE ?_
        refine inBlk ?_
        refine thenN (hK77 _ _ ?_); clear hK77
        refine wp_seq_k (fun K188 hK189 => ?_)
        refine wp_region_lit ?_
        refine stepp ha 26 (.slice A151 x150.length c152) KR KR ?_; clear ha a; intro a ha
        refine stepp ha 4 (.slice A151 x150.length c152) KR KR ?_; clear ha a; intro a ha
        refine endl ?_
        refine thenN (hK189 _ _ ?_); clear hK189
        refine wp_ret ?_
        obtain rfl := Option.some.inj h
        exact finv ha _ _ rfl (.tmp (v := .slice A151 x150.length c152) KR .nil) (.slice A151 x150.length c152) rfl ⟨A151, c152, rfl, HW.pick [] [0] (by decide) (by decide) rfl KR⟩
/-! ### headgate/fields.get[uint64]: function 193 -/
def fields_get_uint64.b0 (K : Nat) (a0 : ByteArray) (a1 : Int) (t214 : List Int) (again257 : Int → Int → Option (Int × Bool)) (x258 : Int) (x259 : Int) : Option (Int × Bool) :=
  if x259 < (t214.length : Int) then (asrt (0 ≤ x259) (asrt (0 ≤ (IntKind.wrap .i64 (a1 + x259))) (asrt ((IntKind.wrap .i64 (a1 + x259)) < (a0.size : Int)) (asrt (0 ≤ (rdL (0 : Int) t214 x259)) (again257 (bor .u64 x258 (sshl .u64 (IntKind.wrap .u64 (bt a0 (IntKind.wrap .i64 (a1 + x259)))) (rdL (0 : Int) t214 x259))) (IntKind.wrap .i64 (x259 + 1))))))) else (some (x258, true))
def fields_get_uint64.l0 (K : Nat) (a0 : ByteArray) (a1 : Int) (t214 : List Int) : Nat → Int → Int → Option (Int × Bool)
  | 0, _, _ => none
  | k_ + 1, x258, x259 => fields_get_uint64.b0 K a0 a1 t214 (fields_get_uint64.l0 K a0 a1 t214 k_) x258 x259
def fields_get_uint64.f (K : Nat) (a0 : ByteArray) (a1 : Int) (a2 : Int) (a3 : Bool) : Option (Int × Bool) :=
  if a2 < 1 then (some (0, false)) else (if a2 > 8 then (some (0, false)) else (if a1 < 0 then (some (0, false)) else (if a1 > (IntKind.wrap .i64 ((a0.size : Int) - a2)) then (some (0, false)) else ((fields_shifts.f K a2 a3).bind fun t214 => (fields_get_uint64.l0 K a0 a1 t214 K 0 0)))))
set_option maxRecDepth 100000 in
set_option maxHeartbeats 4000000 in
theorem fields_get_uint64.calls (K : Nat) (a0 : ByteArray) (a1 : Int) (a2 : Int) (a3 : Bool)  (r : Int × Bool) (w : World)  (h : fields_get_uint64.f K a0 a1 a2 a3 = some r) :
    Calls Tryz.prog 193 #[.string a0, .int .i64 a1, .int .i64 a2, .bool a3] w (fun e W' => e = .returned (.tuple #[.int .u64 r.1, .bool r.2]) ∧ Wd w W' [] [] ) := by
  refine sxstart (n := 52) (l := [(0, .string a0), (1, .int .i64 a1), (2, .int .i64 a2), (3, .bool a3)]) Tryz.func193 rfl rfl (Nat.le_of_ble_eq_true KR) (subsA_cons rfl (subsA_cons rfl (subsA_cons rfl (subsA_cons rfl (subsA_nil _))))) ?_
  intro a ha
  have HW := Wd.refl w
  unfold fields_get_uint64.f at h
  refine wp_seq_k (fun K190 hK191 => ?_)
  refine wp_region_lit ?_
  refine stepp ha 8 (.int .u64 0) KR KR ?_; clear ha a; intro a ha
  refine stepp ha 9 (.bool false) KR KR ?_; clear ha a; intro a ha
  refine endl ?_
  refine thenN (hK191 _ _ ?_); clear hK191
  refine wp_seq_k (fun K192 hK193 => ?_)
  refine wp_seq_k (fun K194 hK195 => ?_)
  refine wp_region_lit ?_
  refine stepp ha 13 (.int .i64 a2) KR KR ?_; clear ha a; intro a ha
  refine stepp ha 14 (.bool (decide (a2 < 1))) KR KR ?_; clear ha a; intro a ha
  refine stepp ha 15 (.bool (decide (a2 < 1))) KR KR ?_; clear ha a; intro a ha
  by_cases hp196 : a2 < 1
  · skip
    replace h := ite_pos' h hp196
    replace ha := ha.bool 15 KR (decide_eq_true hp196)
    refine stepo ha 16 KR ?_; clear ha a; intro a ha
    refine stepo ha 17 KR ?_; clear ha a; intro a ha
    refine stepp ha 18 (.bool true) KR KR ?_; clear ha a; intro a ha
    refine stepp ha 19 (.bool true) KR KR ?_; clear ha a; intro a ha
    refine stepo ha 20 KR ?_; clear ha a; intro a ha
    refine stepo ha 21 KR ?_; clear ha a; intro a ha
    refine stepp ha 22 (.bool true) KR KR ?_; clear ha a; intro a ha
    refine stepp ha 23 (.bool true) KR KR ?_; clear ha a; intro a ha
    refine stepo ha 24 KR ?_; clear ha a; intro a ha
    refine stepo ha 25 KR ?_; clear ha a; intro a ha
    refine stepo ha 26 KR ?_; clear ha a; intro a ha
    refine stepo ha 27 KR ?_; clear ha a; intro a ha
    refine stepo ha 28 KR ?_; clear ha a; intro a ha
    refine stepo ha 29 KR ?_; clear ha a; intro a ha
    refine stepp ha 30 (.bool true) KR KR ?_; clear ha a; intro a ha
    refine endl ?_
    refine thenN (hK195 _ _ ?_); clear hK195
    refine condT ha KR KR (t := true) (rfl) ?_
    refine wp_seq_k (fun K199 hK200 => ?_)
    refine wp_region_lit ?_
    refine stepp ha 8 (.int .u64 0) KR KR ?_; clear ha a; intro a ha
    refine stepp ha 9 (.bool false) KR KR ?_; clear ha a; intro a ha
    refine endl ?_
    refine thenN (hK200 _ _ ?_); clear hK200
    refine wp_ret ?_
    refine thenR ?_
    obtain rfl := Option.some.inj h
    exact finv ha _ _ rfl (.tmp (v := .int .u64 0) KR (.tmp (v := .bool false) KR .nil)) (.tuple #[.int .u64 0, .bool false]) rfl ⟨rfl, HW.pick [] [] (by decide) (by decide) rfl KR⟩
  · skip
    replace h := ite_neg' h hp196
    replace ha := ha.bool 15 KR (decide_eq_false hp196)
    refine stepp ha 16 (.int .i64 a2) KR KR ?_; clear ha a; intro a ha
    refine stepp ha 17 (.bool (decide (a2 > 8))) KR KR ?_; clear ha a; intro a ha
    refine stepp ha 18 (.bool (decide (a2 > 8))) KR KR ?_; clear ha a; intro a ha
    refine stepp ha 19 (.bool (decide (a2 > 8))) KR KR ?_; clear ha a; intro a ha
    by_cases hp197 : a2 > 8
    · skip
      replace h := ite_pos' h hp197
      replace ha := ha.bool 19 KR (decide_eq_true hp197)
      refine stepo ha 20 KR ?_; clear ha a; intro a ha
      refine stepo ha 21 KR ?_; clear ha a; intro a ha
      refine stepp ha 22 (.bool true) KR KR ?_; clear ha a; intro a ha
      refine stepp ha 23 (.bool true) KR KR ?_; clear ha a; intro a ha
      refine stepo ha 24 KR ?_; clear ha a; intro a ha
      refine stepo ha 25 KR ?_; clear ha a; intro a ha
      refine stepo ha 26 KR ?_; clear ha a; intro a ha
      refine stepo ha 27 KR ?_; clear ha a; intro a ha
      refine stepo ha 28 KR ?_; clear ha a; intro a ha
      refine stepo ha 29 KR ?_; clear ha a; intro a ha
      refine stepp ha 30 (.bool true) KR KR ?_; clear ha a; intro a ha
      refine endl ?_
      refine thenN (hK195 _ _ ?_); clear hK195
      refine condT ha KR KR (t := true) (rfl) ?_
      refine wp_seq_k (fun K201 hK202 => ?_)
      refine wp_region_lit ?_
      refine stepp ha 8 (.int .u64 0) KR KR ?_; clear ha a; intro a ha
      refine stepp ha 9 (.bool false) KR KR ?_; clear ha a; intro a ha
      refine endl ?_
      refine thenN (hK202 _ _ ?_); clear hK202
      refine wp_ret ?_
      refine thenR ?_
      obtain rfl := Option.some.inj h
      exact finv ha _ _ rfl (.tmp (v := .int .u64 0) KR (.tmp (v := .bool false) KR .nil)) (.tuple #[.int .u64 0, .bool false]) rfl ⟨rfl, HW.pick [] [] (by decide) (by decide) rfl KR⟩
    · skip
      replace h := ite_neg' h hp197
      replace ha := ha.bool 19 KR (decide_eq_false hp197)
      refine stepp ha 20 (.int .i64 a1) KR KR ?_; clear ha a; intro a ha
      refine stepp ha 21 (.bool (decide (a1 < 0))) KR KR ?_; clear ha a; intro a ha
      refine stepp ha 22 (.bool (decide (a1 < 0))) KR KR ?_; clear ha a; intro a ha
      refine stepp ha 23 (.bool (decide (a1 < 0))) KR KR ?_; clear ha a; intro a ha
      by_cases hp198 : a1 < 0
      · skip
        replace h := ite_pos' h hp198
        replace ha := ha.bool 23 KR (decide_eq_true hp198)
        refine stepo ha 24 KR ?_; clear ha a; intro a ha
        refine stepo ha 25 KR ?_; clear ha a; intro a ha
        refine stepo ha 26 KR ?_; clear ha a; intro a ha
        refine stepo ha 27 KR ?_; clear ha a; intro a ha
        refine stepo ha 28 KR ?_; clear ha a; intro a ha
        refine stepo ha 29 KR ?_; clear ha a; intro a ha
        refine stepp ha 30 (.bool true) KR KR ?_; clear ha a; intro a ha
        refine endl ?_
        refine thenN (hK195 _ _ ?_); clear hK195
        refine condT ha KR KR (t := true) (rfl) ?_
        refine wp_seq_k (fun K203 hK204 => ?_)
        refine wp_region_lit ?_
        refine stepp ha 8 (.int .u64 0) KR KR ?_; clear ha a; intro a ha
        refine stepp ha 9 (.bool false) KR KR ?_; clear ha a; intro a ha
        refine endl ?_
        refine thenN (hK204 _ _ ?_); clear hK204
        refine wp_ret ?_
        refine thenR ?_
        obtain rfl := Option.some.inj h
        exact finv ha _ _ rfl (.tmp (v := .int .u64 0) KR (.tmp (v := .bool false) KR .nil)) (.tuple #[.int .u64 0, .bool false]) rfl ⟨rfl, HW.pick [] [] (by decide) (by decide) rfl KR⟩
      · skip
        replace h := ite_neg' h hp198
        replace ha := ha.bool 23 KR (decide_eq_false hp198)
        refine stepp ha 24 (.int .i64 a1) KR KR ?_; clear ha a; intro a ha
        refine stepp ha 25 (.string a0) KR KR ?_; clear ha a; intro a ha
        refine stepp ha 26 (.int .i64 (a0.size : Int)) KR KR ?_; clear ha a; intro a ha
        refine stepp ha 27 (.int .i64 a2) KR KR ?_; clear ha a; intro a ha
        refine stepp ha 28 (.int .i64 (IntKind.wrap .i64 ((a0.size : Int) - a2))) KR KR ?_; clear ha a; intro a ha
        refine stepp ha 29 (.bool (decide (a1 > (IntKind.wrap .i64 ((a0.size : Int) - a2))))) KR KR ?_; clear ha a; intro a ha
        refine stepp ha 30 (.bool (decide (a1 > (IntKind.wrap .i64 ((a0.size : Int) - a2))))) KR KR ?_; clear ha a; intro a ha
        refine endl ?_
        refine thenN (hK195 _ _ ?_); clear hK195
        by_cases hp205 : a1 > (IntKind.wrap .i64 ((a0.size : Int) - a2))
        · skip
          replace h := ite_pos' h hp205
          refine condT ha KR KR (t := decide (a1 > (IntKind.wrap .i64 ((a0.size : Int) - a2)))) (decide_eq_true hp205) ?_
          refine wp_seq_k (fun K206 hK207 => ?_)
          refine wp_region_lit ?_
          refine stepp ha 8 (.int .u64 0) KR KR ?_; clear ha a; intro a ha
          refine stepp ha 9 (.bool false) KR KR ?_; clear ha a; intro a ha
          refine endl ?_
          refine thenN (hK207 _ _ ?_); clear hK207
          refine wp_ret ?_
          refine thenR ?_
          obtain rfl := Option.some.inj h
          exact finv ha _ _ rfl (.tmp (v := .int .u64 0) KR (.tmp (v := .bool false) KR .nil)) (.tuple #[.int .u64 0, .bool false]) rfl ⟨rfl, HW.pick [] [] (by decide) (by decide) rfl KR⟩
        · skip
          replace h := ite_neg' h hp205
          refine condF ha KR KR (t := decide (a1 > (IntKind.wrap .i64 ((a0.size : Int) - a2)))) (decide_eq_false hp205) ?_
          refine wp_skip ?_
          refine thenN (hK193 _ _ ?_); clear hK193
          refine wp_seq_k (fun K208 hK209 => ?_)
          refine wp_region_lit ?_
          refine stepp ha 10 (.int .u64 0) KR KR ?_; clear ha a; intro a ha
          refine endl ?_
          refine thenN (hK209 _ _ ?_); clear hK209
          refine wp_seq_k (fun K210 hK211 => ?_)
          refine wp_seq_k (fun K212 hK213 => ?_)
          refine wp_region_lit ?_
          refine stepp ha 31 (.int .i64 a2) KR KR ?_; clear ha a; intro a ha
          refine stepp ha 32 (.bool a3) KR KR ?_; clear ha a; intro a ha
          obtain ⟨t214, ht215, h_⟩ := bind_some' h; clear h; have h := h_; clear h_
          refine stepc ha 33 KR KR (fields_shifts.calls K a2 a3 t214 _ ht215) ?_; clear ha a; rintro e W219 ⟨A216, c217, rfl, HX220⟩
          refine ⟨_, rfl, ?_⟩; intro a ha; replace HW := HW.callw HX220; clear HX220
          refine stepp ha 34 (.int .i64 (t214.length : Int)) KR KR ?_; clear ha a; intro a ha
          refine stepp ha 35 (.int .i64 0) KR KR ?_; clear ha a; intro a ha
          refine endl ?_
          refine thenN (hK213 _ _ ?_); clear hK213
          refine wp_block ?_
          refine loopk (fun k => fun a W260 => ∃ (x258 : Int), ∃ (x259 : Int), fields_get_uint64.l0 K a0 a1 t214 k x258 x259 = some r ∧ Has 52 [(0, .string a0), (1, .int .i64 a1), (10, .int .u64 x258), (33, .slice A216 t214.length c217), (34, .int .i64 (t214.length : Int)), (35, .int .i64 x259)] a ∧ Wd w W260 [] [⟨3, 1, .slice A216 t214.length c217, t214.length, encs (encIK .i64) t214⟩]) K ?_ ?_
          · skip
            exact ⟨0, 0, h, ha.sub (subs_cons KR (subs_cons KR (subs_cons KR (subs_cons KR (subs_cons KR (subs_cons KR (subs_nil _))))))), HW.pick [] [0] (by decide) (by decide) KR KR⟩
          · skip
            intro k a W260 hI
            obtain ⟨x258, x259, h, ha, HW⟩ := hI
            cases k with
            | zero => exact (none_some (show none = some r from h)).elim
            | succ k261 =>
              replace h : fields_get_uint64.b0 K a0 a1 t214 (fields_get_uint64.l0 K a0 a1 t214 k261) x258 x259 = some r := h
              obtain ⟨again257, hag262⟩ : ∃ g_, g_ = fields_get_uint64.l0 K a0 a1 t214 k261 := ⟨_, rfl⟩
              rw [← hag262] at h
              unfold fields_get_uint64.b0 at h
              refine wp_seq_k (fun K263 hK264 => ?_)
              refine wp_region_lit ?_
              refine stepp ha 36 (.bool (decide (x259 < (t214.length : Int)))) KR KR ?_; clear ha a; intro a ha
              refine endl ?_
              refine thenN (hK264 _ _ ?_); clear hK264
              refine wp_seq_k (fun K265 hK266 => ?_)
              by_cases hp267 : x259 < (t214.length : Int)
              · skip
                replace h := ite_pos' h hp267
                refine condT ha KR KR (t := decide (x259 < (t214.length : Int))) (decide_eq_true hp267) ?_
                refine wp_skip ?_
                refine thenN (hK266 _ _ ?_); clear hK266
                refine wp_seq_k (fun K268 hK269 => ?_)
                refine wp_block ?_
                refine wp_seq_k (fun K270 hK271 => ?_)
                refine wp_region_lit ?_
                refine stepp ha 37 (.int .i64 x259) KR KR ?_; clear ha a; intro a ha
                obtain ⟨hA272, h_⟩ := asrt_some h; clear h; have h := h_; clear h_
                refine stepie (encIK .i64) (0 : Int) ha 38 (fun _ => rfl) (v := .slice A216 t214.length c217) (xs := t214) (HW.rdo (i := 0) (q := ⟨3, 1, .slice A216 t214.length c217, t214.length, encs (encIK .i64) t214⟩) KR) 23 3 (.tmp 33) (.tmp 35) .i64 x259 rfl KR KR KR KR hA272 (show (x259 : Int) < ((t214).length : Int) from hp267) KR ?_; clear ha a; intro b273 off274 a hC275 ha
                refine stepl ha 39 hC275 3 0 (.tmp 38) (.int .i64 (rdL (0 : Int) t214 x259)) rfl KR KR KR ?_; clear ha a; intro a ha
                refine stepp ha 11 (.int .i64 x259) KR KR ?_; clear ha a; intro a ha
                refine stepp ha 12 (.int .i64 (rdL (0 : Int) t214 x259)) KR KR ?_; clear ha a; intro a ha
                refine endl ?_
                refine thenN (hK271 _ _ ?_); clear hK271
                refine wp_region_lit ?_
                refine stepp ha 40 (.int .u64 x258) KR KR ?_; clear ha a; intro a ha
                refine stepp ha 41 (.string a0) KR KR ?_; clear ha a; intro a ha
                refine stepp ha 42 (.int .i64 a1) KR KR ?_; clear ha a; intro a ha
                refine stepp ha 43 (.int .i64 x259) KR KR ?_; clear ha a; intro a ha
                refine stepp ha 44 (.int .i64 (IntKind.wrap .i64 (a1 + x259))) KR KR ?_; clear ha a; intro a ha
                obtain ⟨hA276, h_⟩ := asrt_some h; clear h; have h := h_; clear h_
                obtain ⟨hA277, h_⟩ := asrt_some h; clear h; have h := h_; clear h_
                refine stepsi ha 45 9 (.tmp 41) (.tmp 44) a0 .i64 (IntKind.wrap .i64 (a1 + x259)) rfl KR KR KR hA276 (show (IntKind.wrap .i64 (a1 + x259) : Int) < ((a0).size : Int) from hA277) KR ?_; clear ha a; intro a ha
                refine stepp ha 46 (.int .u64 (IntKind.wrap .u64 (bt a0 (IntKind.wrap .i64 (a1 + x259))))) KR KR ?_; clear ha a; intro a ha
                refine stepp ha 47 (.int .i64 (rdL (0 : Int) t214 x259)) KR KR ?_; clear ha a; intro a ha
                obtain ⟨hA278, h_⟩ := asrt_some h; clear h; have h := h_; clear h_
                refine stepshl ha 48 31 3 (.tmp 46) (.tmp 47) .u64 .i64 (IntKind.wrap .u64 (bt a0 (IntKind.wrap .i64 (a1 + x259)))) (rdL (0 : Int) t214 x259) rfl KR KR hA278 KR ?_; clear ha a; intro a ha
                refine stepp ha 49 (.int .u64 (bor .u64 x258 (sshl .u64 (IntKind.wrap .u64 (bt a0 (IntKind.wrap .i64 (a1 + x259)))) (rdL (0 : Int) t214 x259)))) KR KR ?_; clear ha a; intro a ha
                refine stepp ha 10 (.int .u64 (bor .u64 x258 (sshl .u64 (IntKind.wrap .u64 (bt a0 (IntKind.wrap .i64 (a1 + x259)))) (rdL (0 : Int) t214 x259)))) KR KR ?_; clear ha a; intro a ha
                refine endl ?_
                refine blkN ?_
                refine thenN (hK269 _ _ ?_); clear hK269
                refine wp_region_lit ?_
                refine stepp ha 50 (.int .i64 (IntKind.wrap .i64 (x259 + 1))) KR KR ?_; clear ha a; intro a ha
                refine stepp ha 35 (.int .i64 (IntKind.wrap .i64 (x259 + 1))) KR KR ?_; clear ha a; intro a ha
                refine endl ?_
                exact thenN ⟨k261, Nat.lt_succ_self k261, bor .u64 x258 (sshl .u64 (IntKind.wrap .u64 (bt a0 (IntKind.wrap .i64 (a1 + x259)))) (rdL (0 : Int) t214 x259)), IntKind.wrap .i64 (x259 + 1), (by rw [← hag262]; exact h), ha.sub (subs_cons KR (subs_cons KR (subs_cons KR (subs_cons KR (subs_cons KR (subs_cons KR (subs_nil _))))))), HW.pick [] [0] (by decide) (by decide) KR KR⟩
              · skip
                replace h := ite_neg' h hp267
                refine condF ha KR KR (t := decide (x259 < (t214.length : Int))) (decide_eq_false hp267) ?_
                refine wp_exit ?_
                refine thenE ?_
                refine thenE ?_
                refine inBlk ?_
                refine thenN (hK211 _ _ ?_); clear hK211
                refine wp_seq_k (fun K279 hK280 => ?_)
                refine wp_region_lit ?_
                refine stepp ha 51 (.int .u64 x258) KR KR ?_; clear ha a; intro a ha
                refine stepp ha 8 (.int .u64 x258) KR KR ?_; clear ha a; intro a ha
                refine stepp ha 9 (.bool true) KR KR ?_; clear ha a; intro a ha
                refine endl ?_
                refine thenN (hK280 _ _ ?_); clear hK280
                refine wp_ret ?_
                obtain rfl := Option.some.inj h
                exact finv ha _ _ rfl (.tmp (v := .int .u64 x258) KR (.tmp (v := .bool true) KR .nil)) (.tuple #[.int .u64 x258, .bool true]) rfl ⟨rfl, HW.pick [] [] (by decide) (by decide) rfl KR⟩
/-! ### headgate/fields.Big: function 141 -/
def fields_Big.f (K : Nat) (a0 : ByteArray) (a1 : Int) (a2 : Int) : Option (Int × Bool) :=
  (fields_get_uint64.f K a0 a1 a2 true).bind fun t285 => (some (t285.1, t285.2))
set_option maxRecDepth 100000 in
set_option maxHeartbeats 4000000 in
theorem fields_Big.calls (K : Nat) (a0 : ByteArray) (a1 : Int) (a2 : Int)  (r : Int × Bool) (w : World)  (h : fields_Big.f K a0 a1 a2 = some r) :
    Calls Tryz.prog 141 #[.string a0, .int .i64 a1, .int .i64 a2] w (fun e W' => e = .returned (.tuple #[.int .u64 r.1, .bool r.2]) ∧ Wd w W' [] [] ) := by
  refine sxstart (n := 14) (l := [(0, .string a0), (1, .int .i64 a1), (2, .int .i64 a2)]) Tryz.func141 rfl rfl (Nat.le_of_ble_eq_true KR) (subsA_cons rfl (subsA_cons rfl (subsA_cons rfl (subsA_nil _)))) ?_
  intro a ha
  have HW := Wd.refl w
  unfold fields_Big.f at h
  refine wp_seq_k (fun K281 hK282 => ?_)
  refine wp_region_lit ?_
  refine stepp ha 6 (.int .u64 0) KR KR ?_; clear ha a; intro a ha
  refine stepp ha 7 (.bool false) KR KR ?_; clear ha a; intro a ha
  refine endl ?_
  refine thenN (hK282 _ _ ?_); clear hK282
  refine wp_seq_k (fun K283 hK284 => ?_)
  refine wp_region_lit ?_
  refine stepp ha 8 (.string a0) KR KR ?_; clear ha a; intro a ha
  refine stepp ha 9 (.int .i64 a1) KR KR ?_; clear ha a; intro a ha
  refine stepp ha 10 (.int .i64 a2) KR KR ?_; clear ha a; intro a ha
  obtain ⟨t285, ht286, h_⟩ := bind_some' h; clear h; have h := h_; clear h_
  refine stepc ha 11 KR KR (fields_get_uint64.calls K a0 a1 a2 true t285 _ ht286) ?_; clear ha a; rintro e W287 ⟨rfl, HX288⟩
  refine ⟨_, rfl, ?_⟩; intro a ha; replace HW := HW.callw HX288; clear HX288
  refine stepp ha 12 (.int .u64 t285.1) KR KR ?_; clear ha a; intro a ha
  refine stepp ha 13 (.bool t285.2) KR KR ?_; clear ha a; intro a ha
  refine stepp ha 6 (.int .u64 t285.1) KR KR ?_; clear ha a; intro a ha
  refine stepp ha 7 (.bool t285.2) KR KR ?_; clear ha a; intro a ha
  refine endl ?_
  refine thenN (hK284 _ _ ?_); clear hK284
  refine wp_ret ?_
  obtain rfl := Option.some.inj h
  exact finv ha _ _ rfl (.tmp (v := .int .u64 t285.1) KR (.tmp (v := .bool t285.2) KR .nil)) (.tuple #[.int .u64 t285.1, .bool t285.2]) rfl ⟨rfl, HW.pick [] [] (by decide) (by decide) rfl KR⟩
/-! ### headgate/access.Type: function 98 -/
def access_Type.f (a0 : Int) : Option Bool :=
  if a0 ≥ 1 then (some (decide (a0 ≤ 6))) else (some false)
set_option maxRecDepth 100000 in
set_option maxHeartbeats 4000000 in
theorem access_Type.calls (a0 : Int)  (r : Bool) (w : World)  (h : access_Type.f a0 = some r) :
    Calls Tryz.prog 98 #[.int .i64 a0] w (fun e W' => e = .returned (.bool r) ∧ Wd w W' [] [] ) := by
  refine sxstart (n := 9) (l := [(0, .int .i64 a0)]) Tryz.func98 rfl rfl (Nat.le_of_ble_eq_true KR) (subsA_cons rfl (subsA_nil _)) ?_
  intro a ha
  have HW := Wd.refl w
  unfold access_Type.f at h
  refine wp_seq_k (fun K310 hK311 => ?_)
  refine wp_region_lit ?_
  refine stepp ha 2 (.bool false) KR KR ?_; clear ha a; intro a ha
  refine endl ?_
  refine thenN (hK311 _ _ ?_); clear hK311
  refine wp_seq_k (fun K312 hK313 => ?_)
  refine wp_region_lit ?_
  refine stepp ha 3 (.int .i64 a0) KR KR ?_; clear ha a; intro a ha
  refine stepp ha 4 (.bool (decide (a0 ≥ 1))) KR KR ?_; clear ha a; intro a ha
  refine stepp ha 5 (.bool (decide (a0 ≥ 1))) KR KR ?_; clear ha a; intro a ha
  by_cases hp314 : a0 ≥ 1
  · skip
    replace h := ite_pos' h hp314
    replace ha := ha.bool 5 KR (decide_eq_true hp314)
    refine stepp ha 6 (.int .i64 a0) KR KR ?_; clear ha a; intro a ha
    refine stepp ha 7 (.bool (decide (a0 ≤ 6))) KR KR ?_; clear ha a; intro a ha
    refine stepp ha 8 (.bool (decide (a0 ≤ 6))) KR KR ?_; clear ha a; intro a ha
    refine stepp ha 2 (.bool (decide (a0 ≤ 6))) KR KR ?_; clear ha a; intro a ha
    refine endl ?_
    refine thenN (hK313 _ _ ?_); clear hK313
    refine wp_ret ?_
    obtain rfl := Option.some.inj h
    exact finv ha _ _ rfl (.tmp (v := .bool (decide (a0 ≤ 6))) KR .nil) (.bool (decide (a0 ≤ 6))) rfl ⟨rfl, HW.pick [] [] (by decide) (by decide) rfl KR⟩
  · skip
    replace h := ite_neg' h hp314
    replace ha := ha.bool 5 KR (decide_eq_false hp314)
    refine stepo ha 6 KR ?_; clear ha a; intro a ha
    refine stepo ha 7 KR ?_; clear ha a; intro a ha
    refine stepp ha 8 (.bool false) KR KR ?_; clear ha a; intro a ha
    refine stepp ha 2 (.bool false) KR KR ?_; clear ha a; intro a ha
    refine endl ?_
    refine thenN (hK313 _ _ ?_); clear hK313
    refine wp_ret ?_
    obtain rfl := Option.some.inj h
    exact finv ha _ _ rfl (.tmp (v := .bool false) KR .nil) (.bool false) rfl ⟨rfl, HW.pick [] [] (by decide) (by decide) rfl KR⟩
/-! ### headgate/resv.everybody: function 197 -/
def resv_everybody.f (a0 : Int) : Option Bool :=
  if a0 = 5 then (some true) else (some (a0 == 6))
set_option maxRecDepth 100000 in
set_option maxHeartbeats 4000000 in
theorem resv_everybody.calls (a0 : Int)  (r : Bool) (w : World)  (h : resv_everybody.f a0 = some r) :
    Calls Tryz.prog 197 #[.int .i64 a0] w (fun e W' => e = .returned (.bool r) ∧ Wd w W' [] [] ) := by
  refine sxstart (n := 9) (l := [(0, .int .i64 a0)]) Tryz.func197 rfl rfl (Nat.le_of_ble_eq_true KR) (subsA_cons rfl (subsA_nil _)) ?_
  intro a ha
  have HW := Wd.refl w
  unfold resv_everybody.f at h
  refine wp_seq_k (fun K315 hK316 => ?_)
  refine wp_region_lit ?_
  refine stepp ha 2 (.bool false) KR KR ?_; clear ha a; intro a ha
  refine endl ?_
  refine thenN (hK316 _ _ ?_); clear hK316
  refine wp_seq_k (fun K317 hK318 => ?_)
  refine wp_region_lit ?_
  refine stepp ha 3 (.int .i64 a0) KR KR ?_; clear ha a; intro a ha
  refine stepp ha 4 (.bool (a0 == 5)) KR KR ?_; clear ha a; intro a ha
  refine stepp ha 5 (.bool (a0 == 5)) KR KR ?_; clear ha a; intro a ha
  by_cases hp319 : a0 = 5
  · skip
    replace h := ite_pos' h hp319
    replace ha := ha.bool 5 KR (ieq_t hp319)
    refine stepo ha 6 KR ?_; clear ha a; intro a ha
    refine stepo ha 7 KR ?_; clear ha a; intro a ha
    refine stepp ha 8 (.bool true) KR KR ?_; clear ha a; intro a ha
    refine stepp ha 2 (.bool true) KR KR ?_; clear ha a; intro a ha
    refine endl ?_
    refine thenN (hK318 _ _ ?_); clear hK318
    refine wp_ret ?_
    obtain rfl := Option.some.inj h
    exact finv ha _ _ rfl (.tmp (v := .bool true) KR .nil) (.bool true) rfl ⟨rfl, HW.pick [] [] (by decide) (by decide) rfl KR⟩
  · skip
    replace h := ite_neg' h hp319
    replace ha := ha.bool 5 KR (ieq_f hp319)
    refine stepp ha 6 (.int .i64 a0) KR KR ?_; clear ha a; intro a ha
    refine stepp ha 7 (.bool (a0 == 6)) KR KR ?_; clear ha a; intro a ha
    refine stepp ha 8 (.bool (a0 == 6)) KR KR ?_; clear ha a; intro a ha
    refine stepp ha 2 (.bool (a0 == 6)) KR KR ?_; clear ha a; intro a ha
    refine endl ?_
    refine thenN (hK318 _ _ ?_); clear hK318
    refine wp_ret ?_
    obtain rfl := Option.some.inj h
    exact finv ha _ _ rfl (.tmp (v := .bool (a0 == 6)) KR .nil) (.bool (a0 == 6)) rfl ⟨rfl, HW.pick [] [] (by decide) (by decide) rfl KR⟩
/-! ### headgate/fields.put[uint64]: function 240 -/
def fields_put_uint64.b0 (K : Nat) (a0 : Int) (t351 : List Int) (again412 : (List Int) → Int → Option ByteArray) (x413 : List Int) (x417 : Int) : Option ByteArray :=
  if x417 < (t351.length : Int) then (asrt (0 ≤ x417) (asrt (0 ≤ (rdL (0 : Int) t351 x417)) (asrt (x413.length + ([IntKind.wrap .u8 (sshr .u64 a0 (rdL (0 : Int) t351 x417))] : List Int).length ≤ 140737488355328) (again412 (x413 ++ ([IntKind.wrap .u8 (sshr .u64 a0 (rdL (0 : Int) t351 x417))] : List Int)) (IntKind.wrap .i64 (x417 + 1)))))) else (some (strOfNums x413))
def fields_put_uint64.l0 (K : Nat) (a0 : Int) (t351 : List Int) : Nat → (List Int) → Int → Option ByteArray
  | 0, _, _ => none
  | k_ + 1, x413, x417 => fields_put_uint64.b0 K a0 t351 (fields_put_uint64.l0 K a0 t351 k_) x413 x417
def fields_put_uint64.f (K : Nat) (a0 : Int) (a1 : Int) (a2 : Bool) : Option ByteArray :=
  if a1 < 1 then (some (⟨#[]⟩ : ByteArray)) else (if a1 > 8 then (some (⟨#[]⟩ : ByteArray)) else ((fields_shifts.f K a1 a2).bind fun t351 => (fields_put_uint64.l0 K a0 t351 K ([] : List Int) 0)))
set_option maxRecDepth 100000 in
set_option maxHeartbeats 4000000 in
theorem fields_put_uint64.calls (K : Nat) (a0 : Int) (a1 : Int) (a2 : Bool)  (r : ByteArray) (w : World)  (h : fields_put_uint64.f K a0 a1 a2 = some r) :
    Calls Tryz.prog 240 #[.int .u64 a0, .int .i64 a1, .bool a2] w (fun e W' => e = .returned (.string r) ∧ Wd w W' [] [] ) := by
  refine sxstart (n := 34) (l := [(0, .int .u64 a0), (1, .int .i64 a1), (2, .bool a2)]) Tryz.func240 rfl rfl (Nat.le_of_ble_eq_true KR) (subsA_cons rfl (subsA_cons rfl (subsA_cons rfl (subsA_nil _)))) ?_
  intro a ha
  have HW := Wd.refl w
  unfold fields_put_uint64.f at h
  refine wp_seq_k (fun K333 hK334 => ?_)
  refine wp_region_lit ?_
  refine stepp ha 6 (.string (⟨#[]⟩ : ByteArray)) KR KR ?_; clear ha a; intro a ha
  refine endl ?_
  refine thenN (hK334 _ _ ?_); clear hK334
  refine wp_seq_k (fun K335 hK336 => ?_)
  refine wp_seq_k (fun K337 hK338 => ?_)
  refine wp_region_lit ?_
  refine stepp ha 10 (.int .i64 a1) KR KR ?_; clear ha a; intro a ha
  refine stepp ha 11 (.bool (decide (a1 < 1))) KR KR ?_; clear ha a; intro a ha
  refine stepp ha 12 (.bool (decide (a1 < 1))) KR KR ?_; clear ha a; intro a ha
  by_cases hp339 : a1 < 1
  · skip
    replace h := ite_pos' h hp339
    replace ha := ha.bool 12 KR (decide_eq_true hp339)
    refine stepo ha 13 KR ?_; clear ha a; intro a ha
    refine stepo ha 14 KR ?_; clear ha a; intro a ha
    refine stepp ha 15 (.bool true) KR KR ?_; clear ha a; intro a ha
    refine endl ?_
    refine thenN (hK338 _ _ ?_); clear hK338
    refine condT ha KR KR (t := true) (rfl) ?_
    refine wp_seq_k (fun K340 hK341 => ?_)
    refine wp_region_lit ?_
    refine stepp ha 6 (.string (⟨#[]⟩ : ByteArray)) KR KR ?_; clear ha a; intro a ha
    refine endl ?_
    refine thenN (hK341 _ _ ?_); clear hK341
    refine wp_ret ?_
    refine thenR ?_
    obtain rfl := Option.some.inj h
    exact finv ha _ _ rfl (.tmp (v := .string (⟨#[]⟩ : ByteArray)) KR .nil) (.string (⟨#[]⟩ : ByteArray)) rfl ⟨rfl, HW.pick [] [] (by decide) (by decide) rfl KR⟩
  · skip
    replace h := ite_neg' h hp339
    replace ha := ha.bool 12 KR (decide_eq_false hp339)
    refine stepp ha 13 (.int .i64 a1) KR KR ?_; clear ha a; intro a ha
    refine stepp ha 14 (.bool (decide (a1 > 8))) KR KR ?_; clear ha a; intro a ha
    refine stepp ha 15 (.bool (decide (a1 > 8))) KR KR ?_; clear ha a; intro a ha
    refine endl ?_
    refine thenN (hK338 _ _ ?_); clear hK338
    by_cases hp342 : a1 > 8
    · skip
      replace h := ite_pos' h hp342
      refine condT ha KR KR (t := decide (a1 > 8)) (decide_eq_true hp342) ?_
      refine wp_seq_k (fun K343 hK344 => ?_)
      refine wp_region_lit ?_
      refine stepp ha 6 (.string (⟨#[]⟩ : ByteArray)) KR KR ?_; clear ha a; intro a ha
      refine endl ?_
      refine thenN (hK344 _ _ ?_); clear hK344
      refine wp_ret ?_
      refine thenR ?_
      obtain rfl := Option.some.inj h
      exact finv ha _ _ rfl (.tmp (v := .string (⟨#[]⟩ : ByteArray)) KR .nil) (.string (⟨#[]⟩ : ByteArray)) rfl ⟨rfl, HW.pick [] [] (by decide) (by decide) rfl KR⟩
    · skip
      replace h := ite_neg' h hp342
      refine condF ha KR KR (t := decide (a1 > 8)) (decide_eq_false hp342) ?_
      refine wp_skip ?_
      refine thenN (hK336 _ _ ?_); clear hK336
      refine wp_seq_k (fun K345 hK346 => ?_)
      refine wp_region_lit ?_
      refine stepp ha 7 (.slice none 0 0) KR KR ?_; clear ha a; intro a ha
      refine endl ?_
      refine thenN (hK346 _ _ ?_); clear hK346
      refine wp_seq_k (fun K347 hK348 => ?_)
      refine wp_seq_k (fun K349 hK350 => ?_)
      refine wp_region_lit ?_
      refine stepp ha 16 (.int .i64 a1) KR KR ?_; clear ha a; intro a ha
      refine stepp ha 17 (.bool a2) KR KR ?_; clear ha a; intro a ha
      obtain ⟨t351, ht352, h_⟩ := bind_some' h; clear h; have h := h_; clear h_
      refine stepc ha 18 KR KR (fields_shifts.calls K a1 a2 t351 _ ht352) ?_; clear ha a; rintro e W356 ⟨A353, c354, rfl, HX357⟩
      refine ⟨_, rfl, ?_⟩; intro a ha; replace HW := HW.callw HX357; clear HX357
      refine stepp ha 19 (.int .i64 (t351.length : Int)) KR KR ?_; clear ha a; intro a ha
      refine stepp ha 20 (.int .i64 0) KR KR ?_; clear ha a; intro a ha
      refine endl ?_
      refine thenN (hK350 _ _ ?_); clear hK350
      refine wp_block ?_
      refine loopk (fun k => fun a W418 => ∃ (x413 : List Int), ∃ A414, ∃ c415, ∃ (x417 : Int), fields_put_uint64.l0 K a0 t351 k x413 x417 = some r ∧ Has 34 [(0, .int .u64 a0), (7, .slice A414 x413.length c415), (18, .slice A353 t351.length c354), (19, .int .i64 (t351.length : Int)), (20, .int .i64 x417)] a ∧ Wd w W418 [] [⟨5, 1, .slice A414 x413.length c415, x413.length, encs (encIK .u8) x413⟩, ⟨3, 1, .slice A353 t351.length c354, t351.length, encs (encIK .i64) t351⟩]) K ?_ ?_
      · skip
        replace HW := HW.nilo 5 1
        exact ⟨([] : List Int), none, 0, 0, h, ha.sub (subs_cons KR (subs_cons KR (subs_cons KR (subs_cons KR (subs_cons KR (subs_nil _)))))), HW.pick [] [0, 1] (by decide) (by decide) KR KR⟩
      · skip
        intro k a W418 hI
        obtain ⟨x413, A414, c415, x417, h, ha, HW⟩ := hI
        cases k with
        | zero => exact (none_some (show none = some r from h)).elim
        | succ k419 =>
          replace h : fields_put_uint64.b0 K a0 t351 (fields_put_uint64.l0 K a0 t351 k419) x413 x417 = some r := h
          obtain ⟨again412, hag420⟩ : ∃ g_, g_ = fields_put_uint64.l0 K a0 t351 k419 := ⟨_, rfl⟩
          rw [← hag420] at h
          unfold fields_put_uint64.b0 at h
          refine wp_seq_k (fun K421 hK422 => ?_)
          refine wp_region_lit ?_
          refine stepp ha 21 (.bool (decide (x417 < (t351.length : Int)))) KR KR ?_; clear ha a; intro a ha
          refine endl ?_
          refine thenN (hK422 _ _ ?_); clear hK422
          refine wp_seq_k (fun K423 hK424 => ?_)
          by_cases hp425 : x417 < (t351.length : Int)
          · skip
            replace h := ite_pos' h hp425
            refine condT ha KR KR (t := decide (x417 < (t351.length : Int))) (decide_eq_true hp425) ?_
            refine wp_skip ?_
            refine thenN (hK424 _ _ ?_); clear hK424
            refine wp_seq_k (fun K426 hK427 => ?_)
            refine wp_block ?_
            refine wp_seq_k (fun K428 hK429 => ?_)
            refine wp_region_lit ?_
            obtain ⟨hA430, h_⟩ := asrt_some h; clear h; have h := h_; clear h_
            refine stepie (encIK .i64) (0 : Int) ha 22 (fun _ => rfl) (v := .slice A353 t351.length c354) (xs := t351) (HW.rdo (i := 1) (q := ⟨3, 1, .slice A353 t351.length c354, t351.length, encs (encIK .i64) t351⟩) KR) 23 3 (.tmp 18) (.tmp 20) .i64 x417 rfl KR KR KR KR hA430 (show (x417 : Int) < ((t351).length : Int) from hp425) KR ?_; clear ha a; intro b431 off432 a hC433 ha
            refine stepl ha 23 hC433 3 0 (.tmp 22) (.int .i64 (rdL (0 : Int) t351 x417)) rfl KR KR KR ?_; clear ha a; intro a ha
            refine stepp ha 9 (.int .i64 (rdL (0 : Int) t351 x417)) KR KR ?_; clear ha a; intro a ha
            refine endl ?_
            refine thenN (hK429 _ _ ?_); clear hK429
            refine wp_region_lit ?_
            refine stepp ha 24 (.slice A414 x413.length c415) KR KR ?_; clear ha a; intro a ha
            refine stepp ha 25 (.int .u64 a0) KR KR ?_; clear ha a; intro a ha
            refine stepp ha 26 (.int .i64 (rdL (0 : Int) t351 x417)) KR KR ?_; clear ha a; intro a ha
            obtain ⟨hA434, h_⟩ := asrt_some h; clear h; have h := h_; clear h_
            refine stepshr ha 27 31 3 (.tmp 25) (.tmp 26) .u64 .i64 a0 (rdL (0 : Int) t351 x417) rfl KR KR hA434 KR ?_; clear ha a; intro a ha
            refine stepp ha 28 (.int .u8 (IntKind.wrap .u8 (sshr .u64 a0 (rdL (0 : Int) t351 x417)))) KR KR ?_; clear ha a; intro a ha
            refine stepbs ha HW 29 5 1 1 #[.int .u8 (IntKind.wrap .u8 (sshr .u64 a0 (rdL (0 : Int) t351 x417)))] [.int .u8 (IntKind.wrap .u8 (sshr .u64 a0 (rdL (0 : Int) t351 x417)))] (by decide) KR KR KR KR ?_; clear ha HW a; intro b435 a W436 HW ha
            replace HW : Wd w W436 [] [⟨5, 1, .slice (some ⟨b435, 0, none⟩) ([IntKind.wrap .u8 (sshr .u64 a0 (rdL (0 : Int) t351 x417))] : List Int).length 1, ([IntKind.wrap .u8 (sshr .u64 a0 (rdL (0 : Int) t351 x417))] : List Int).length, encs (encIK .u8) ([IntKind.wrap .u8 (sshr .u64 a0 (rdL (0 : Int) t351 x417))] : List Int)⟩, ⟨5, 1, .slice A414 x413.length c415, x413.length, encs (encIK .u8) x413⟩, ⟨3, 1, .slice A353 t351.length c354, t351.length, encs (encIK .i64) t351⟩] := HW
            replace ha := ha.turn 29 (v := .slice (some ⟨b435, 0, none⟩) ([IntKind.wrap .u8 (sshr .u64 a0 (rdL (0 : Int) t351 x417))] : List Int).length 1) KR rfl
            obtain ⟨hA438, h_⟩ := asrt_some h; clear h; have h := h_; clear h_
            refine stepape (encIK .u8) ha HW 30 1 79 5 (.tmp 24) (.tmp 29) (.int .u8 0) 1 1 (.slice A414 x413.length c415) x413 (.slice (some ⟨b435, 0, none⟩) ([IntKind.wrap .u8 (sshr .u64 a0 (rdL (0 : Int) t351 x417))] : List Int).length 1) ([IntKind.wrap .u8 (sshr .u64 a0 (rdL (0 : Int) t351 x417))] : List Int) KR rfl KR KR (HW.rdo (i := 0) (q := ⟨5, 1, .slice (some ⟨b435, 0, none⟩) ([IntKind.wrap .u8 (sshr .u64 a0 (rdL (0 : Int) t351 x417))] : List Int).length 1, ([IntKind.wrap .u8 (sshr .u64 a0 (rdL (0 : Int) t351 x417))] : List Int).length, encs (encIK .u8) ([IntKind.wrap .u8 (sshr .u64 a0 (rdL (0 : Int) t351 x417))] : List Int)⟩) KR) (fun _ => rfl) KR KR KR (by decide) (by have := hA438; unfold maxLen; omega) (by have := hA438; omega) KR ?_; clear ha HW a; intro A439 c440 a W441 HW ha
            refine stepp ha 7 (.slice A439 (x413 ++ ([IntKind.wrap .u8 (sshr .u64 a0 (rdL (0 : Int) t351 x417))] : List Int)).length c440) KR KR ?_; clear ha a; intro a ha
            refine endl ?_
            refine blkN ?_
            refine thenN (hK427 _ _ ?_); clear hK427
            refine wp_region_lit ?_
            refine stepp ha 31 (.int .i64 (IntKind.wrap .i64 (x417 + 1))) KR KR ?_; clear ha a; intro a ha
            refine stepp ha 20 (.int .i64 (IntKind.wrap .i64 (x417 + 1))) KR KR ?_; clear ha a; intro a ha
            refine endl ?_
            exact thenN ⟨k419, Nat.lt_succ_self k419, x413 ++ ([IntKind.wrap .u8 (sshr .u64 a0 (rdL (0 : Int) t351 x417))] : List Int), A439, c440, IntKind.wrap .i64 (x417 + 1), (by rw [← hag420]; exact h), ha.sub (subs_cons KR (subs_cons KR (subs_cons KR (subs_cons KR (subs_cons KR (subs_nil _)))))), HW.pick [] [1, 2] (by decide) (by decide) KR KR⟩
          · skip
            replace h := ite_neg' h hp425
            refine condF ha KR KR (t := decide (x417 < (t351.length : Int))) (decide_eq_false hp425) ?_
            refine wp_exit ?_
            refine thenE ?_
            refine thenE ?_
            refine inBlk ?_
            refine thenN (hK348 _ _ ?_); clear hK348
            refine wp_seq_k (fun K444 hK445 => ?_)
            refine wp_region_lit ?_
            refine stepp ha 32 (.slice A414 x413.length c415) KR KR ?_; clear ha a; intro a ha
            refine stepbt ha 33 79 9 5 (.tmp 32) (v := .slice A414 x413.length c415) (xs := x413) (HW.rdo (i := 0) (q := ⟨5, 1, .slice A414 x413.length c415, x413.length, encs (encIK .u8) x413⟩) KR) rfl KR KR KR KR KR ?_; clear ha a; intro a ha
            refine stepp ha 6 (.string (strOfNums x413)) KR KR ?_; clear ha a; intro a ha
            refine endl ?_
            refine thenN (hK445 _ _ ?_); clear hK445
            refine wp_ret ?_
            obtain rfl := Option.some.inj h
            exact finv ha _ _ rfl (.tmp (v := .string (strOfNums x413)) KR .nil) (.string (strOfNums x413)) rfl ⟨rfl, HW.pick [] [] (by decide) (by decide) rfl KR⟩
/-! ### headgate/fields.PutBig: function 181 -/
def fields_PutBig.f (K : Nat) (a0 : Int) (a1 : Int) : Option ByteArray :=
  (fields_put_uint64.f K a0 a1 true).bind fun t450 => (some t450)
set_option maxRecDepth 100000 in
set_option maxHeartbeats 4000000 in
theorem fields_PutBig.calls (K : Nat) (a0 : Int) (a1 : Int)  (r : ByteArray) (w : World)  (h : fields_PutBig.f K a0 a1 = some r) :
    Calls Tryz.prog 181 #[.int .u64 a0, .int .i64 a1] w (fun e W' => e = .returned (.string r) ∧ Wd w W' [] [] ) := by
  refine sxstart (n := 8) (l := [(0, .int .u64 a0), (1, .int .i64 a1)]) Tryz.func181 rfl rfl (Nat.le_of_ble_eq_true KR) (subsA_cons rfl (subsA_cons rfl (subsA_nil _))) ?_
  intro a ha
  have HW := Wd.refl w
  unfold fields_PutBig.f at h
  refine wp_seq_k (fun K446 hK447 => ?_)
  refine wp_region_lit ?_
  refine stepp ha 4 (.string (⟨#[]⟩ : ByteArray)) KR KR ?_; clear ha a; intro a ha
  refine endl ?_
  refine thenN (hK447 _ _ ?_); clear hK447
  refine wp_seq_k (fun K448 hK449 => ?_)
  refine wp_region_lit ?_
  refine stepp ha 5 (.int .u64 a0) KR KR ?_; clear ha a; intro a ha
  refine stepp ha 6 (.int .i64 a1) KR KR ?_; clear ha a; intro a ha
  obtain ⟨t450, ht451, h_⟩ := bind_some' h; clear h; have h := h_; clear h_
  refine stepc ha 7 KR KR (fields_put_uint64.calls K a0 a1 true t450 _ ht451) ?_; clear ha a; rintro e W452 ⟨rfl, HX453⟩
  refine ⟨_, rfl, ?_⟩; intro a ha; replace HW := HW.callw HX453; clear HX453
  refine stepp ha 4 (.string t450) KR KR ?_; clear ha a; intro a ha
  refine endl ?_
  refine thenN (hK449 _ _ ?_); clear hK449
  refine wp_ret ?_
  obtain rfl := Option.some.inj h
  exact finv ha _ _ rfl (.tmp (v := .string t450) KR .nil) (.string t450) rfl ⟨rfl, HW.pick [] [] (by decide) (by decide) rfl KR⟩
/-! ### headgate/image.Encode$1: function 195 -/
def image_Encode_1.f (a0 : T_api_Reg) (k0 : T_api_Table) : Option Bool :=
  some (a0.f0.toList == k0.f1.f1.toList)
set_option maxRecDepth 100000 in
set_option maxHeartbeats 4000000 in
theorem image_Encode_1.calls (a0 : T_api_Reg) (k0 : T_api_Table) (A1_0 : Option Addr) (c1_0 : Nat) (cb0 : Nat) (r : Bool) (w : World) (hc0 : CA w cb0 0 #[.slice A1_0 k0.f0.length c1_0, .int .i64 k0.f1.f0, .string k0.f1.f1, .int .u32 k0.f2, .bool k0.f3]) (hr1_0 : Rd 2 w (.slice A1_0 k0.f0.length c1_0) k0.f0.length (encs T_api_Reg.enc k0.f0)) (h : image_Encode_1.f a0 k0 = some r) :
    Calls Tryz.prog 195 #[.agg #[.string a0.f0, .int .u64 a0.f1], .pointer (some ⟨cb0, 0, none⟩)] w (fun e W' => e = .returned (.bool r) ∧ Wd w W' [] [] ) := by
  refine sxstart (n := 10) (l := [(0, .agg #[.string a0.f0, .int .u64 a0.f1]), (1, .pointer (some ⟨cb0, 0, none⟩))]) Tryz.func195 rfl rfl (Nat.le_of_ble_eq_true KR) (subsA_cons rfl (subsA_cons rfl (subsA_nil _))) ?_
  intro a ha
  have HW := Wd.refl w
  unfold image_Encode_1.f at h
  refine wp_seq_k (fun K454 hK455 => ?_)
  refine wp_region_lit ?_
  refine stepnew ha HW 2 #[.string a0.f0, .int .u64 a0.f1] 160 KR KR ?_; clear ha HW a; intro b456 a W457 HW ha
  refine stepp ha 3 (.bool false) KR KR ?_; clear ha a; intro a ha
  refine endl ?_
  refine thenN (hK455 _ _ ?_); clear hK455
  refine wp_seq_k (fun K458 hK459 => ?_)
  refine wp_region_lit ?_
  refine stepp ha 4 (.pointer (some ⟨b456, 0, none⟩)) KR KR ?_; clear ha a; intro a ha
  refine stepl ha 5 (HW.ca (i := 0) (b := b456) (C := #[.string a0.f0, .int .u64 a0.f1]) (T := 160) (fr := (0, 0)) KR) 9 0 (.tmp 4) (.string a0.f0) rfl KR KR KR ?_; clear ha a; intro a ha
  refine stepp ha 6 (.pointer (some ⟨cb0, 1, none⟩)) KR KR ?_; clear ha a; intro a ha
  refine stepp ha 7 (.pointer (some ⟨cb0, 2, none⟩)) KR KR ?_; clear ha a; intro a ha
  refine stepl ha 8 (HW.ca0 hc0) 9 2 (.tmp 7) (.string k0.f1.f1) rfl KR KR KR ?_; clear ha a; intro a ha
  refine stepp ha 9 (.bool (a0.f0.toList == k0.f1.f1.toList)) KR KR ?_; clear ha a; intro a ha
  refine stepp ha 3 (.bool (a0.f0.toList == k0.f1.f1.toList)) KR KR ?_; clear ha a; intro a ha
  refine endl ?_
  refine thenN (hK459 _ _ ?_); clear hK459
  refine wp_ret ?_
  obtain rfl := Option.some.inj h
  exact finv ha _ _ rfl (.tmp (v := .bool (a0.f0.toList == k0.f1.f1.toList)) KR .nil) (.bool (a0.f0.toList == k0.f1.f1.toList)) rfl ⟨rfl, HW.pick [] [] (by decide) (by decide) rfl KR⟩
/-! ### headgate/fields.PutLittle: function 250 -/
def fields_PutLittle.f (K : Nat) (a0 : Int) (a1 : Int) : Option ByteArray :=
  (fields_put_uint64.f K a0 a1 false).bind fun t464 => (some t464)
set_option maxRecDepth 100000 in
set_option maxHeartbeats 4000000 in
theorem fields_PutLittle.calls (K : Nat) (a0 : Int) (a1 : Int)  (r : ByteArray) (w : World)  (h : fields_PutLittle.f K a0 a1 = some r) :
    Calls Tryz.prog 250 #[.int .u64 a0, .int .i64 a1] w (fun e W' => e = .returned (.string r) ∧ Wd w W' [] [] ) := by
  refine sxstart (n := 8) (l := [(0, .int .u64 a0), (1, .int .i64 a1)]) Tryz.func250 rfl rfl (Nat.le_of_ble_eq_true KR) (subsA_cons rfl (subsA_cons rfl (subsA_nil _))) ?_
  intro a ha
  have HW := Wd.refl w
  unfold fields_PutLittle.f at h
  refine wp_seq_k (fun K460 hK461 => ?_)
  refine wp_region_lit ?_
  refine stepp ha 4 (.string (⟨#[]⟩ : ByteArray)) KR KR ?_; clear ha a; intro a ha
  refine endl ?_
  refine thenN (hK461 _ _ ?_); clear hK461
  refine wp_seq_k (fun K462 hK463 => ?_)
  refine wp_region_lit ?_
  refine stepp ha 5 (.int .u64 a0) KR KR ?_; clear ha a; intro a ha
  refine stepp ha 6 (.int .i64 a1) KR KR ?_; clear ha a; intro a ha
  obtain ⟨t464, ht465, h_⟩ := bind_some' h; clear h; have h := h_; clear h_
  refine stepc ha 7 KR KR (fields_put_uint64.calls K a0 a1 false t464 _ ht465) ?_; clear ha a; rintro e W466 ⟨rfl, HX467⟩
  refine ⟨_, rfl, ?_⟩; intro a ha; replace HW := HW.callw HX467; clear HX467
  refine stepp ha 4 (.string t464) KR KR ?_; clear ha a; intro a ha
  refine endl ?_
  refine thenN (hK463 _ _ ?_); clear hK463
  refine wp_ret ?_
  obtain rfl := Option.some.inj h
  exact finv ha _ _ rfl (.tmp (v := .string t464) KR .nil) (.string t464) rfl ⟨rfl, HW.pick [] [] (by decide) (by decide) rfl KR⟩
/-! ### headgate/crc.More: function 290 -/
def crc_More.b0 (K : Nat) (a1 : ByteArray) (again516 : Int → Int → Option Int) (x517 : Int) (x518 : Int) : Option Int :=
  if x518 < (a1.size : Int) then (asrt (0 ≤ x518) (asrt (0 ≤ (band .u32 (bxor .u32 x517 (IntKind.wrap .u32 (bt a1 x518))) 15)) (asrt ((band .u32 (bxor .u32 x517 (IntKind.wrap .u32 (bt a1 x518))) 15) < 16) (asrt (0 ≤ (band .u32 (bxor .u32 ((bxor .u32 x517 (IntKind.wrap .u32 (bt a1 x518))).fdiv 16) (rdL (0 : Int) G_crc_steps (band .u32 (bxor .u32 x517 (IntKind.wrap .u32 (bt a1 x518))) 15))) 15)) (asrt ((band .u32 (bxor .u32 ((bxor .u32 x517 (IntKind.wrap .u32 (bt a1 x518))).fdiv 16) (rdL (0 : Int) G_crc_steps (band .u32 (bxor .u32 x517 (IntKind.wrap .u32 (bt a1 x518))) 15))) 15) < 16) (again516 (bxor .u32 ((bxor .u32 ((bxor .u32 x517 (IntKind.wrap .u32 (bt a1 x518))).fdiv 16) (rdL (0 : Int) G_crc_steps (band .u32 (bxor .u32 x517 (IntKind.wrap .u32 (bt a1 x518))) 15))).fdiv 16) (rdL (0 : Int) G_crc_steps (band .u32 (bxor .u32 ((bxor .u32 x517 (IntKind.wrap .u32 (bt a1 x518))).fdiv 16) (rdL (0 : Int) G_crc_steps (band .u32 (bxor .u32 x517 (IntKind.wrap .u32 (bt a1 x518))) 15))) 15))) (IntKind.wrap .i64 (x518 + 1)))))))) else (some (bxor .u32 4294967295 x517))
def crc_More.l0 (K : Nat) (a1 : ByteArray) : Nat → Int → Int → Option Int
  | 0, _, _ => none
  | k_ + 1, x517, x518 => crc_More.b0 K a1 (crc_More.l0 K a1 k_) x517 x518
def crc_More.f (K : Nat) (a0 : Int) (a1 : ByteArray) : Option Int :=
  crc_More.l0 K a1 K (bxor .u32 4294967295 a0) 0
set_option maxRecDepth 100000 in
set_option maxHeartbeats 4000000 in
theorem crc_More.calls (K : Nat) (a0 : Int) (a1 : ByteArray)  (r : Int) (w : World) (hG2 : CA w 2 0 (encs (encIK .u32) G_crc_steps).toArray) (h : crc_More.f K a0 a1 = some r) :
    Calls Tryz.prog 290 #[.int .u32 a0, .string a1] w (fun e W' => e = .returned (.int .u32 r) ∧ Wd w W' [] [] ) := by
  refine sxstart (n := 36) (l := [(0, .int .u32 a0), (1, .string a1)]) Tryz.func290 rfl rfl (Nat.le_of_ble_eq_true KR) (subsA_cons rfl (subsA_cons rfl (subsA_nil _))) ?_
  intro a ha
  have HW := Wd.refl w
  unfold crc_More.f at h
  refine wp_seq_k (fun K468 hK469 => ?_)
  refine wp_region_lit ?_
  refine stepp ha 4 (.int .u32 0) KR KR ?_; clear ha a; intro a ha
  refine endl ?_
  refine thenN (hK469 _ _ ?_); clear hK469
  refine wp_seq_k (fun K470 hK471 => ?_)
  refine wp_region_lit ?_
  refine stepp ha 6 (.int .u32 a0) KR KR ?_; clear ha a; intro a ha
  refine stepp ha 7 (.int .u32 (bxor .u32 4294967295 a0)) KR KR ?_; clear ha a; intro a ha
  refine stepp ha 0 (.int .u32 (bxor .u32 4294967295 a0)) KR KR ?_; clear ha a; intro a ha
  refine endl ?_
  refine thenN (hK471 _ _ ?_); clear hK471
  refine wp_seq_k (fun K472 hK473 => ?_)
  refine wp_seq_k (fun K474 hK475 => ?_)
  refine wp_region_lit ?_
  refine stepp ha 8 (.string a1) KR KR ?_; clear ha a; intro a ha
  refine stepp ha 9 (.int .i64 (a1.size : Int)) KR KR ?_; clear ha a; intro a ha
  refine stepp ha 10 (.int .i64 0) KR KR ?_; clear ha a; intro a ha
  refine endl ?_
  refine thenN (hK475 _ _ ?_); clear hK475
  refine wp_block ?_
  refine loopk (fun k => fun a W519 => ∃ (x517 : Int), ∃ (x518 : Int), crc_More.l0 K a1 k x517 x518 = some r ∧ Has 36 [(0, .int .u32 x517), (1, .string a1), (9, .int .i64 (a1.size : Int)), (10, .int .i64 x518)] a ∧ Wd w W519 [] []) K ?_ ?_
  · skip
    exact ⟨bxor .u32 4294967295 a0, 0, h, ha.sub (subs_cons KR (subs_cons KR (subs_cons KR (subs_cons KR (subs_nil _))))), HW.pick [] [] (by decide) (by decide) KR KR⟩
  · skip
    intro k a W519 hI
    obtain ⟨x517, x518, h, ha, HW⟩ := hI
    cases k with
    | zero => exact (none_some (show none = some r from h)).elim
    | succ k520 =>
      replace h : crc_More.b0 K a1 (crc_More.l0 K a1 k520) x517 x518 = some r := h
      obtain ⟨again516, hag521⟩ : ∃ g_, g_ = crc_More.l0 K a1 k520 := ⟨_, rfl⟩
      rw [← hag521] at h
      unfold crc_More.b0 at h
      refine wp_seq_k (fun K522 hK523 => ?_)
      refine wp_region_lit ?_
      refine stepp ha 11 (.bool (decide (x518 < (a1.size : Int)))) KR KR ?_; clear ha a; intro a ha
      refine endl ?_
      refine thenN (hK523 _ _ ?_); clear hK523
      refine wp_seq_k (fun K524 hK525 => ?_)
      by_cases hp526 : x518 < (a1.size : Int)
      · skip
        replace h := ite_pos' h hp526
        refine condT ha KR KR (t := decide (x518 < (a1.size : Int))) (decide_eq_true hp526) ?_
        refine wp_skip ?_
        refine thenN (hK525 _ _ ?_); clear hK525
        refine wp_seq_k (fun K527 hK528 => ?_)
        refine wp_block ?_
        refine wp_seq_k (fun K529 hK530 => ?_)
        refine wp_region_lit ?_
        refine stepp ha 12 (.int .i64 x518) KR KR ?_; clear ha a; intro a ha
        refine stepp ha 5 (.int .i64 x518) KR KR ?_; clear ha a; intro a ha
        refine endl ?_
        refine thenN (hK530 _ _ ?_); clear hK530
        refine wp_seq_k (fun K531 hK532 => ?_)
        refine wp_region_lit ?_
        refine stepp ha 13 (.int .u32 x517) KR KR ?_; clear ha a; intro a ha
        refine stepp ha 14 (.string a1) KR KR ?_; clear ha a; intro a ha
        refine stepp ha 15 (.int .i64 x518) KR KR ?_; clear ha a; intro a ha
        obtain ⟨hA533, h_⟩ := asrt_some h; clear h; have h := h_; clear h_
        refine stepsi ha 16 9 (.tmp 14) (.tmp 15) a1 .i64 x518 rfl KR KR KR hA533 (show (x518 : Int) < ((a1).size : Int) from hp526) KR ?_; clear ha a; intro a ha
        refine stepp ha 17 (.int .u32 (IntKind.wrap .u32 (bt a1 x518))) KR KR ?_; clear ha a; intro a ha
        refine stepp ha 18 (.int .u32 (bxor .u32 x517 (IntKind.wrap .u32 (bt a1 x518)))) KR KR ?_; clear ha a; intro a ha
        refine stepp ha 0 (.int .u32 (bxor .u32 x517 (IntKind.wrap .u32 (bt a1 x518)))) KR KR ?_; clear ha a; intro a ha
        refine endl ?_
        refine thenN (hK532 _ _ ?_); clear hK532
        refine wp_seq_k (fun K534 hK535 => ?_)
        refine wp_region_lit ?_
        refine stepp ha 19 (.int .u32 (bxor .u32 x517 (IntKind.wrap .u32 (bt a1 x518)))) KR KR ?_; clear ha a; intro a ha
        refine stepp ha 20 (.int .u32 ((bxor .u32 x517 (IntKind.wrap .u32 (bt a1 x518))).fdiv 16)) KR KR ?_; clear ha a; intro a ha
        refine stepp ha 21 (.int .u32 (bxor .u32 x517 (IntKind.wrap .u32 (bt a1 x518)))) KR KR ?_; clear ha a; intro a ha
        refine stepp ha 22 (.int .u32 (band .u32 (bxor .u32 x517 (IntKind.wrap .u32 (bt a1 x518))) 15)) KR KR ?_; clear ha a; intro a ha
        obtain ⟨hA536, h_⟩ := asrt_some h; clear h; have h := h_; clear h_
        obtain ⟨hA537, h_⟩ := asrt_some h; clear h; have h := h_; clear h_
        refine stepiw ha 23 (sz := 1) 2 0 372 16 36 (.global 2) (.tmp 22) .u32 (band .u32 (bxor .u32 x517 (IntKind.wrap .u32 (bt a1 x518))) 15) rfl KR KR KR KR hA536 hA537 KR ?_; clear ha a; intro a ha
        refine stepl ha 24 (CA.el (encIK .u32) (0 : Int) (fun _ => rfl) (HW.ca0 hG2) G_crc_steps rfl (len := 16) rfl hA536 hA537) 36 0 (.tmp 23) (.int .u32 (rdL (0 : Int) G_crc_steps (band .u32 (bxor .u32 x517 (IntKind.wrap .u32 (bt a1 x518))) 15))) rfl KR KR KR ?_; clear ha a; intro a ha
        refine stepp ha 25 (.int .u32 (bxor .u32 ((bxor .u32 x517 (IntKind.wrap .u32 (bt a1 x518))).fdiv 16) (rdL (0 : Int) G_crc_steps (band .u32 (bxor .u32 x517 (IntKind.wrap .u32 (bt a1 x518))) 15)))) KR KR ?_; clear ha a; intro a ha
        refine stepp ha 0 (.int .u32 (bxor .u32 ((bxor .u32 x517 (IntKind.wrap .u32 (bt a1 x518))).fdiv 16) (rdL (0 : Int) G_crc_steps (band .u32 (bxor .u32 x517 (IntKind.wrap .u32 (bt a1 x518))) 15)))) KR KR ?_; clear ha a; intro a ha
        refine endl ?_
        refine thenN (hK535 _ _ ?_); clear hK535
        refine wp_region_lit ?_
        refine stepp ha 26 (.int .u32 (bxor .u32 ((bxor .u32 x517 (IntKind.wrap .u32 (bt a1 x518))).fdiv 16) (rdL (0 : Int) G_crc_steps (band .u32 (bxor .u32 x517 (IntKind.wrap .u32 (bt a1 x518))) 15)))) KR KR ?_; clear ha a; intro a ha
        refine stepp ha 27 (.int .u32 ((bxor .u32 ((bxor .u32 x517 (IntKind.wrap .u32 (bt a1 x518))).fdiv 16) (rdL (0 : Int) G_crc_steps (band .u32 (bxor .u32 x517 (IntKind.wrap .u32 (bt a1 x518))) 15))).fdiv 16)) KR KR ?_; clear ha a; intro a ha
        refine stepp ha 28 (.int .u32 (bxor .u32 ((bxor .u32 x517 (IntKind.wrap .u32 (bt a1 x518))).fdiv 16) (rdL (0 : Int) G_crc_steps (band .u32 (bxor .u32 x517 (IntKind.wrap .u32 (bt a1 x518))) 15)))) KR KR ?_; clear ha a; intro a ha
        refine stepp ha 29 (.int .u32 (band .u32 (bxor .u32 ((bxor .u32 x517 (IntKind.wrap .u32 (bt a1 x518))).fdiv 16) (rdL (0 : Int) G_crc_steps (band .u32 (bxor .u32 x517 (IntKind.wrap .u32 (bt a1 x518))) 15))) 15)) KR KR ?_; clear ha a; intro a ha
        obtain ⟨hA538, h_⟩ := asrt_some h; clear h; have h := h_; clear h_
        obtain ⟨hA539, h_⟩ := asrt_some h; clear h; have h := h_; clear h_
        refine stepiw ha 30 (sz := 1) 2 0 372 16 36 (.global 2) (.tmp 29) .u32 (band .u32 (bxor .u32 ((bxor .u32 x517 (IntKind.wrap .u32 (bt a1 x518))).fdiv 16) (rdL (0 : Int) G_crc_steps (band .u32 (bxor .u32 x517 (IntKind.wrap .u32 (bt a1 x518))) 15))) 15) rfl KR KR KR KR hA538 hA539 KR ?_; clear ha a; intro a ha
        refine stepl ha 31 (CA.el (encIK .u32) (0 : Int) (fun _ => rfl) (HW.ca0 hG2) G_crc_steps rfl (len := 16) rfl hA538 hA539) 36 0 (.tmp 30) (.int .u32 (rdL (0 : Int) G_crc_steps (band .u32 (bxor .u32 ((bxor .u32 x517 (IntKind.wrap .u32 (bt a1 x518))).fdiv 16) (rdL (0 : Int) G_crc_steps (band .u32 (bxor .u32 x517 (IntKind.wrap .u32 (bt a1 x518))) 15))) 15))) rfl KR KR KR ?_; clear ha a; intro a ha
        refine stepp ha 32 (.int .u32 (bxor .u32 ((bxor .u32 ((bxor .u32 x517 (IntKind.wrap .u32 (bt a1 x518))).fdiv 16) (rdL (0 : Int) G_crc_steps (band .u32 (bxor .u32 x517 (IntKind.wrap .u32 (bt a1 x518))) 15))).fdiv 16) (rdL (0 : Int) G_crc_steps (band .u32 (bxor .u32 ((bxor .u32 x517 (IntKind.wrap .u32 (bt a1 x518))).fdiv 16) (rdL (0 : Int) G_crc_steps (band .u32 (bxor .u32 x517 (IntKind.wrap .u32 (bt a1 x518))) 15))) 15)))) KR KR ?_; clear ha a; intro a ha
        refine stepp ha 0 (.int .u32 (bxor .u32 ((bxor .u32 ((bxor .u32 x517 (IntKind.wrap .u32 (bt a1 x518))).fdiv 16) (rdL (0 : Int) G_crc_steps (band .u32 (bxor .u32 x517 (IntKind.wrap .u32 (bt a1 x518))) 15))).fdiv 16) (rdL (0 : Int) G_crc_steps (band .u32 (bxor .u32 ((bxor .u32 x517 (IntKind.wrap .u32 (bt a1 x518))).fdiv 16) (rdL (0 : Int) G_crc_steps (band .u32 (bxor .u32 x517 (IntKind.wrap .u32 (bt a1 x518))) 15))) 15)))) KR KR ?_; clear ha a; intro a ha
        refine endl ?_
        refine blkN ?_
        refine thenN (hK528 _ _ ?_); clear hK528
        refine wp_region_lit ?_
        refine stepp ha 33 (.int .i64 (IntKind.wrap .i64 (x518 + 1))) KR KR ?_; clear ha a; intro a ha
        refine stepp ha 10 (.int .i64 (IntKind.wrap .i64 (x518 + 1))) KR KR ?_; clear ha a; intro a ha
        refine endl ?_
        exact thenN ⟨k520, Nat.lt_succ_self k520, bxor .u32 ((bxor .u32 ((bxor .u32 x517 (IntKind.wrap .u32 (bt a1 x518))).fdiv 16) (rdL (0 : Int) G_crc_steps (band .u32 (bxor .u32 x517 (IntKind.wrap .u32 (bt a1 x518))) 15))).fdiv 16) (rdL (0 : Int) G_crc_steps (band .u32 (bxor .u32 ((bxor .u32 x517 (IntKind.wrap .u32 (bt a1 x518))).fdiv 16) (rdL (0 : Int) G_crc_steps (band .u32 (bxor .u32 x517 (IntKind.wrap .u32 (bt a1 x518))) 15))) 15)), IntKind.wrap .i64 (x518 + 1), (by rw [← hag521]; exact h), ha.sub (subs_cons KR (subs_cons KR (subs_cons KR (subs_cons KR (subs_nil _))))), HW.pick [] [] (by decide) (by decide) KR KR⟩
      · skip
        replace h := ite_neg' h hp526
        refine condF ha KR KR (t := decide (x518 < (a1.size : Int))) (decide_eq_false hp526) ?_
        refine wp_exit ?_
        refine thenE ?_
        refine thenE ?_
        refine inBlk ?_
        refine thenN (hK473 _ _ ?_); clear hK473
        refine wp_seq_k (fun K540 hK541 => ?_)
        refine wp_region_lit ?_
        refine stepp ha 34 (.int .u32 x517) KR KR ?_; clear ha a; intro a ha
        refine stepp ha 35 (.int .u32 (bxor .u32 4294967295 x517)) KR KR ?_; clear ha a; intro a ha
        refine stepp ha 4 (.int .u32 (bxor .u32 4294967295 x517)) KR KR ?_; clear ha a; intro a ha
        refine endl ?_
        refine thenN (hK541 _ _ ?_); clear hK541
        refine wp_ret ?_
        obtain rfl := Option.some.inj h
        exact finv ha _ _ rfl (.tmp (v := .int .u32 (bxor .u32 4294967295 x517)) KR .nil) (.int .u32 (bxor .u32 4294967295 x517)) rfl ⟨rfl, HW.pick [] [] (by decide) (by decide) rfl KR⟩
/-! ### headgate/crc.Sum: function 251 -/
def crc_Sum.f (K : Nat) (a0 : ByteArray) : Option Int :=
  (crc_More.f K 0 a0).bind fun t546 => (some t546)
set_option maxRecDepth 100000 in
set_option maxHeartbeats 4000000 in
theorem crc_Sum.calls (K : Nat) (a0 : ByteArray)  (r : Int) (w : World) (hG2 : CA w 2 0 (encs (encIK .u32) G_crc_steps).toArray) (h : crc_Sum.f K a0 = some r) :
    Calls Tryz.prog 251 #[.string a0] w (fun e W' => e = .returned (.int .u32 r) ∧ Wd w W' [] [] ) := by
  refine sxstart (n := 5) (l := [(0, .string a0)]) Tryz.func251 rfl rfl (Nat.le_of_ble_eq_true KR) (subsA_cons rfl (subsA_nil _)) ?_
  intro a ha
  have HW := Wd.refl w
  unfold crc_Sum.f at h
  refine wp_seq_k (fun K542 hK543 => ?_)
  refine wp_region_lit ?_
  refine stepp ha 2 (.int .u32 0) KR KR ?_; clear ha a; intro a ha
  refine endl ?_
  refine thenN (hK543 _ _ ?_); clear hK543
  refine wp_seq_k (fun K544 hK545 => ?_)
  refine wp_region_lit ?_
  refine stepp ha 3 (.string a0) KR KR ?_; clear ha a; intro a ha
  obtain ⟨t546, ht547, h_⟩ := bind_some' h; clear h; have h := h_; clear h_
  refine stepc ha 4 KR KR (crc_More.calls K 0 a0 t546 _ (HW.ca0 hG2) ht547) ?_; clear ha a; rintro e W548 ⟨rfl, HX549⟩
  refine ⟨_, rfl, ?_⟩; intro a ha; replace HW := HW.callw HX549; clear HX549
  refine stepp ha 2 (.int .u32 t546) KR KR ?_; clear ha a; intro a ha
  refine endl ?_
  refine thenN (hK545 _ _ ?_); clear hK545
  refine wp_ret ?_
  obtain rfl := Option.some.inj h
  exact finv ha _ _ rfl (.tmp (v := .int .u32 t546) KR .nil) (.int .u32 t546) rfl ⟨rfl, HW.pick [] [] (by decide) (by decide) rfl KR⟩
/-! ### headgate/crc.Digest: function 196 -/
def crc_Digest.f (K : Nat) (a0 : ByteArray) : Option ByteArray :=
  (crc_Sum.f K a0).bind fun t554 => ((fields_PutLittle.f K (IntKind.wrap .u64 t554) 4).bind fun t558 => (some t558))
set_option maxRecDepth 100000 in
set_option maxHeartbeats 4000000 in
theorem crc_Digest.calls (K : Nat) (a0 : ByteArray)  (r : ByteArray) (w : World) (hG2 : CA w 2 0 (encs (encIK .u32) G_crc_steps).toArray) (h : crc_Digest.f K a0 = some r) :
    Calls Tryz.prog 196 #[.string a0] w (fun e W' => e = .returned (.string r) ∧ Wd w W' [] [] ) := by
  refine sxstart (n := 7) (l := [(0, .string a0)]) Tryz.func196 rfl rfl (Nat.le_of_ble_eq_true KR) (subsA_cons rfl (subsA_nil _)) ?_
  intro a ha
  have HW := Wd.refl w
  unfold crc_Digest.f at h
  refine wp_seq_k (fun K550 hK551 => ?_)
  refine wp_region_lit ?_
  refine stepp ha 2 (.string (⟨#[]⟩ : ByteArray)) KR KR ?_; clear ha a; intro a ha
  refine endl ?_
  refine thenN (hK551 _ _ ?_); clear hK551
  refine wp_seq_k (fun K552 hK553 => ?_)
  refine wp_region_lit ?_
  refine stepp ha 3 (.string a0) KR KR ?_; clear ha a; intro a ha
  obtain ⟨t554, ht555, h_⟩ := bind_some' h; clear h; have h := h_; clear h_
  refine stepc ha 4 KR KR (crc_Sum.calls K a0 t554 _ (HW.ca0 hG2) ht555) ?_; clear ha a; rintro e W556 ⟨rfl, HX557⟩
  refine ⟨_, rfl, ?_⟩; intro a ha; replace HW := HW.callw HX557; clear HX557
  refine stepp ha 5 (.int .u64 (IntKind.wrap .u64 t554)) KR KR ?_; clear ha a; intro a ha
  obtain ⟨t558, ht559, h_⟩ := bind_some' h; clear h; have h := h_; clear h_
  refine stepc ha 6 KR KR (fields_PutLittle.calls K (IntKind.wrap .u64 t554) 4 t558 _ ht559) ?_; clear ha a; rintro e W560 ⟨rfl, HX561⟩
  refine ⟨_, rfl, ?_⟩; intro a ha; replace HW := HW.callw HX561; clear HX561
  refine stepp ha 2 (.string t558) KR KR ?_; clear ha a; intro a ha
  refine endl ?_
  refine thenN (hK553 _ _ ?_); clear hK553
  refine wp_ret ?_
  obtain rfl := Option.some.inj h
  exact finv ha _ _ rfl (.tmp (v := .string t558) KR .nil) (.string t558) rfl ⟨rfl, HW.pick [] [] (by decide) (by decide) rfl KR⟩
/-! ### headgate/headgateref08.Needs: function 92 -/
def headgateref08_Needs.b0 (K : Nat) (a0 : List T_api_Unit) (again651 : Int → Int → Option Int) (x652 : Int) (x653 : Int) : Option Int :=
  if x653 < (a0.length : Int) then (if x653 < 8 then (asrt (0 ≤ x653) (again651 (IntKind.wrap .i64 (x652 + (IntKind.wrap .i64 (2 * (mx 0 (mn ((rdL T_api_Unit.z a0 x653).f0) 4096)))))) (IntKind.wrap .i64 (x653 + 1)))) else (some x652)) else (some x652)
def headgateref08_Needs.l0 (K : Nat) (a0 : List T_api_Unit) : Nat → Int → Int → Option Int
  | 0, _, _ => none
  | k_ + 1, x652, x653 => headgateref08_Needs.b0 K a0 (headgateref08_Needs.l0 K a0 k_) x652 x653
def headgateref08_Needs.f (K : Nat) (a0 : List T_api_Unit) : Option Int :=
  headgateref08_Needs.l0 K a0 K 576 0
set_option maxRecDepth 100000 in
set_option maxHeartbeats 4000000 in
theorem headgateref08_Needs.calls (K : Nat) (a0 : List T_api_Unit) (A0_0 : Option Addr) (c0_0 : Nat) (r : Int) (w : World) (hr0_0 : Rd 2 w (.slice A0_0 a0.length c0_0) a0.length (encs T_api_Unit.enc a0)) (h : headgateref08_Needs.f K a0 = some r) :
    Calls Tryz.prog 92 #[.slice A0_0 a0.length c0_0] w (fun e W' => e = .returned (.int .i64 r) ∧ Wd w W' [] [] ) := by
  refine sxstart (n := 26) (l := [(0, .slice A0_0 a0.length c0_0)]) Tryz.func92 rfl rfl (Nat.le_of_ble_eq_true KR) (subsA_cons rfl (subsA_nil _)) ?_
  intro a ha
  have HW := Wd.refl w
  unfold headgateref08_Needs.f at h
  refine wp_seq_k (fun K616 hK617 => ?_)
  refine wp_region_lit ?_
  refine stepp ha 2 (.int .i64 0) KR KR ?_; clear ha a; intro a ha
  refine endl ?_
  refine thenN (hK617 _ _ ?_); clear hK617
  refine wp_seq_k (fun K618 hK619 => ?_)
  refine wp_region_lit ?_
  refine stepp ha 3 (.int .i64 576) KR KR ?_; clear ha a; intro a ha
  refine endl ?_
  refine thenN (hK619 _ _ ?_); clear hK619
  refine wp_seq_k (fun K620 hK621 => ?_)
  refine wp_seq_k (fun K622 hK623 => ?_)
  refine wp_region_lit ?_
  refine stepp ha 4 (.int .i64 0) KR KR ?_; clear ha a; intro a ha
  refine endl ?_
  refine thenN (hK623 _ _ ?_); clear hK623
  refine wp_block ?_
  refine loopk (fun k => fun a W654 => ∃ (x652 : Int), ∃ (x653 : Int), headgateref08_Needs.l0 K a0 k x652 x653 = some r ∧ Has 26 [(0, .slice A0_0 a0.length c0_0), (3, .int .i64 x652), (4, .int .i64 x653)] a ∧ Wd w W654 [] []) K ?_ ?_
  · skip
    exact ⟨576, 0, h, ha.sub (subs_cons KR (subs_cons KR (subs_cons KR (subs_nil _)))), HW.pick [] [] (by decide) (by decide) KR KR⟩
  · skip
    intro k a W654 hI
    obtain ⟨x652, x653, h, ha, HW⟩ := hI
    cases k with
    | zero => exact (none_some (show none = some r from h)).elim
    | succ k655 =>
      replace h : headgateref08_Needs.b0 K a0 (headgateref08_Needs.l0 K a0 k655) x652 x653 = some r := h
      obtain ⟨again651, hag656⟩ : ∃ g_, g_ = headgateref08_Needs.l0 K a0 k655 := ⟨_, rfl⟩
      rw [← hag656] at h
      unfold headgateref08_Needs.b0 at h
      refine wp_seq_k (fun K657 hK658 => ?_)
      refine wp_seq_k (fun K659 hK660 => ?_)
      refine wp_region_lit ?_
      refine stepp ha 5 (.int .i64 x653) KR KR ?_; clear ha a; intro a ha
      refine stepp ha 6 (.slice A0_0 a0.length c0_0) KR KR ?_; clear ha a; intro a ha
      refine stepp ha 7 (.int .i64 (a0.length : Int)) KR KR ?_; clear ha a; intro a ha
      refine stepp ha 8 (.bool (decide (x653 < (a0.length : Int)))) KR KR ?_; clear ha a; intro a ha
      refine stepp ha 9 (.bool (decide (x653 < (a0.length : Int)))) KR KR ?_; clear ha a; intro a ha
      by_cases hp661 : x653 < (a0.length : Int)
      · skip
        replace h := ite_pos' h hp661
        replace ha := ha.bool 9 KR (decide_eq_true hp661)
        refine stepp ha 10 (.int .i64 x653) KR KR ?_; clear ha a; intro a ha
        refine stepp ha 11 (.bool (decide (x653 < 8))) KR KR ?_; clear ha a; intro a ha
        refine stepp ha 12 (.bool (decide (x653 < 8))) KR KR ?_; clear ha a; intro a ha
        refine endl ?_
        refine thenN (hK660 _ _ ?_); clear hK660
        by_cases hp662 : x653 < 8
        · skip
          replace h := ite_pos' h hp662
          refine condT ha KR KR (t := decide (x653 < 8)) (decide_eq_true hp662) ?_
          refine wp_skip ?_
          refine thenN (hK658 _ _ ?_); clear hK658
          refine wp_seq_k (fun K663 hK664 => ?_)
          refine wp_block ?_
          refine wp_region_lit ?_
          refine stepp ha 15 (.int .i64 x652) KR KR ?_; clear ha a; intro a ha
          refine stepp ha 16 (.slice A0_0 a0.length c0_0) KR KR ?_; clear ha a; intro a ha
          refine stepp ha 17 (.int .i64 x653) KR KR ?_; clear ha a; intro a ha
          obtain ⟨hA665, h_⟩ := asrt_some h; clear h; have h := h_; clear h_
          refine stepie T_api_Unit.enc T_api_Unit.z ha 18 (fun _ => rfl) (v := .slice A0_0 a0.length c0_0) (xs := a0) ((HW.rd0 hr0_0)) 52 85 (.tmp 16) (.tmp 17) .i64 x653 rfl KR KR KR KR hA665 (show (x653 : Int) < ((a0).length : Int) from hp661) KR ?_; clear ha a; intro b666 off667 a hC668 ha
          refine stepp ha 19 (.pointer (some ⟨b666, off667, none⟩)) KR KR ?_; clear ha a; intro a ha
          refine stepl ha 20 hC668 3 0 (.tmp 19) (.int .i64 ((rdL T_api_Unit.z a0 x653).f0)) rfl KR KR KR ?_; clear ha a; intro a ha
          refine stepmn ha 21 #[3, 3] (.tmp 20) (.const (.int .i64 4096)) .i64 ((rdL T_api_Unit.z a0 x653).f0) 4096 rfl KR KR KR ?_; clear ha a; intro a ha
          refine stepmx ha 22 #[3, 3] (.const (.int .i64 0)) (.tmp 21) .i64 0 (mn ((rdL T_api_Unit.z a0 x653).f0) 4096) rfl KR KR KR ?_; clear ha a; intro a ha
          refine stepp ha 23 (.int .i64 (IntKind.wrap .i64 (2 * (mx 0 (mn ((rdL T_api_Unit.z a0 x653).f0) 4096))))) KR KR ?_; clear ha a; intro a ha
          refine stepp ha 24 (.int .i64 (IntKind.wrap .i64 (x652 + (IntKind.wrap .i64 (2 * (mx 0 (mn ((rdL T_api_Unit.z a0 x653).f0) 4096))))))) KR KR ?_; clear ha a; intro a ha
          refine stepp ha 3 (.int .i64 (IntKind.wrap .i64 (x652 + (IntKind.wrap .i64 (2 * (mx 0 (mn ((rdL T_api_Unit.z a0 x653).f0) 4096))))))) KR KR ?_; clear ha a; intro a ha
          refine endl ?_
          refine blkN ?_
          refine thenN (hK664 _ _ ?_); clear hK664
          refine wp_region_lit ?_
          refine stepp ha 13 (.int .i64 x653) KR KR ?_; clear ha a; intro a ha
          refine stepp ha 14 (.int .i64 (IntKind.wrap .i64 (x653 + 1))) KR KR ?_; clear ha a; intro a ha
          refine stepp ha 4 (.int .i64 (IntKind.wrap .i64 (x653 + 1))) KR KR ?_; clear ha a; intro a ha
          refine endl ?_
          exact thenN ⟨k655, Nat.lt_succ_self k655, IntKind.wrap .i64 (x652 + (IntKind.wrap .i64 (2 * (mx 0 (mn ((rdL T_api_Unit.z a0 x653).f0) 4096))))), IntKind.wrap .i64 (x653 + 1), (by rw [← hag656]; exact h), ha.sub (subs_cons KR (subs_cons KR (subs_cons KR (subs_nil _)))), HW.pick [] [] (by decide) (by decide) KR KR⟩
        · skip
          replace h := ite_neg' h hp662
          refine condF ha KR KR (t := decide (x653 < 8)) (decide_eq_false hp662) ?_
          refine wp_exit ?_
          refine thenE ?_
          refine thenE ?_
          refine inBlk ?_
          refine thenN (hK621 _ _ ?_); clear hK621
          refine wp_seq_k (fun K669 hK670 => ?_)
          refine wp_region_lit ?_
          refine stepp ha 25 (.int .i64 x652) KR KR ?_; clear ha a; intro a ha
          refine stepp ha 2 (.int .i64 x652) KR KR ?_; clear ha a; intro a ha
          refine endl ?_
          refine thenN (hK670 _ _ ?_); clear hK670
          refine wp_ret ?_
          obtain rfl := Option.some.inj h
          exact finv ha _ _ rfl (.tmp (v := .int .i64 x652) KR .nil) (.int .i64 x652) rfl ⟨rfl, HW.pick [] [] (by decide) (by decide) rfl KR⟩
      · skip
        replace h := ite_neg' h hp661
        replace ha := ha.bool 9 KR (decide_eq_false hp661)
        refine stepo ha 10 KR ?_; clear ha a; intro a ha
        refine stepo ha 11 KR ?_; clear ha a; intro a ha
        refine stepp ha 12 (.bool false) KR KR ?_; clear ha a; intro a ha
        refine endl ?_
        refine thenN (hK660 _ _ ?_); clear hK660
        refine condF ha KR KR (t := false) (rfl) ?_
        refine wp_exit ?_
        refine thenE ?_
        refine thenE ?_
        refine inBlk ?_
        refine thenN (hK621 _ _ ?_); clear hK621
        refine wp_seq_k (fun K671 hK672 => ?_)
        refine wp_region_lit ?_
        refine stepp ha 25 (.int .i64 x652) KR KR ?_; clear ha a; intro a ha
        refine stepp ha 2 (.int .i64 x652) KR KR ?_; clear ha a; intro a ha
        refine endl ?_
        refine thenN (hK672 _ _ ?_); clear hK672
        refine wp_ret ?_
        obtain rfl := Option.some.inj h
        exact finv ha _ _ rfl (.tmp (v := .int .i64 x652) KR .nil) (.int .i64 x652) rfl ⟨rfl, HW.pick [] [] (by decide) (by decide) rfl KR⟩
/-! ### sync/atomic.b32: function 227 -/
def atomic_b32.f (a0 : Bool) : Option Int :=
  if a0 = true then (some 1) else (some 0)
set_option maxRecDepth 100000 in
set_option maxHeartbeats 4000000 in
theorem atomic_b32.calls (a0 : Bool)  (r : Int) (w : World)  (h : atomic_b32.f a0 = some r) :
    Calls Tryz.prog 227 #[.bool a0] w (fun e W' => e = .returned (.int .u32 r) ∧ Wd w W' [] [] ) := by
  refine sxstart (n := 4) (l := [(0, .bool a0)]) Tryz.func227 rfl rfl (Nat.le_of_ble_eq_true KR) (subsA_cons rfl (subsA_nil _)) ?_
  intro a ha
  have HW := Wd.refl w
  unfold atomic_b32.f at h
  refine wp_seq_k (fun K685 hK686 => ?_)
  refine wp_region_lit ?_
  refine stepp ha 2 (.int .u32 0) KR KR ?_; clear ha a; intro a ha
  refine endl ?_
  refine thenN (hK686 _ _ ?_); clear hK686
  refine wp_seq_k (fun K687 hK688 => ?_)
  refine wp_seq_k (fun K689 hK690 => ?_)
  refine wp_region_lit ?_
  refine stepp ha 3 (.bool a0) KR KR ?_; clear ha a; intro a ha
  refine endl ?_
  refine thenN (hK690 _ _ ?_); clear hK690
  by_cases hp691 : a0 = true
  · skip
    replace h := ite_pos' h hp691
    refine condT ha KR KR (t := a0) (hp691) ?_
    refine wp_seq_k (fun K692 hK693 => ?_)
    refine wp_region_lit ?_
    refine stepp ha 2 (.int .u32 1) KR KR ?_; clear ha a; intro a ha
    refine endl ?_
    refine thenN (hK693 _ _ ?_); clear hK693
    refine wp_ret ?_
    refine thenR ?_
    obtain rfl := Option.some.inj h
    exact finv ha _ _ rfl (.tmp (v := .int .u32 1) KR .nil) (.int .u32 1) rfl ⟨rfl, HW.pick [] [] (by decide) (by decide) rfl KR⟩
  · skip
    replace h := ite_neg' h hp691
    refine condF ha KR KR (t := a0) (bool_f hp691) ?_
    refine wp_skip ?_
    refine thenN (hK688 _ _ ?_); clear hK688
    refine wp_seq_k (fun K694 hK695 => ?_)
    refine wp_region_lit ?_
    refine stepp ha 2 (.int .u32 0) KR KR ?_; clear ha a; intro a ha
    refine endl ?_
    refine thenN (hK695 _ _ ?_); clear hK695
    refine wp_ret ?_
    obtain rfl := Option.some.inj h
    exact finv ha _ _ rfl (.tmp (v := .int .u32 0) KR .nil) (.int .u32 0) rfl ⟨rfl, HW.pick [] [] (by decide) (by decide) rfl KR⟩
/-! ### headgate/store.good: function 137 -/
def store_good.f (a0 : T_api_Unit) : Option Bool :=
  if a0.f0 ≥ 1 then (if a0.f0 ≤ 4096 then (some ((a0.f1.size : Int) == 16)) else (some false)) else (some false)
set_option maxRecDepth 100000 in
set_option maxHeartbeats 4000000 in
theorem store_good.calls (a0 : T_api_Unit)  (r : Bool) (w : World)  (h : store_good.f a0 = some r) :
    Calls Tryz.prog 137 #[.agg #[.int .i64 a0.f0, .string a0.f1]] w (fun e W' => e = .returned (.bool r) ∧ Wd w W' [] [] ) := by
  refine sxstart (n := 17) (l := [(0, .agg #[.int .i64 a0.f0, .string a0.f1])]) Tryz.func137 rfl rfl (Nat.le_of_ble_eq_true KR) (subsA_cons rfl (subsA_nil _)) ?_
  intro a ha
  have HW := Wd.refl w
  unfold store_good.f at h
  refine wp_seq_k (fun K702 hK703 => ?_)
  refine wp_region_lit ?_
  refine stepnew ha HW 1 #[.int .i64 a0.f0, .string a0.f1] 85 KR KR ?_; clear ha HW a; intro b704 a W705 HW ha
  refine stepp ha 2 (.bool false) KR KR ?_; clear ha a; intro a ha
  refine endl ?_
  refine thenN (hK703 _ _ ?_); clear hK703
  refine wp_seq_k (fun K706 hK707 => ?_)
  refine wp_region_lit ?_
  refine stepp ha 3 (.pointer (some ⟨b704, 0, none⟩)) KR KR ?_; clear ha a; intro a ha
  refine stepl ha 4 (HW.ca (i := 0) (b := b704) (C := #[.int .i64 a0.f0, .string a0.f1]) (T := 85) (fr := (0, 0)) KR) 3 0 (.tmp 3) (.int .i64 a0.f0) rfl KR KR KR ?_; clear ha a; intro a ha
  refine stepp ha 5 (.bool (decide (a0.f0 ≥ 1))) KR KR ?_; clear ha a; intro a ha
  refine stepp ha 6 (.bool (decide (a0.f0 ≥ 1))) KR KR ?_; clear ha a; intro a ha
  by_cases hp708 : a0.f0 ≥ 1
  · skip
    replace h := ite_pos' h hp708
    replace ha := ha.bool 6 KR (decide_eq_true hp708)
    refine stepp ha 7 (.pointer (some ⟨b704, 0, none⟩)) KR KR ?_; clear ha a; intro a ha
    refine stepl ha 8 (HW.ca (i := 0) (b := b704) (C := #[.int .i64 a0.f0, .string a0.f1]) (T := 85) (fr := (0, 0)) KR) 3 0 (.tmp 7) (.int .i64 a0.f0) rfl KR KR KR ?_; clear ha a; intro a ha
    refine stepp ha 9 (.bool (decide (a0.f0 ≤ 4096))) KR KR ?_; clear ha a; intro a ha
    refine stepp ha 10 (.bool (decide (a0.f0 ≤ 4096))) KR KR ?_; clear ha a; intro a ha
    refine stepp ha 11 (.bool (decide (a0.f0 ≤ 4096))) KR KR ?_; clear ha a; intro a ha
    by_cases hp709 : a0.f0 ≤ 4096
    · skip
      replace h := ite_pos' h hp709
      replace ha := ha.bool 11 KR (decide_eq_true hp709)
      refine stepp ha 12 (.pointer (some ⟨b704, 1, none⟩)) KR KR ?_; clear ha a; intro a ha
      refine stepl ha 13 (HW.ca (i := 0) (b := b704) (C := #[.int .i64 a0.f0, .string a0.f1]) (T := 85) (fr := (0, 0)) KR) 9 1 (.tmp 12) (.string a0.f1) rfl KR KR KR ?_; clear ha a; intro a ha
      refine stepp ha 14 (.int .i64 (a0.f1.size : Int)) KR KR ?_; clear ha a; intro a ha
      refine stepp ha 15 (.bool ((a0.f1.size : Int) == 16)) KR KR ?_; clear ha a; intro a ha
      refine stepp ha 16 (.bool ((a0.f1.size : Int) == 16)) KR KR ?_; clear ha a; intro a ha
      refine stepp ha 2 (.bool ((a0.f1.size : Int) == 16)) KR KR ?_; clear ha a; intro a ha
      refine endl ?_
      refine thenN (hK707 _ _ ?_); clear hK707
      refine wp_ret ?_
      obtain rfl := Option.some.inj h
      exact finv ha _ _ rfl (.tmp (v := .bool ((a0.f1.size : Int) == 16)) KR .nil) (.bool ((a0.f1.size : Int) == 16)) rfl ⟨rfl, HW.pick [] [] (by decide) (by decide) rfl KR⟩
    · skip
      replace h := ite_neg' h hp709
      replace ha := ha.bool 11 KR (decide_eq_false hp709)
      refine stepo ha 12 KR ?_; clear ha a; intro a ha
      refine stepo ha 13 KR ?_; clear ha a; intro a ha
      refine stepo ha 14 KR ?_; clear ha a; intro a ha
      refine stepo ha 15 KR ?_; clear ha a; intro a ha
      refine stepp ha 16 (.bool false) KR KR ?_; clear ha a; intro a ha
      refine stepp ha 2 (.bool false) KR KR ?_; clear ha a; intro a ha
      refine endl ?_
      refine thenN (hK707 _ _ ?_); clear hK707
      refine wp_ret ?_
      obtain rfl := Option.some.inj h
      exact finv ha _ _ rfl (.tmp (v := .bool false) KR .nil) (.bool false) rfl ⟨rfl, HW.pick [] [] (by decide) (by decide) rfl KR⟩
  · skip
    replace h := ite_neg' h hp708
    replace ha := ha.bool 6 KR (decide_eq_false hp708)
    refine stepo ha 7 KR ?_; clear ha a; intro a ha
    refine stepo ha 8 KR ?_; clear ha a; intro a ha
    refine stepo ha 9 KR ?_; clear ha a; intro a ha
    refine stepp ha 10 (.bool false) KR KR ?_; clear ha a; intro a ha
    refine stepp ha 11 (.bool false) KR KR ?_; clear ha a; intro a ha
    refine stepo ha 12 KR ?_; clear ha a; intro a ha
    refine stepo ha 13 KR ?_; clear ha a; intro a ha
    refine stepo ha 14 KR ?_; clear ha a; intro a ha
    refine stepo ha 15 KR ?_; clear ha a; intro a ha
    refine stepp ha 16 (.bool false) KR KR ?_; clear ha a; intro a ha
    refine stepp ha 2 (.bool false) KR KR ?_; clear ha a; intro a ha
    refine endl ?_
    refine thenN (hK707 _ _ ?_); clear hK707
    refine wp_ret ?_
    obtain rfl := Option.some.inj h
    exact finv ha _ _ rfl (.tmp (v := .bool false) KR .nil) (.bool false) rfl ⟨rfl, HW.pick [] [] (by decide) (by decide) rfl KR⟩
/-! ### math/bits.Mul32: function 241 -/
def bits_Mul32.f (a0 : Int) (a1 : Int) : Option (Int × Int) :=
  some (IntKind.wrap .u32 ((IntKind.wrap .u64 ((IntKind.wrap .u64 a0) * (IntKind.wrap .u64 a1))).fdiv 4294967296), IntKind.wrap .u32 (IntKind.wrap .u64 ((IntKind.wrap .u64 a0) * (IntKind.wrap .u64 a1))))
set_option maxRecDepth 100000 in
set_option maxHeartbeats 4000000 in
theorem bits_Mul32.calls (a0 : Int) (a1 : Int)  (r : Int × Int) (w : World)  (h : bits_Mul32.f a0 a1 = some r) :
    Calls Tryz.prog 241 #[.int .u32 a0, .int .u32 a1] w (fun e W' => e = .returned (.tuple #[.int .u32 r.1, .int .u32 r.2]) ∧ Wd w W' [] [] ) := by
  refine sxstart (n := 17) (l := [(0, .int .u32 a0), (1, .int .u32 a1)]) Tryz.func241 rfl rfl (Nat.le_of_ble_eq_true KR) (subsA_cons rfl (subsA_cons rfl (subsA_nil _))) ?_
  intro a ha
  have HW := Wd.refl w
  unfold bits_Mul32.f at h
  refine wp_seq_k (fun K714 hK715 => ?_)
  refine wp_region_lit ?_
  refine stepp ha 4 (.int .u32 0) KR KR ?_; clear ha a; intro a ha
  refine stepp ha 5 (.int .u32 0) KR KR ?_; clear ha a; intro a ha
  refine endl ?_
  refine thenN (hK715 _ _ ?_); clear hK715
  refine wp_seq_k (fun K716 hK717 => ?_)
  refine wp_region_lit ?_
  refine stepp ha 7 (.int .u32 a0) KR KR ?_; clear ha a; intro a ha
  refine stepp ha 8 (.int .u64 (IntKind.wrap .u64 a0)) KR KR ?_; clear ha a; intro a ha
  refine stepp ha 9 (.int .u32 a1) KR KR ?_; clear ha a; intro a ha
  refine stepp ha 10 (.int .u64 (IntKind.wrap .u64 a1)) KR KR ?_; clear ha a; intro a ha
  refine stepp ha 11 (.int .u64 (IntKind.wrap .u64 ((IntKind.wrap .u64 a0) * (IntKind.wrap .u64 a1)))) KR KR ?_; clear ha a; intro a ha
  refine stepp ha 6 (.int .u64 (IntKind.wrap .u64 ((IntKind.wrap .u64 a0) * (IntKind.wrap .u64 a1)))) KR KR ?_; clear ha a; intro a ha
  refine endl ?_
  refine thenN (hK717 _ _ ?_); clear hK717
  refine wp_seq_k (fun K718 hK719 => ?_)
  refine wp_region_lit ?_
  refine stepp ha 12 (.int .u64 (IntKind.wrap .u64 ((IntKind.wrap .u64 a0) * (IntKind.wrap .u64 a1)))) KR KR ?_; clear ha a; intro a ha
  refine stepp ha 13 (.int .u64 ((IntKind.wrap .u64 ((IntKind.wrap .u64 a0) * (IntKind.wrap .u64 a1))).fdiv 4294967296)) KR KR ?_; clear ha a; intro a ha
  refine stepp ha 14 (.int .u32 (IntKind.wrap .u32 ((IntKind.wrap .u64 ((IntKind.wrap .u64 a0) * (IntKind.wrap .u64 a1))).fdiv 4294967296))) KR KR ?_; clear ha a; intro a ha
  refine stepp ha 15 (.int .u64 (IntKind.wrap .u64 ((IntKind.wrap .u64 a0) * (IntKind.wrap .u64 a1)))) KR KR ?_; clear ha a; intro a ha
  refine stepp ha 16 (.int .u32 (IntKind.wrap .u32 (IntKind.wrap .u64 ((IntKind.wrap .u64 a0) * (IntKind.wrap .u64 a1))))) KR KR ?_; clear ha a; intro a ha
  refine stepp ha 4 (.int .u32 (IntKind.wrap .u32 ((IntKind.wrap .u64 ((IntKind.wrap .u64 a0) * (IntKind.wrap .u64 a1))).fdiv 4294967296))) KR KR ?_; clear ha a; intro a ha
  refine stepp ha 5 (.int .u32 (IntKind.wrap .u32 (IntKind.wrap .u64 ((IntKind.wrap .u64 a0) * (IntKind.wrap .u64 a1))))) KR KR ?_; clear ha a; intro a ha
  refine endl ?_
  refine thenN (hK719 _ _ ?_); clear hK719
  refine wp_ret ?_
  obtain rfl := Option.some.inj h
  exact finv ha _ _ rfl (.tmp (v := .int .u32 (IntKind.wrap .u32 ((IntKind.wrap .u64 ((IntKind.wrap .u64 a0) * (IntKind.wrap .u64 a1))).fdiv 4294967296))) KR (.tmp (v := .int .u32 (IntKind.wrap .u32 (IntKind.wrap .u64 ((IntKind.wrap .u64 a0) * (IntKind.wrap .u64 a1))))) KR .nil)) (.tuple #[.int .u32 (IntKind.wrap .u32 ((IntKind.wrap .u64 ((IntKind.wrap .u64 a0) * (IntKind.wrap .u64 a1))).fdiv 4294967296)), .int .u32 (IntKind.wrap .u32 (IntKind.wrap .u64 ((IntKind.wrap .u64 a0) * (IntKind.wrap .u64 a1))))]) rfl ⟨rfl, HW.pick [] [] (by decide) (by decide) rfl KR⟩
/-! ### math/bits.Mul64: function 242 -/
def bits_Mul64.f (a0 : Int) (a1 : Int) : Option (Int × Int) :=
  some (IntKind.wrap .u64 ((IntKind.wrap .u64 ((IntKind.wrap .u64 ((a0.fdiv 4294967296) * (a1.fdiv 4294967296))) + ((IntKind.wrap .u64 ((IntKind.wrap .u64 ((a0.fdiv 4294967296) * (band .u64 a1 4294967295))) + ((IntKind.wrap .u64 ((band .u64 a0 4294967295) * (band .u64 a1 4294967295))).fdiv 4294967296))).fdiv 4294967296))) + ((IntKind.wrap .u64 ((band .u64 (IntKind.wrap .u64 ((IntKind.wrap .u64 ((a0.fdiv 4294967296) * (band .u64 a1 4294967295))) + ((IntKind.wrap .u64 ((band .u64 a0 4294967295) * (band .u64 a1 4294967295))).fdiv 4294967296))) 4294967295) + (IntKind.wrap .u64 ((band .u64 a0 4294967295) * (a1.fdiv 4294967296))))).fdiv 4294967296)), IntKind.wrap .u64 (a0 * a1))
set_option maxRecDepth 100000 in
set_option maxHeartbeats 4000000 in
theorem bits_Mul64.calls (a0 : Int) (a1 : Int)  (r : Int × Int) (w : World)  (h : bits_Mul64.f a0 a1 = some r) :
    Calls Tryz.prog 242 #[.int .u64 a0, .int .u64 a1] w (fun e W' => e = .returned (.tuple #[.int .u64 r.1, .int .u64 r.2]) ∧ Wd w W' [] [] ) := by
  refine sxstart (n := 51) (l := [(0, .int .u64 a0), (1, .int .u64 a1)]) Tryz.func242 rfl rfl (Nat.le_of_ble_eq_true KR) (subsA_cons rfl (subsA_cons rfl (subsA_nil _))) ?_
  intro a ha
  have HW := Wd.refl w
  unfold bits_Mul64.f at h
  refine wp_seq_k (fun K720 hK721 => ?_)
  refine wp_region_lit ?_
  refine stepp ha 4 (.int .u64 0) KR KR ?_; clear ha a; intro a ha
  refine stepp ha 5 (.int .u64 0) KR KR ?_; clear ha a; intro a ha
  refine endl ?_
  refine thenN (hK721 _ _ ?_); clear hK721
  refine wp_seq_k (fun K722 hK723 => ?_)
  refine wp_region_lit ?_
  refine stepp ha 14 (.int .u64 a0) KR KR ?_; clear ha a; intro a ha
  refine stepp ha 15 (.int .u64 (band .u64 a0 4294967295)) KR KR ?_; clear ha a; intro a ha
  refine stepp ha 6 (.int .u64 (band .u64 a0 4294967295)) KR KR ?_; clear ha a; intro a ha
  refine endl ?_
  refine thenN (hK723 _ _ ?_); clear hK723
  refine wp_seq_k (fun K724 hK725 => ?_)
  refine wp_region_lit ?_
  refine stepp ha 16 (.int .u64 a0) KR KR ?_; clear ha a; intro a ha
  refine stepp ha 17 (.int .u64 (a0.fdiv 4294967296)) KR KR ?_; clear ha a; intro a ha
  refine stepp ha 7 (.int .u64 (a0.fdiv 4294967296)) KR KR ?_; clear ha a; intro a ha
  refine endl ?_
  refine thenN (hK725 _ _ ?_); clear hK725
  refine wp_seq_k (fun K726 hK727 => ?_)
  refine wp_region_lit ?_
  refine stepp ha 18 (.int .u64 a1) KR KR ?_; clear ha a; intro a ha
  refine stepp ha 19 (.int .u64 (band .u64 a1 4294967295)) KR KR ?_; clear ha a; intro a ha
  refine stepp ha 8 (.int .u64 (band .u64 a1 4294967295)) KR KR ?_; clear ha a; intro a ha
  refine endl ?_
  refine thenN (hK727 _ _ ?_); clear hK727
  refine wp_seq_k (fun K728 hK729 => ?_)
  refine wp_region_lit ?_
  refine stepp ha 20 (.int .u64 a1) KR KR ?_; clear ha a; intro a ha
  refine stepp ha 21 (.int .u64 (a1.fdiv 4294967296)) KR KR ?_; clear ha a; intro a ha
  refine stepp ha 9 (.int .u64 (a1.fdiv 4294967296)) KR KR ?_; clear ha a; intro a ha
  refine endl ?_
  refine thenN (hK729 _ _ ?_); clear hK729
  refine wp_seq_k (fun K730 hK731 => ?_)
  refine wp_region_lit ?_
  refine stepp ha 22 (.int .u64 (band .u64 a0 4294967295)) KR KR ?_; clear ha a; intro a ha
  refine stepp ha 23 (.int .u64 (band .u64 a1 4294967295)) KR KR ?_; clear ha a; intro a ha
  refine stepp ha 24 (.int .u64 (IntKind.wrap .u64 ((band .u64 a0 4294967295) * (band .u64 a1 4294967295)))) KR KR ?_; clear ha a; intro a ha
  refine stepp ha 10 (.int .u64 (IntKind.wrap .u64 ((band .u64 a0 4294967295) * (band .u64 a1 4294967295)))) KR KR ?_; clear ha a; intro a ha
  refine endl ?_
  refine thenN (hK731 _ _ ?_); clear hK731
  refine wp_seq_k (fun K732 hK733 => ?_)
  refine wp_region_lit ?_
  refine stepp ha 25 (.int .u64 (a0.fdiv 4294967296)) KR KR ?_; clear ha a; intro a ha
  refine stepp ha 26 (.int .u64 (band .u64 a1 4294967295)) KR KR ?_; clear ha a; intro a ha
  refine stepp ha 27 (.int .u64 (IntKind.wrap .u64 ((a0.fdiv 4294967296) * (band .u64 a1 4294967295)))) KR KR ?_; clear ha a; intro a ha
  refine stepp ha 28 (.int .u64 (IntKind.wrap .u64 ((band .u64 a0 4294967295) * (band .u64 a1 4294967295)))) KR KR ?_; clear ha a; intro a ha
  refine stepp ha 29 (.int .u64 ((IntKind.wrap .u64 ((band .u64 a0 4294967295) * (band .u64 a1 4294967295))).fdiv 4294967296)) KR KR ?_; clear ha a; intro a ha
  refine stepp ha 30 (.int .u64 (IntKind.wrap .u64 ((IntKind.wrap .u64 ((a0.fdiv 4294967296) * (band .u64 a1 4294967295))) + ((IntKind.wrap .u64 ((band .u64 a0 4294967295) * (band .u64 a1 4294967295))).fdiv 4294967296)))) KR KR ?_; clear ha a; intro a ha
  refine stepp ha 11 (.int .u64 (IntKind.wrap .u64 ((IntKind.wrap .u64 ((a0.fdiv 4294967296) * (band .u64 a1 4294967295))) + ((IntKind.wrap .u64 ((band .u64 a0 4294967295) * (band .u64 a1 4294967295))).fdiv 4294967296)))) KR KR ?_; clear ha a; intro a ha
  refine endl ?_
  refine thenN (hK733 _ _ ?_); clear hK733
  refine wp_seq_k (fun K734 hK735 => ?_)
  refine wp_region_lit ?_
  refine stepp ha 31 (.int .u64 (IntKind.wrap .u64 ((IntKind.wrap .u64 ((a0.fdiv 4294967296) * (band .u64 a1 4294967295))) + ((IntKind.wrap .u64 ((band .u64 a0 4294967295) * (band .u64 a1 4294967295))).fdiv 4294967296)))) KR KR ?_; clear ha a; intro a ha
  refine stepp ha 32 (.int .u64 (band .u64 (IntKind.wrap .u64 ((IntKind.wrap .u64 ((a0.fdiv 4294967296) * (band .u64 a1 4294967295))) + ((IntKind.wrap .u64 ((band .u64 a0 4294967295) * (band .u64 a1 4294967295))).fdiv 4294967296))) 4294967295)) KR KR ?_; clear ha a; intro a ha
  refine stepp ha 12 (.int .u64 (band .u64 (IntKind.wrap .u64 ((IntKind.wrap .u64 ((a0.fdiv 4294967296) * (band .u64 a1 4294967295))) + ((IntKind.wrap .u64 ((band .u64 a0 4294967295) * (band .u64 a1 4294967295))).fdiv 4294967296))) 4294967295)) KR KR ?_; clear ha a; intro a ha
  refine endl ?_
  refine thenN (hK735 _ _ ?_); clear hK735
  refine wp_seq_k (fun K736 hK737 => ?_)
  refine wp_region_lit ?_
  refine stepp ha 33 (.int .u64 (IntKind.wrap .u64 ((IntKind.wrap .u64 ((a0.fdiv 4294967296) * (band .u64 a1 4294967295))) + ((IntKind.wrap .u64 ((band .u64 a0 4294967295) * (band .u64 a1 4294967295))).fdiv 4294967296)))) KR KR ?_; clear ha a; intro a ha
  refine stepp ha 34 (.int .u64 ((IntKind.wrap .u64 ((IntKind.wrap .u64 ((a0.fdiv 4294967296) * (band .u64 a1 4294967295))) + ((IntKind.wrap .u64 ((band .u64 a0 4294967295) * (band .u64 a1 4294967295))).fdiv 4294967296))).fdiv 4294967296)) KR KR ?_; clear ha a; intro a ha
  refine stepp ha 13 (.int .u64 ((IntKind.wrap .u64 ((IntKind.wrap .u64 ((a0.fdiv 4294967296) * (band .u64 a1 4294967295))) + ((IntKind.wrap .u64 ((band .u64 a0 4294967295) * (band .u64 a1 4294967295))).fdiv 4294967296))).fdiv 4294967296)) KR KR ?_; clear ha a; intro a ha
  refine endl ?_
  refine thenN (hK737 _ _ ?_); clear hK737
  refine wp_seq_k (fun K738 hK739 => ?_)
  refine wp_region_lit ?_
  refine stepp ha 35 (.int .u64 (band .u64 (IntKind.wrap .u64 ((IntKind.wrap .u64 ((a0.fdiv 4294967296) * (band .u64 a1 4294967295))) + ((IntKind.wrap .u64 ((band .u64 a0 4294967295) * (band .u64 a1 4294967295))).fdiv 4294967296))) 4294967295)) KR KR ?_; clear ha a; intro a ha
  refine stepp ha 36 (.int .u64 (band .u64 a0 4294967295)) KR KR ?_; clear ha a; intro a ha
  refine stepp ha 37 (.int .u64 (a1.fdiv 4294967296)) KR KR ?_; clear ha a; intro a ha
  refine stepp ha 38 (.int .u64 (IntKind.wrap .u64 ((band .u64 a0 4294967295) * (a1.fdiv 4294967296)))) KR KR ?_; clear ha a; intro a ha
  refine stepp ha 39 (.int .u64 (IntKind.wrap .u64 ((band .u64 (IntKind.wrap .u64 ((IntKind.wrap .u64 ((a0.fdiv 4294967296) * (band .u64 a1 4294967295))) + ((IntKind.wrap .u64 ((band .u64 a0 4294967295) * (band .u64 a1 4294967295))).fdiv 4294967296))) 4294967295) + (IntKind.wrap .u64 ((band .u64 a0 4294967295) * (a1.fdiv 4294967296)))))) KR KR ?_; clear ha a; intro a ha
  refine stepp ha 12 (.int .u64 (IntKind.wrap .u64 ((band .u64 (IntKind.wrap .u64 ((IntKind.wrap .u64 ((a0.fdiv 4294967296) * (band .u64 a1 4294967295))) + ((IntKind.wrap .u64 ((band .u64 a0 4294967295) * (band .u64 a1 4294967295))).fdiv 4294967296))) 4294967295) + (IntKind.wrap .u64 ((band .u64 a0 4294967295) * (a1.fdiv 4294967296)))))) KR KR ?_; clear ha a; intro a ha
  refine endl ?_
  refine thenN (hK739 _ _ ?_); clear hK739
  refine wp_seq_k (fun K740 hK741 => ?_)
  refine wp_region_lit ?_
  refine stepp ha 40 (.int .u64 (a0.fdiv 4294967296)) KR KR ?_; clear ha a; intro a ha
  refine stepp ha 41 (.int .u64 (a1.fdiv 4294967296)) KR KR ?_; clear ha a; intro a ha
  refine stepp ha 42 (.int .u64 (IntKind.wrap .u64 ((a0.fdiv 4294967296) * (a1.fdiv 4294967296)))) KR KR ?_; clear ha a; intro a ha
  refine stepp ha 43 (.int .u64 ((IntKind.wrap .u64 ((IntKind.wrap .u64 ((a0.fdiv 4294967296) * (band .u64 a1 4294967295))) + ((IntKind.wrap .u64 ((band .u64 a0 4294967295) * (band .u64 a1 4294967295))).fdiv 4294967296))).fdiv 4294967296)) KR KR ?_; clear ha a; intro a ha
  refine stepp ha 44 (.int .u64 (IntKind.wrap .u64 ((IntKind.wrap .u64 ((a0.fdiv 4294967296) * (a1.fdiv 4294967296))) + ((IntKind.wrap .u64 ((IntKind.wrap .u64 ((a0.fdiv 4294967296) * (band .u64 a1 4294967295))) + ((IntKind.wrap .u64 ((band .u64 a0 4294967295) * (band .u64 a1 4294967295))).fdiv 4294967296))).fdiv 4294967296)))) KR KR ?_; clear ha a; intro a ha
  refine stepp ha 45 (.int .u64 (IntKind.wrap .u64 ((band .u64 (IntKind.wrap .u64 ((IntKind.wrap .u64 ((a0.fdiv 4294967296) * (band .u64 a1 4294967295))) + ((IntKind.wrap .u64 ((band .u64 a0 4294967295) * (band .u64 a1 4294967295))).fdiv 4294967296))) 4294967295) + (IntKind.wrap .u64 ((band .u64 a0 4294967295) * (a1.fdiv 4294967296)))))) KR KR ?_; clear ha a; intro a ha
  refine stepp ha 46 (.int .u64 ((IntKind.wrap .u64 ((band .u64 (IntKind.wrap .u64 ((IntKind.wrap .u64 ((a0.fdiv 4294967296) * (band .u64 a1 4294967295))) + ((IntKind.wrap .u64 ((band .u64 a0 4294967295) * (band .u64 a1 4294967295))).fdiv 4294967296))) 4294967295) + (IntKind.wrap .u64 ((band .u64 a0 4294967295) * (a1.fdiv 4294967296))))).fdiv 4294967296)) KR KR ?_; clear ha a; intro a ha
  refine stepp ha 47 (.int .u64 (IntKind.wrap .u64 ((IntKind.wrap .u64 ((IntKind.wrap .u64 ((a0.fdiv 4294967296) * (a1.fdiv 4294967296))) + ((IntKind.wrap .u64 ((IntKind.wrap .u64 ((a0.fdiv 4294967296) * (band .u64 a1 4294967295))) + ((IntKind.wrap .u64 ((band .u64 a0 4294967295) * (band .u64 a1 4294967295))).fdiv 4294967296))).fdiv 4294967296))) + ((IntKind.wrap .u64 ((band .u64 (IntKind.wrap .u64 ((IntKind.wrap .u64 ((a0.fdiv 4294967296) * (band .u64 a1 4294967295))) + ((IntKind.wrap .u64 ((band .u64 a0 4294967295) * (band .u64 a1 4294967295))).fdiv 4294967296))) 4294967295) + (IntKind.wrap .u64 ((band .u64 a0 4294967295) * (a1.fdiv 4294967296))))).fdiv 4294967296)))) KR KR ?_; clear ha a; intro a ha
  refine stepp ha 4 (.int .u64 (IntKind.wrap .u64 ((IntKind.wrap .u64 ((IntKind.wrap .u64 ((a0.fdiv 4294967296) * (a1.fdiv 4294967296))) + ((IntKind.wrap .u64 ((IntKind.wrap .u64 ((a0.fdiv 4294967296) * (band .u64 a1 4294967295))) + ((IntKind.wrap .u64 ((band .u64 a0 4294967295) * (band .u64 a1 4294967295))).fdiv 4294967296))).fdiv 4294967296))) + ((IntKind.wrap .u64 ((band .u64 (IntKind.wrap .u64 ((IntKind.wrap .u64 ((a0.fdiv 4294967296) * (band .u64 a1 4294967295))) + ((IntKind.wrap .u64 ((band .u64 a0 4294967295) * (band .u64 a1 4294967295))).fdiv 4294967296))) 4294967295) + (IntKind.wrap .u64 ((band .u64 a0 4294967295) * (a1.fdiv 4294967296))))).fdiv 4294967296)))) KR KR ?_; clear ha a; intro a ha
  refine endl ?_
  refine thenN (hK741 _ _ ?_); clear hK741
  refine wp_seq_k (fun K742 hK743 => ?_)
  refine wp_region_lit ?_
  refine stepp ha 48 (.int .u64 a0) KR KR ?_; clear ha a; intro a ha
  refine stepp ha 49 (.int .u64 a1) KR KR ?_; clear ha a; intro a ha
  refine stepp ha 50 (.int .u64 (IntKind.wrap .u64 (a0 * a1))) KR KR ?_; clear ha a; intro a ha
  refine stepp ha 5 (.int .u64 (IntKind.wrap .u64 (a0 * a1))) KR KR ?_; clear ha a; intro a ha
  refine endl ?_
  refine thenN (hK743 _ _ ?_); clear hK743
  refine wp_ret ?_
  obtain rfl := Option.some.inj h
  exact finv ha _ _ rfl (.tmp (v := .int .u64 (IntKind.wrap .u64 ((IntKind.wrap .u64 ((IntKind.wrap .u64 ((a0.fdiv 4294967296) * (a1.fdiv 4294967296))) + ((IntKind.wrap .u64 ((IntKind.wrap .u64 ((a0.fdiv 4294967296) * (band .u64 a1 4294967295))) + ((IntKind.wrap .u64 ((band .u64 a0 4294967295) * (band .u64 a1 4294967295))).fdiv 4294967296))).fdiv 4294967296))) + ((IntKind.wrap .u64 ((band .u64 (IntKind.wrap .u64 ((IntKind.wrap .u64 ((a0.fdiv 4294967296) * (band .u64 a1 4294967295))) + ((IntKind.wrap .u64 ((band .u64 a0 4294967295) * (band .u64 a1 4294967295))).fdiv 4294967296))) 4294967295) + (IntKind.wrap .u64 ((band .u64 a0 4294967295) * (a1.fdiv 4294967296))))).fdiv 4294967296)))) KR (.tmp (v := .int .u64 (IntKind.wrap .u64 (a0 * a1))) KR .nil)) (.tuple #[.int .u64 (IntKind.wrap .u64 ((IntKind.wrap .u64 ((IntKind.wrap .u64 ((a0.fdiv 4294967296) * (a1.fdiv 4294967296))) + ((IntKind.wrap .u64 ((IntKind.wrap .u64 ((a0.fdiv 4294967296) * (band .u64 a1 4294967295))) + ((IntKind.wrap .u64 ((band .u64 a0 4294967295) * (band .u64 a1 4294967295))).fdiv 4294967296))).fdiv 4294967296))) + ((IntKind.wrap .u64 ((band .u64 (IntKind.wrap .u64 ((IntKind.wrap .u64 ((a0.fdiv 4294967296) * (band .u64 a1 4294967295))) + ((IntKind.wrap .u64 ((band .u64 a0 4294967295) * (band .u64 a1 4294967295))).fdiv 4294967296))) 4294967295) + (IntKind.wrap .u64 ((band .u64 a0 4294967295) * (a1.fdiv 4294967296))))).fdiv 4294967296))), .int .u64 (IntKind.wrap .u64 (a0 * a1))]) rfl ⟨rfl, HW.pick [] [] (by decide) (by decide) rfl KR⟩
/-! ### math/bits.Mul: function 183 -/
def bits_Mul.f (a0 : Int) (a1 : Int) : Option (Int × Int) :=
  (bits_Mul64.f a0 a1).bind fun t750 => (some (t750.1, t750.2))
set_option maxRecDepth 100000 in
set_option maxHeartbeats 4000000 in
theorem bits_Mul.calls (a0 : Int) (a1 : Int)  (r : Int × Int) (w : World)  (h : bits_Mul.f a0 a1 = some r) :
    Calls Tryz.prog 183 #[.int .u64 a0, .int .u64 a1] w (fun e W' => e = .returned (.tuple #[.int .u64 r.1, .int .u64 r.2]) ∧ Wd w W' [] [] ) := by
  refine sxstart (n := 30) (l := [(0, .int .u64 a0), (1, .int .u64 a1)]) Tryz.func183 rfl rfl (Nat.le_of_ble_eq_true KR) (subsA_cons rfl (subsA_cons rfl (subsA_nil _))) ?_
  intro a ha
  have HW := Wd.refl w
  unfold bits_Mul.f at h
  refine wp_seq_k (fun K744 hK745 => ?_)
  refine wp_region_lit ?_
  refine stepp ha 4 (.int .u64 0) KR KR ?_; clear ha a; intro a ha
  refine stepp ha 5 (.int .u64 0) KR KR ?_; clear ha a; intro a ha
  refine endl ?_
  refine thenN (hK745 _ _ ?_); clear hK745
  refine wp_seq_k (fun K746 hK747 => ?_)
  refine condF ha KR KR (t := false) (rfl) ?_
  refine wp_skip ?_
  refine thenN (hK747 _ _ ?_); clear hK747
  refine wp_seq_k (fun K748 hK749 => ?_)
  refine wp_region_lit ?_
  refine stepp ha 23 (.int .u64 a0) KR KR ?_; clear ha a; intro a ha
  refine stepp ha 24 (.int .u64 a1) KR KR ?_; clear ha a; intro a ha
  obtain ⟨t750, ht751, h_⟩ := bind_some' h; clear h; have h := h_; clear h_
  refine stepc ha 25 KR KR (bits_Mul64.calls a0 a1 t750 _ ht751) ?_; clear ha a; rintro e W752 ⟨rfl, HX753⟩
  refine ⟨_, rfl, ?_⟩; intro a ha; replace HW := HW.callw HX753; clear HX753
  refine stepp ha 22 (.tuple #[.int .u64 t750.1, .int .u64 t750.2]) KR KR ?_; clear ha a; intro a ha
  refine stepp ha 26 (.int .u64 t750.1) KR KR ?_; clear ha a; intro a ha
  refine stepp ha 27 (.int .u64 t750.2) KR KR ?_; clear ha a; intro a ha
  refine stepp ha 8 (.int .u64 t750.1) KR KR ?_; clear ha a; intro a ha
  refine stepp ha 9 (.int .u64 t750.2) KR KR ?_; clear ha a; intro a ha
  refine endl ?_
  refine thenN (hK749 _ _ ?_); clear hK749
  refine wp_seq_k (fun K754 hK755 => ?_)
  refine wp_region_lit ?_
  refine stepp ha 28 (.int .u64 t750.1) KR KR ?_; clear ha a; intro a ha
  refine stepp ha 29 (.int .u64 t750.2) KR KR ?_; clear ha a; intro a ha
  refine stepp ha 4 (.int .u64 t750.1) KR KR ?_; clear ha a; intro a ha
  refine stepp ha 5 (.int .u64 t750.2) KR KR ?_; clear ha a; intro a ha
  refine endl ?_
  refine thenN (hK755 _ _ ?_); clear hK755
  refine wp_ret ?_
  obtain rfl := Option.some.inj h
  exact finv ha _ _ rfl (.tmp (v := .int .u64 t750.1) KR (.tmp (v := .int .u64 t750.2) KR .nil)) (.tuple #[.int .u64 t750.1, .int .u64 t750.2]) rfl ⟨rfl, HW.pick [] [] (by decide) (by decide) rfl KR⟩
/-! ### internal/stringslite.HasPrefix: function 243 -/
def stringslite_HasPrefix.f (a0 : ByteArray) (a1 : ByteArray) : Option Bool :=
  if (a0.size : Int) ≥ (a1.size : Int) then (asrt (0 ≤ (a1.size : Int)) (asrt ((a1.size : Int) ≤ (a0.size : Int)) (some ((a0.extract 0 ((a1.size : Int) : Int).toNat).toList == a1.toList)))) else (some false)
set_option maxRecDepth 100000 in
set_option maxHeartbeats 4000000 in
theorem stringslite_HasPrefix.calls (a0 : ByteArray) (a1 : ByteArray)  (r : Bool) (w : World)  (h : stringslite_HasPrefix.f a0 a1 = some r) :
    Calls Tryz.prog 243 #[.string a0, .string a1] w (fun e W' => e = .returned (.bool r) ∧ Wd w W' [] [] ) := by
  refine sxstart (n := 18) (l := [(0, .string a0), (1, .string a1)]) Tryz.func243 rfl rfl (Nat.le_of_ble_eq_true KR) (subsA_cons rfl (subsA_cons rfl (subsA_nil _))) ?_
  intro a ha
  have HW := Wd.refl w
  unfold stringslite_HasPrefix.f at h
  refine wp_seq_k (fun K756 hK757 => ?_)
  refine wp_region_lit ?_
  refine stepp ha 4 (.bool false) KR KR ?_; clear ha a; intro a ha
  refine endl ?_
  refine thenN (hK757 _ _ ?_); clear hK757
  refine wp_seq_k (fun K758 hK759 => ?_)
  refine wp_region_lit ?_
  refine stepp ha 5 (.string a0) KR KR ?_; clear ha a; intro a ha
  refine stepp ha 6 (.int .i64 (a0.size : Int)) KR KR ?_; clear ha a; intro a ha
  refine stepp ha 7 (.string a1) KR KR ?_; clear ha a; intro a ha
  refine stepp ha 8 (.int .i64 (a1.size : Int)) KR KR ?_; clear ha a; intro a ha
  refine stepp ha 9 (.bool (decide ((a0.size : Int) ≥ (a1.size : Int)))) KR KR ?_; clear ha a; intro a ha
  refine stepp ha 10 (.bool (decide ((a0.size : Int) ≥ (a1.size : Int)))) KR KR ?_; clear ha a; intro a ha
  by_cases hp760 : (a0.size : Int) ≥ (a1.size : Int)
  · skip
    replace h := ite_pos' h hp760
    replace ha := ha.bool 10 KR (decide_eq_true hp760)
    refine stepp ha 11 (.string a0) KR KR ?_; clear ha a; intro a ha
    refine stepp ha 12 (.string a1) KR KR ?_; clear ha a; intro a ha
    refine stepp ha 13 (.int .i64 (a1.size : Int)) KR KR ?_; clear ha a; intro a ha
    obtain ⟨hA761, h_⟩ := asrt_some h; clear h; have h := h_; clear h_
    obtain ⟨hA762, h_⟩ := asrt_some h; clear h; have h := h_; clear h_
    refine stepssh ha 14 9 (.tmp 11) (.tmp 13) a0 .i64 (a1.size : Int) rfl KR KR KR hA761 (show ((a1.size : Int) : Int) ≤ ((a0).size : Int) from hA762) KR ?_; clear ha a; intro a ha
    refine stepp ha 15 (.string a1) KR KR ?_; clear ha a; intro a ha
    refine stepp ha 16 (.bool ((a0.extract 0 ((a1.size : Int) : Int).toNat).toList == a1.toList)) KR KR ?_; clear ha a; intro a ha
    refine stepp ha 17 (.bool ((a0.extract 0 ((a1.size : Int) : Int).toNat).toList == a1.toList)) KR KR ?_; clear ha a; intro a ha
    refine stepp ha 4 (.bool ((a0.extract 0 ((a1.size : Int) : Int).toNat).toList == a1.toList)) KR KR ?_; clear ha a; intro a ha
    refine endl ?_
    refine thenN (hK759 _ _ ?_); clear hK759
    refine wp_ret ?_
    obtain rfl := Option.some.inj h
    exact finv ha _ _ rfl (.tmp (v := .bool ((a0.extract 0 ((a1.size : Int) : Int).toNat).toList == a1.toList)) KR .nil) (.bool ((a0.extract 0 ((a1.size : Int) : Int).toNat).toList == a1.toList)) rfl ⟨rfl, HW.pick [] [] (by decide) (by decide) rfl KR⟩
  · skip
    replace h := ite_neg' h hp760
    replace ha := ha.bool 10 KR (decide_eq_false hp760)
    refine stepo ha 11 KR ?_; clear ha a; intro a ha
    refine stepo ha 12 KR ?_; clear ha a; intro a ha
    refine stepo ha 13 KR ?_; clear ha a; intro a ha
    refine stepo ha 14 KR ?_; clear ha a; intro a ha
    refine stepo ha 15 KR ?_; clear ha a; intro a ha
    refine stepo ha 16 KR ?_; clear ha a; intro a ha
    refine stepp ha 17 (.bool false) KR KR ?_; clear ha a; intro a ha
    refine stepp ha 4 (.bool false) KR KR ?_; clear ha a; intro a ha
    refine endl ?_
    refine thenN (hK759 _ _ ?_); clear hK759
    refine wp_ret ?_
    obtain rfl := Option.some.inj h
    exact finv ha _ _ rfl (.tmp (v := .bool false) KR .nil) (.bool false) rfl ⟨rfl, HW.pick [] [] (by decide) (by decide) rfl KR⟩
/-! ### strings.HasPrefix: function 184, by the library's contract -/
def strings_HasPrefix.f (a0 : ByteArray) (a1 : ByteArray) : Option Bool :=
  some (Lib.hasPrefix a0.data.toList a1.data.toList)
theorem strings_HasPrefix.calls (a0 : ByteArray) (a1 : ByteArray)  (r : Bool) (w : World) (h : strings_HasPrefix.f a0 a1 = some r) :
    Calls Tryz.prog 184 #[.string a0, .string a1] w (fun e W' => e = .returned (.bool r) ∧ Wd w W' [] []) := by
  obtain rfl := Option.some.inj h
  exact (Tryz.strings_HasPrefix a0 a1 w).mono fun e W' ⟨he, hb⟩ => ⟨he, hb ▸ Wd.refl w⟩
/-! ### strings.Repeat: function 125, by the library's contract -/
def strings_Repeat.f (a0 : ByteArray) (a1 : Int) : Option ByteArray :=
  asrt (0 ≤ a1) (asrt (a1 ≤ 9223372036854775807) (asrt (a0.size * a1.toNat ≤ 140737488355328) (some ⟨(Lib.repeatL a0.data.toList a1.toNat).toArray⟩)))
theorem strings_Repeat.calls (a0 : ByteArray) (a1 : Int)  (r : ByteArray) (w : World) (h : strings_Repeat.f a0 a1 = some r) :
    Calls Tryz.prog 125 #[.string a0, .int .i64 a1] w (fun e W' => e = .returned (.string r) ∧ Wd w W' [] []) := by
  unfold strings_Repeat.f at h
  obtain ⟨h0, h⟩ := asrt_some h
  obtain ⟨h1, h⟩ := asrt_some h
  obtain ⟨h2, h⟩ := asrt_some h
  obtain rfl := Option.some.inj h
  obtain ⟨c, rfl⟩ := Int.eq_ofNat_of_zero_le h0
  exact (Tryz.strings_Repeat a0 c w (by omega) h2).mono fun e W' ⟨he, hb⟩ => ⟨he, (Wd.refl w).call hb⟩
end Go.Proofs.YteahodjiihjmnaaGreatDoor.F
