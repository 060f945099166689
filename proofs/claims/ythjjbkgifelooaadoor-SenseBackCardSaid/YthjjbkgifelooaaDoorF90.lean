/- headgate/fields.shifts, headgate/fields.put[uint64]: plain functions, and that the calls come to what they say. No condition. -/
import Derived.Test.YthjjbkgifelooaaDoorFT
namespace Go.Proofs.YthjjbkgifelooaaDoor.F
open Go Go.RowKit Go.Proofs.YthjjbkgifelooaaDoor.X
set_option linter.unusedVariables false
set_option linter.unusedSimpArgs false
/-! ### headgate/fields.shifts: function 90 -/
def fields_shifts.b0 (K : Nat) (a0 : Int) (a1 : Bool) (again270 : (List Int) → Int → Option (List Int)) (x271 : List Int) (x275 : Int) : Option (List Int) :=
  if x275 < a0 then (if a1 = true then (asrt (x271.length + ([IntKind.wrap .i64 (8 * (IntKind.wrap .i64 ((IntKind.wrap .i64 (a0 - 1)) - x275)))] : List Int).length ≤ 17592186044416) (again270 (x271 ++ ([IntKind.wrap .i64 (8 * (IntKind.wrap .i64 ((IntKind.wrap .i64 (a0 - 1)) - x275)))] : List Int)) (IntKind.wrap .i64 (x275 + 1)))) else (asrt (x271.length + ([IntKind.wrap .i64 (8 * x275)] : List Int).length ≤ 17592186044416) (again270 (x271 ++ ([IntKind.wrap .i64 (8 * x275)] : List Int)) (IntKind.wrap .i64 (x275 + 1))))) else (some x271)
def fields_shifts.l0 (K : Nat) (a0 : Int) (a1 : Bool) : Nat → (List Int) → Int → Option (List Int)
  | 0, _, _ => none
  | k_ + 1, x271, x275 => fields_shifts.b0 K a0 a1 (fields_shifts.l0 K a0 a1 k_) x271 x275
def fields_shifts.f (K : Nat) (a0 : Int) (a1 : Bool) : Option (List Int) :=
  fields_shifts.l0 K a0 a1 K ([] : List Int) 0
set_option maxRecDepth 100000 in
set_option maxHeartbeats 4000000 in
theorem fields_shifts.calls (K : Nat) (a0 : Int) (a1 : Bool)  (r : List Int) (w : World)  (h : fields_shifts.f K a0 a1 = some r) :
    Calls Tryd.prog 90 #[.int .i64 a0, .bool a1] w (fun e W' => ∃ A_0 c_0, e = .returned (.slice A_0 r.length c_0) ∧ Wd w W' [] [⟨3, 1, .slice A_0 r.length c_0, r.length, encs (encI .i64) r⟩] ) := by
  refine sxstart (n := 27) (l := [(0, .int .i64 a0), (1, .bool a1)]) Tryd.func90 rfl rfl (Nat.le_of_ble_eq_true KR) (subsA_cons rfl (subsA_cons rfl (subsA_nil _))) ?_
  intro a ha
  have HW := Wd.refl w
  unfold fields_shifts.f at h
  refine wp_seq_k (fun K193 hK194 => ?_)
  refine wp_region_lit ?_
  refine stepp ha 4 (.slice none 0 0) KR KR ?_; clear ha a; intro a ha
  refine endl ?_
  refine thenN (hK194 _ _ ?_); clear hK194
  refine wp_seq_k (fun K195 hK196 => ?_)
  refine wp_region_lit ?_
  refine stepp ha 5 (.slice none 0 0) KR KR ?_; clear ha a; intro a ha
  refine endl ?_
  refine thenN (hK196 _ _ ?_); clear hK196
  refine wp_seq_k (fun K197 hK198 => ?_)
  refine wp_seq_k (fun K199 hK200 => ?_)
  refine wp_region_lit ?_
  refine stepp ha 7 (.int .i64 a0) KR KR ?_; clear ha a; intro a ha
  refine stepp ha 8 (.int .i64 0) KR KR ?_; clear ha a; intro a ha
  refine endl ?_
  refine thenN (hK200 _ _ ?_); clear hK200
  refine wp_block ?_
  refine loopk (fun k => fun a W276 => ∃ (x271 : List Int), ∃ A272, ∃ c273, ∃ (x275 : Int), fields_shifts.l0 K a0 a1 k x271 x275 = some r ∧ Has 27 [(0, .int .i64 a0), (1, .bool a1), (5, .slice A272 x271.length c273), (7, .int .i64 a0), (8, .int .i64 x275)] a ∧ Wd w W276 [] [⟨3, 1, .slice A272 x271.length c273, x271.length, encs (encI .i64) x271⟩]) K ?_ ?_
  · skip
    replace HW := HW.nilo 3 1
    exact ⟨([] : List Int), none, 0, 0, h, ha.sub (subs_cons KR (subs_cons KR (subs_cons KR (subs_cons KR (subs_cons KR (subs_nil _)))))), HW.pick [] [0] (by decide) (by decide) KR KR⟩
  · skip
    intro k a W276 hI
    obtain ⟨x271, A272, c273, x275, h, ha, HW⟩ := hI
    cases k with
    | zero => exact (none_some (show none = some r from h)).elim
    | succ k277 =>
      replace h : fields_shifts.b0 K a0 a1 (fields_shifts.l0 K a0 a1 k277) x271 x275 = some r := h
      obtain ⟨again270, hag278⟩ : ∃ g_, g_ = fields_shifts.l0 K a0 a1 k277 := ⟨_, rfl⟩
      rw [← hag278] at h
      unfold fields_shifts.b0 at h
      refine wp_seq_k (fun K279 hK280 => ?_)
      refine wp_region_lit ?_
      refine stepp ha 9 (.bool (decide (x275 < a0))) KR KR ?_; clear ha a; intro a ha
      refine endl ?_
      refine thenN (hK280 _ _ ?_); clear hK280
      refine wp_seq_k (fun K281 hK282 => ?_)
      by_cases hp283 : x275 < a0
      · skip
        replace h := ite_pos' h hp283
        refine condT ha KR KR (t := decide (x275 < a0)) (decide_eq_true hp283) ?_
        refine wp_skip ?_
        refine thenN (hK282 _ _ ?_); clear hK282
        refine wp_seq_k (fun K284 hK285 => ?_)
        refine wp_block ?_
        refine wp_seq_k (fun K286 hK287 => ?_)
        refine wp_region_lit ?_
        refine stepp ha 10 (.int .i64 x275) KR KR ?_; clear ha a; intro a ha
        refine stepp ha 6 (.int .i64 x275) KR KR ?_; clear ha a; intro a ha
        refine endl ?_
        refine thenN (hK287 _ _ ?_); clear hK287
        refine wp_seq_k (fun K288 hK289 => ?_)
        refine wp_region_lit ?_
        refine stepp ha 11 (.bool a1) KR KR ?_; clear ha a; intro a ha
        refine endl ?_
        refine thenN (hK289 _ _ ?_); clear hK289
        by_cases hp290 : a1 = true
        · skip
          replace h := ite_pos' h hp290
          refine condT ha KR KR (t := a1) (hp290) ?_
          refine wp_region_lit ?_
          refine stepp ha 12 (.slice A272 x271.length c273) KR KR ?_; clear ha a; intro a ha
          refine stepp ha 13 (.int .i64 a0) KR KR ?_; clear ha a; intro a ha
          refine stepp ha 14 (.int .i64 (IntKind.wrap .i64 (a0 - 1))) KR KR ?_; clear ha a; intro a ha
          refine stepp ha 15 (.int .i64 x275) KR KR ?_; clear ha a; intro a ha
          refine stepp ha 16 (.int .i64 (IntKind.wrap .i64 ((IntKind.wrap .i64 (a0 - 1)) - x275))) KR KR ?_; clear ha a; intro a ha
          refine stepp ha 17 (.int .i64 (IntKind.wrap .i64 (8 * (IntKind.wrap .i64 ((IntKind.wrap .i64 (a0 - 1)) - x275))))) KR KR ?_; clear ha a; intro a ha
          refine stepbs ha HW 18 3 1 1 #[.int .i64 (IntKind.wrap .i64 (8 * (IntKind.wrap .i64 ((IntKind.wrap .i64 (a0 - 1)) - x275))))] [.int .i64 (IntKind.wrap .i64 (8 * (IntKind.wrap .i64 ((IntKind.wrap .i64 (a0 - 1)) - x275))))] (by decide) KR KR KR KR ?_; clear ha HW a; intro b291 a W292 HW ha
          replace HW : Wd w W292 [] [⟨3, 1, .slice (some ⟨b291, 0, none⟩) ([IntKind.wrap .i64 (8 * (IntKind.wrap .i64 ((IntKind.wrap .i64 (a0 - 1)) - x275)))] : List Int).length 1, ([IntKind.wrap .i64 (8 * (IntKind.wrap .i64 ((IntKind.wrap .i64 (a0 - 1)) - x275)))] : List Int).length, encs (encI .i64) ([IntKind.wrap .i64 (8 * (IntKind.wrap .i64 ((IntKind.wrap .i64 (a0 - 1)) - x275)))] : List Int)⟩, ⟨3, 1, .slice A272 x271.length c273, x271.length, encs (encI .i64) x271⟩] := HW
          replace ha := ha.turn 18 (v := .slice (some ⟨b291, 0, none⟩) ([IntKind.wrap .i64 (8 * (IntKind.wrap .i64 ((IntKind.wrap .i64 (a0 - 1)) - x275)))] : List Int).length 1) KR rfl
          obtain ⟨hA294, h_⟩ := asrt_some h; clear h; have h := h_; clear h_
          refine stepape (encI .i64) ha HW 19 1 143 3 (.tmp 12) (.tmp 18) (.int .i64 0) 1 8 (.slice A272 x271.length c273) x271 (.slice (some ⟨b291, 0, none⟩) ([IntKind.wrap .i64 (8 * (IntKind.wrap .i64 ((IntKind.wrap .i64 (a0 - 1)) - x275)))] : List Int).length 1) ([IntKind.wrap .i64 (8 * (IntKind.wrap .i64 ((IntKind.wrap .i64 (a0 - 1)) - x275)))] : List Int) KR rfl KR KR (HW.rdo (i := 0) (q := ⟨3, 1, .slice (some ⟨b291, 0, none⟩) ([IntKind.wrap .i64 (8 * (IntKind.wrap .i64 ((IntKind.wrap .i64 (a0 - 1)) - x275)))] : List Int).length 1, ([IntKind.wrap .i64 (8 * (IntKind.wrap .i64 ((IntKind.wrap .i64 (a0 - 1)) - x275)))] : List Int).length, encs (encI .i64) ([IntKind.wrap .i64 (8 * (IntKind.wrap .i64 ((IntKind.wrap .i64 (a0 - 1)) - x275)))] : List Int)⟩) KR) (fun _ => rfl) KR KR KR (by decide) (by have := hA294; unfold maxLen; omega) (by have := hA294; omega) KR ?_; clear ha HW a; intro A295 c296 a W297 HW ha
          refine stepp ha 5 (.slice A295 (x271 ++ ([IntKind.wrap .i64 (8 * (IntKind.wrap .i64 ((IntKind.wrap .i64 (a0 - 1)) - x275)))] : List Int)).length c296) KR KR ?_; clear ha a; intro a ha
          refine endl ?_
          refine blkN ?_
          refine thenN (hK285 _ _ ?_); clear hK285
          refine wp_region_lit ?_
          refine stepp ha 25 (.int .i64 (IntKind.wrap .i64 (x275 + 1))) KR KR ?_; clear ha a; intro a ha
          refine stepp ha 8 (.int .i64 (IntKind.wrap .i64 (x275 + 1))) KR KR ?_; clear ha a; intro a ha
          refine endl ?_
          exact thenN ⟨k277, Nat.lt_succ_self k277, x271 ++ ([IntKind.wrap .i64 (8 * (IntKind.wrap .i64 ((IntKind.wrap .i64 (a0 - 1)) - x275)))] : List Int), A295, c296, IntKind.wrap .i64 (x275 + 1), (by rw [← hag278]; exact h), ha.sub (subs_cons KR (subs_cons KR (subs_cons KR (subs_cons KR (subs_cons KR (subs_nil _)))))), HW.pick [] [1] (by decide) (by decide) KR KR⟩
        · skip
          replace h := ite_neg' h hp290
          refine condF ha KR KR (t := a1) (bool_f hp290) ?_
          refine wp_region_lit ?_
          refine stepp ha 20 (.slice A272 x271.length c273) KR KR ?_; clear ha a; intro a ha
          refine stepp ha 21 (.int .i64 x275) KR KR ?_; clear ha a; intro a ha
          refine stepp ha 22 (.int .i64 (IntKind.wrap .i64 (8 * x275))) KR KR ?_; clear ha a; intro a ha
          refine stepbs ha HW 23 3 1 1 #[.int .i64 (IntKind.wrap .i64 (8 * x275))] [.int .i64 (IntKind.wrap .i64 (8 * x275))] (by decide) KR KR KR KR ?_; clear ha HW a; intro b300 a W301 HW ha
          replace HW : Wd w W301 [] [⟨3, 1, .slice (some ⟨b300, 0, none⟩) ([IntKind.wrap .i64 (8 * x275)] : List Int).length 1, ([IntKind.wrap .i64 (8 * x275)] : List Int).length, encs (encI .i64) ([IntKind.wrap .i64 (8 * x275)] : List Int)⟩, ⟨3, 1, .slice A272 x271.length c273, x271.length, encs (encI .i64) x271⟩] := HW
          replace ha := ha.turn 23 (v := .slice (some ⟨b300, 0, none⟩) ([IntKind.wrap .i64 (8 * x275)] : List Int).length 1) KR rfl
          obtain ⟨hA303, h_⟩ := asrt_some h; clear h; have h := h_; clear h_
          refine stepape (encI .i64) ha HW 24 1 143 3 (.tmp 20) (.tmp 23) (.int .i64 0) 1 8 (.slice A272 x271.length c273) x271 (.slice (some ⟨b300, 0, none⟩) ([IntKind.wrap .i64 (8 * x275)] : List Int).length 1) ([IntKind.wrap .i64 (8 * x275)] : List Int) KR rfl KR KR (HW.rdo (i := 0) (q := ⟨3, 1, .slice (some ⟨b300, 0, none⟩) ([IntKind.wrap .i64 (8 * x275)] : List Int).length 1, ([IntKind.wrap .i64 (8 * x275)] : List Int).length, encs (encI .i64) ([IntKind.wrap .i64 (8 * x275)] : List Int)⟩) KR) (fun _ => rfl) KR KR KR (by decide) (by have := hA303; unfold maxLen; omega) (by have := hA303; omega) KR ?_; clear ha HW a; intro A304 c305 a W306 HW ha
          refine stepp ha 5 (.slice A304 (x271 ++ ([IntKind.wrap .i64 (8 * x275)] : List Int)).length c305) KR KR ?_; clear ha a; intro a ha
          refine endl ?_
          refine blkN ?_
          refine thenN (hK285 _ _ ?_); clear hK285
          refine wp_region_lit ?_
          refine stepp ha 25 (.int .i64 (IntKind.wrap .i64 (x275 + 1))) KR KR ?_; clear ha a; intro a ha
          refine stepp ha 8 (.int .i64 (IntKind.wrap .i64 (x275 + 1))) KR KR ?_; clear ha a; intro a ha
          refine endl ?_
          exact thenN ⟨k277, Nat.lt_succ_self k277, x271 ++ ([IntKind.wrap .i64 (8 * x275)] : List Int), A304, c305, IntKind.wrap .i64 (x275 + 1), (by rw [← hag278]; exact h), ha.sub (subs_cons KR (subs_cons KR (subs_cons KR (subs_cons KR (subs_cons KR (subs_nil _)))))), HW.pick [] [1] (by decide) (by decide) KR KR⟩
      · skip
        replace h := ite_neg' h hp283
        refine condF ha KR KR (t := decide (x275 < a0)) (decide_eq_false hp283) ?_
        refine wp_exit ?_
        refine thenE ?_
        refine thenE ?_
        refine inBlk ?_
        refine thenN (hK198 _ _ ?_); clear hK198
        refine wp_seq_k (fun K309 hK310 => ?_)
        refine wp_region_lit ?_
        refine stepp ha 26 (.slice A272 x271.length c273) KR KR ?_; clear ha a; intro a ha
        refine stepp ha 4 (.slice A272 x271.length c273) KR KR ?_; clear ha a; intro a ha
        refine endl ?_
        refine thenN (hK310 _ _ ?_); clear hK310
        refine wp_ret ?_
        obtain rfl := Option.some.inj h
        exact finv ha _ _ rfl (.tmp (v := .slice A272 x271.length c273) KR .nil) (.slice A272 x271.length c273) rfl ⟨A272, c273, rfl, HW.pick [] [0] (by decide) (by decide) rfl KR⟩
/-! ### headgate/fields.put[uint64]: function 82 -/
def fields_put_uint64.b0 (K : Nat) (a0 : Int) (t329 : List Int) (again390 : (List Int) → Int → Option ByteArray) (x391 : List Int) (x395 : Int) : Option ByteArray :=
  if x395 < (t329.length : Int) then (asrt (0 ≤ x395) (asrt (0 ≤ (rdL (0 : Int) t329 x395)) (asrt (x391.length + ([IntKind.wrap .u8 (sshr .u64 a0 (rdL (0 : Int) t329 x395))] : List Int).length ≤ 140737488355328) (again390 (x391 ++ ([IntKind.wrap .u8 (sshr .u64 a0 (rdL (0 : Int) t329 x395))] : List Int)) (IntKind.wrap .i64 (x395 + 1)))))) else (some (strOfNums x391))
def fields_put_uint64.l0 (K : Nat) (a0 : Int) (t329 : List Int) : Nat → (List Int) → Int → Option ByteArray
  | 0, _, _ => none
  | k_ + 1, x391, x395 => fields_put_uint64.b0 K a0 t329 (fields_put_uint64.l0 K a0 t329 k_) x391 x395
def fields_put_uint64.f (K : Nat) (a0 : Int) (a1 : Int) (a2 : Bool) : Option ByteArray :=
  if a1 < 1 then (some (⟨#[]⟩ : ByteArray)) else (if a1 > 8 then (some (⟨#[]⟩ : ByteArray)) else ((fields_shifts.f K a1 a2).bind fun t329 => (fields_put_uint64.l0 K a0 t329 K ([] : List Int) 0)))
set_option maxRecDepth 100000 in
set_option maxHeartbeats 4000000 in
theorem fields_put_uint64.calls (K : Nat) (a0 : Int) (a1 : Int) (a2 : Bool)  (r : ByteArray) (w : World)  (h : fields_put_uint64.f K a0 a1 a2 = some r) :
    Calls Tryd.prog 82 #[.int .u64 a0, .int .i64 a1, .bool a2] w (fun e W' => e = .returned (.string r) ∧ Wd w W' [] [] ) := by
  refine sxstart (n := 34) (l := [(0, .int .u64 a0), (1, .int .i64 a1), (2, .bool a2)]) Tryd.func82 rfl rfl (Nat.le_of_ble_eq_true KR) (subsA_cons rfl (subsA_cons rfl (subsA_cons rfl (subsA_nil _)))) ?_
  intro a ha
  have HW := Wd.refl w
  unfold fields_put_uint64.f at h
  refine wp_seq_k (fun K311 hK312 => ?_)
  refine wp_region_lit ?_
  refine stepp ha 6 (.string (⟨#[]⟩ : ByteArray)) KR KR ?_; clear ha a; intro a ha
  refine endl ?_
  refine thenN (hK312 _ _ ?_); clear hK312
  refine wp_seq_k (fun K313 hK314 => ?_)
  refine wp_seq_k (fun K315 hK316 => ?_)
  refine wp_region_lit ?_
  refine stepp ha 10 (.int .i64 a1) KR KR ?_; clear ha a; intro a ha
  refine stepp ha 11 (.bool (decide (a1 < 1))) KR KR ?_; clear ha a; intro a ha
  refine stepp ha 12 (.bool (decide (a1 < 1))) KR KR ?_; clear ha a; intro a ha
  by_cases hp317 : a1 < 1
  · skip
    replace h := ite_pos' h hp317
    replace ha := ha.bool 12 KR (decide_eq_true hp317)
    refine stepo ha 13 KR ?_; clear ha a; intro a ha
    refine stepo ha 14 KR ?_; clear ha a; intro a ha
    refine stepp ha 15 (.bool true) KR KR ?_; clear ha a; intro a ha
    refine endl ?_
    refine thenN (hK316 _ _ ?_); clear hK316
    refine condT ha KR KR (t := true) (rfl) ?_
    refine wp_seq_k (fun K318 hK319 => ?_)
    refine wp_region_lit ?_
    refine stepp ha 6 (.string (⟨#[]⟩ : ByteArray)) KR KR ?_; clear ha a; intro a ha
    refine endl ?_
    refine thenN (hK319 _ _ ?_); clear hK319
    refine wp_ret ?_
    refine thenR ?_
    obtain rfl := Option.some.inj h
    exact finv ha _ _ rfl (.tmp (v := .string (⟨#[]⟩ : ByteArray)) KR .nil) (.string (⟨#[]⟩ : ByteArray)) rfl ⟨rfl, HW.pick [] [] (by decide) (by decide) rfl KR⟩
  · skip
    replace h := ite_neg' h hp317
    replace ha := ha.bool 12 KR (decide_eq_false hp317)
    refine stepp ha 13 (.int .i64 a1) KR KR ?_; clear ha a; intro a ha
    refine stepp ha 14 (.bool (decide (a1 > 8))) KR KR ?_; clear ha a; intro a ha
    refine stepp ha 15 (.bool (decide (a1 > 8))) KR KR ?_; clear ha a; intro a ha
    refine endl ?_
    refine thenN (hK316 _ _ ?_); clear hK316
    by_cases hp320 : a1 > 8
    · skip
      replace h := ite_pos' h hp320
      refine condT ha KR KR (t := decide (a1 > 8)) (decide_eq_true hp320) ?_
      refine wp_seq_k (fun K321 hK322 => ?_)
      refine wp_region_lit ?_
      refine stepp ha 6 (.string (⟨#[]⟩ : ByteArray)) KR KR ?_; clear ha a; intro a ha
      refine endl ?_
      refine thenN (hK322 _ _ ?_); clear hK322
      refine wp_ret ?_
      refine thenR ?_
      obtain rfl := Option.some.inj h
      exact finv ha _ _ rfl (.tmp (v := .string (⟨#[]⟩ : ByteArray)) KR .nil) (.string (⟨#[]⟩ : ByteArray)) rfl ⟨rfl, HW.pick [] [] (by decide) (by decide) rfl KR⟩
    · skip
      replace h := ite_neg' h hp320
      refine condF ha KR KR (t := decide (a1 > 8)) (decide_eq_false hp320) ?_
      refine wp_skip ?_
      refine thenN (hK314 _ _ ?_); clear hK314
      refine wp_seq_k (fun K323 hK324 => ?_)
      refine wp_region_lit ?_
      refine stepp ha 7 (.slice none 0 0) KR KR ?_; clear ha a; intro a ha
      refine endl ?_
      refine thenN (hK324 _ _ ?_); clear hK324
      refine wp_seq_k (fun K325 hK326 => ?_)
      refine wp_seq_k (fun K327 hK328 => ?_)
      refine wp_region_lit ?_
      refine stepp ha 16 (.int .i64 a1) KR KR ?_; clear ha a; intro a ha
      refine stepp ha 17 (.bool a2) KR KR ?_; clear ha a; intro a ha
      obtain ⟨t329, ht330, h_⟩ := bind_some' h; clear h; have h := h_; clear h_
      refine stepc ha 18 KR KR (fields_shifts.calls K a1 a2 t329 _ ht330) ?_; clear ha a; rintro e W334 ⟨A331, c332, rfl, HX335⟩
      refine ⟨_, rfl, ?_⟩; intro a ha; replace HW := HW.callw HX335; clear HX335
      refine stepp ha 19 (.int .i64 (t329.length : Int)) KR KR ?_; clear ha a; intro a ha
      refine stepp ha 20 (.int .i64 0) KR KR ?_; clear ha a; intro a ha
      refine endl ?_
      refine thenN (hK328 _ _ ?_); clear hK328
      refine wp_block ?_
      refine loopk (fun k => fun a W396 => ∃ (x391 : List Int), ∃ A392, ∃ c393, ∃ (x395 : Int), fields_put_uint64.l0 K a0 t329 k x391 x395 = some r ∧ Has 34 [(0, .int .u64 a0), (7, .slice A392 x391.length c393), (18, .slice A331 t329.length c332), (19, .int .i64 (t329.length : Int)), (20, .int .i64 x395)] a ∧ Wd w W396 [] [⟨5, 1, .slice A392 x391.length c393, x391.length, encs (encI .u8) x391⟩, ⟨3, 1, .slice A331 t329.length c332, t329.length, encs (encI .i64) t329⟩]) K ?_ ?_
      · skip
        replace HW := HW.nilo 5 1
        exact ⟨([] : List Int), none, 0, 0, h, ha.sub (subs_cons KR (subs_cons KR (subs_cons KR (subs_cons KR (subs_cons KR (subs_nil _)))))), HW.pick [] [0, 1] (by decide) (by decide) KR KR⟩
      · skip
        intro k a W396 hI
        obtain ⟨x391, A392, c393, x395, h, ha, HW⟩ := hI
        cases k with
        | zero => exact (none_some (show none = some r from h)).elim
        | succ k397 =>
          replace h : fields_put_uint64.b0 K a0 t329 (fields_put_uint64.l0 K a0 t329 k397) x391 x395 = some r := h
          obtain ⟨again390, hag398⟩ : ∃ g_, g_ = fields_put_uint64.l0 K a0 t329 k397 := ⟨_, rfl⟩
          rw [← hag398] at h
          unfold fields_put_uint64.b0 at h
          refine wp_seq_k (fun K399 hK400 => ?_)
          refine wp_region_lit ?_
          refine stepp ha 21 (.bool (decide (x395 < (t329.length : Int)))) KR KR ?_; clear ha a; intro a ha
          refine endl ?_
          refine thenN (hK400 _ _ ?_); clear hK400
          refine wp_seq_k (fun K401 hK402 => ?_)
          by_cases hp403 : x395 < (t329.length : Int)
          · skip
            replace h := ite_pos' h hp403
            refine condT ha KR KR (t := decide (x395 < (t329.length : Int))) (decide_eq_true hp403) ?_
            refine wp_skip ?_
            refine thenN (hK402 _ _ ?_); clear hK402
            refine wp_seq_k (fun K404 hK405 => ?_)
            refine wp_block ?_
            refine wp_seq_k (fun K406 hK407 => ?_)
            refine wp_region_lit ?_
            obtain ⟨hA408, h_⟩ := asrt_some h; clear h; have h := h_; clear h_
            refine stepie (encI .i64) (0 : Int) ha 22 (fun _ => rfl) (v := .slice A331 t329.length c332) (xs := t329) (HW.rdo (i := 1) (q := ⟨3, 1, .slice A331 t329.length c332, t329.length, encs (encI .i64) t329⟩) KR) 143 3 (.tmp 18) (.tmp 20) .i64 x395 rfl KR KR KR KR hA408 (show (x395 : Int) < ((t329).length : Int) from hp403) KR ?_; clear ha a; intro b409 off410 a hC411 ha
            refine stepl ha 23 hC411 3 0 (.tmp 22) (.int .i64 (rdL (0 : Int) t329 x395)) rfl KR KR KR ?_; clear ha a; intro a ha
            refine stepp ha 9 (.int .i64 (rdL (0 : Int) t329 x395)) KR KR ?_; clear ha a; intro a ha
            refine endl ?_
            refine thenN (hK407 _ _ ?_); clear hK407
            refine wp_region_lit ?_
            refine stepp ha 24 (.slice A392 x391.length c393) KR KR ?_; clear ha a; intro a ha
            refine stepp ha 25 (.int .u64 a0) KR KR ?_; clear ha a; intro a ha
            refine stepp ha 26 (.int .i64 (rdL (0 : Int) t329 x395)) KR KR ?_; clear ha a; intro a ha
            obtain ⟨hA412, h_⟩ := asrt_some h; clear h; have h := h_; clear h_
            refine stepshr ha 27 42 3 (.tmp 25) (.tmp 26) .u64 .i64 a0 (rdL (0 : Int) t329 x395) rfl KR KR hA412 KR ?_; clear ha a; intro a ha
            refine stepp ha 28 (.int .u8 (IntKind.wrap .u8 (sshr .u64 a0 (rdL (0 : Int) t329 x395)))) KR KR ?_; clear ha a; intro a ha
            refine stepbs ha HW 29 5 1 1 #[.int .u8 (IntKind.wrap .u8 (sshr .u64 a0 (rdL (0 : Int) t329 x395)))] [.int .u8 (IntKind.wrap .u8 (sshr .u64 a0 (rdL (0 : Int) t329 x395)))] (by decide) KR KR KR KR ?_; clear ha HW a; intro b413 a W414 HW ha
            replace HW : Wd w W414 [] [⟨5, 1, .slice (some ⟨b413, 0, none⟩) ([IntKind.wrap .u8 (sshr .u64 a0 (rdL (0 : Int) t329 x395))] : List Int).length 1, ([IntKind.wrap .u8 (sshr .u64 a0 (rdL (0 : Int) t329 x395))] : List Int).length, encs (encI .u8) ([IntKind.wrap .u8 (sshr .u64 a0 (rdL (0 : Int) t329 x395))] : List Int)⟩, ⟨5, 1, .slice A392 x391.length c393, x391.length, encs (encI .u8) x391⟩, ⟨3, 1, .slice A331 t329.length c332, t329.length, encs (encI .i64) t329⟩] := HW
            replace ha := ha.turn 29 (v := .slice (some ⟨b413, 0, none⟩) ([IntKind.wrap .u8 (sshr .u64 a0 (rdL (0 : Int) t329 x395))] : List Int).length 1) KR rfl
            obtain ⟨hA416, h_⟩ := asrt_some h; clear h; have h := h_; clear h_
            refine stepape (encI .u8) ha HW 30 1 97 5 (.tmp 24) (.tmp 29) (.int .u8 0) 1 1 (.slice A392 x391.length c393) x391 (.slice (some ⟨b413, 0, none⟩) ([IntKind.wrap .u8 (sshr .u64 a0 (rdL (0 : Int) t329 x395))] : List Int).length 1) ([IntKind.wrap .u8 (sshr .u64 a0 (rdL (0 : Int) t329 x395))] : List Int) KR rfl KR KR (HW.rdo (i := 0) (q := ⟨5, 1, .slice (some ⟨b413, 0, none⟩) ([IntKind.wrap .u8 (sshr .u64 a0 (rdL (0 : Int) t329 x395))] : List Int).length 1, ([IntKind.wrap .u8 (sshr .u64 a0 (rdL (0 : Int) t329 x395))] : List Int).length, encs (encI .u8) ([IntKind.wrap .u8 (sshr .u64 a0 (rdL (0 : Int) t329 x395))] : List Int)⟩) KR) (fun _ => rfl) KR KR KR (by decide) (by have := hA416; unfold maxLen; omega) (by have := hA416; omega) KR ?_; clear ha HW a; intro A417 c418 a W419 HW ha
            refine stepp ha 7 (.slice A417 (x391 ++ ([IntKind.wrap .u8 (sshr .u64 a0 (rdL (0 : Int) t329 x395))] : List Int)).length c418) KR KR ?_; clear ha a; intro a ha
            refine endl ?_
            refine blkN ?_
            refine thenN (hK405 _ _ ?_); clear hK405
            refine wp_region_lit ?_
            refine stepp ha 31 (.int .i64 (IntKind.wrap .i64 (x395 + 1))) KR KR ?_; clear ha a; intro a ha
            refine stepp ha 20 (.int .i64 (IntKind.wrap .i64 (x395 + 1))) KR KR ?_; clear ha a; intro a ha
            refine endl ?_
            exact thenN ⟨k397, Nat.lt_succ_self k397, x391 ++ ([IntKind.wrap .u8 (sshr .u64 a0 (rdL (0 : Int) t329 x395))] : List Int), A417, c418, IntKind.wrap .i64 (x395 + 1), (by rw [← hag398]; exact h), ha.sub (subs_cons KR (subs_cons KR (subs_cons KR (subs_cons KR (subs_cons KR (subs_nil _)))))), HW.pick [] [1, 2] (by decide) (by decide) KR KR⟩
          · skip
            replace h := ite_neg' h hp403
            refine condF ha KR KR (t := decide (x395 < (t329.length : Int))) (decide_eq_false hp403) ?_
            refine wp_exit ?_
            refine thenE ?_
            refine thenE ?_
            refine inBlk ?_
            refine thenN (hK326 _ _ ?_); clear hK326
            refine wp_seq_k (fun K422 hK423 => ?_)
            refine wp_region_lit ?_
            refine stepp ha 32 (.slice A392 x391.length c393) KR KR ?_; clear ha a; intro a ha
            refine stepbt ha 33 97 9 5 (.tmp 32) (v := .slice A392 x391.length c393) (xs := x391) (HW.rdo (i := 0) (q := ⟨5, 1, .slice A392 x391.length c393, x391.length, encs (encI .u8) x391⟩) KR) rfl KR KR KR KR KR ?_; clear ha a; intro a ha
            refine stepp ha 6 (.string (strOfNums x391)) KR KR ?_; clear ha a; intro a ha
            refine endl ?_
            refine thenN (hK423 _ _ ?_); clear hK423
            refine wp_ret ?_
            obtain rfl := Option.some.inj h
            exact finv ha _ _ rfl (.tmp (v := .string (strOfNums x391)) KR .nil) (.string (strOfNums x391)) rfl ⟨rfl, HW.pick [] [] (by decide) (by decide) rfl KR⟩
end Go.Proofs.YthjjbkgifelooaaDoor.F
