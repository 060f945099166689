/- headgate/fields.put[uint64], headgate/fields.PutBig, headgate/fields.PutLittle, headgate/crc.More, headgate/crc.Sum, headgate/crc.Digest, headgate/fields.Pad, headgate/frame.Put, headgate/headgateref01.PutBig, headgate/cdb.Number, headgate/headgatekeep.Block, headgate/headgateref15.Number: plain functions, and that the calls come to what they say. No condition. -/
import Derived.Test.YteilejfncdacfaaGreatDoorFT
import Derived.Test.YteilejfncdacfaaGreatDoorF243
import Derived.Test.YteilejfncdacfaaGreatDoorF263
namespace Go.Proofs.YteilejfncdacfaaGreatDoor.F
open Go Go.RowKit Go.Proofs.YteilejfncdacfaaGreatDoor.X
set_option linter.unusedVariables false
set_option linter.unusedSimpArgs false
/-! ### headgate/fields.put[uint64]: function 242 -/
def fields_put_uint64.b0 (K : Nat) (a0 : Int) (t346 : List Int) (again407 : (List Int) → Int → Option ByteArray) (x408 : List Int) (x412 : Int) : Option ByteArray :=
  if x412 < (t346.length : Int) then (asrt (0 ≤ x412) (asrt (0 ≤ (rdL (0 : Int) t346 x412)) (asrt (x408.length + ([IntKind.wrap .u8 (sshr .u64 a0 (rdL (0 : Int) t346 x412))] : List Int).length ≤ 140737488355328) (again407 (x408 ++ ([IntKind.wrap .u8 (sshr .u64 a0 (rdL (0 : Int) t346 x412))] : List Int)) (IntKind.wrap .i64 (x412 + 1)))))) else (some (strOfNums x408))
def fields_put_uint64.l0 (K : Nat) (a0 : Int) (t346 : List Int) : Nat → (List Int) → Int → Option ByteArray
  | 0, _, _ => none
  | k_ + 1, x408, x412 => fields_put_uint64.b0 K a0 t346 (fields_put_uint64.l0 K a0 t346 k_) x408 x412
def fields_put_uint64.f (K : Nat) (a0 : Int) (a1 : Int) (a2 : Bool) : Option ByteArray :=
  if a1 < 1 then (some (⟨#[]⟩ : ByteArray)) else (if a1 > 8 then (some (⟨#[]⟩ : ByteArray)) else ((fields_shifts.f K a1 a2).bind fun t346 => (fields_put_uint64.l0 K a0 t346 K ([] : List Int) 0)))
set_option maxRecDepth 100000 in
set_option maxHeartbeats 4000000 in
theorem fields_put_uint64.calls (K : Nat) (a0 : Int) (a1 : Int) (a2 : Bool)  (r : ByteArray) (w : World)  (h : fields_put_uint64.f K a0 a1 a2 = some r) :
    Calls Tryz.prog 242 #[.int .u64 a0, .int .i64 a1, .bool a2] w (fun e W' => e = .returned (.string r) ∧ Wd w W' [] [] ) := by
  refine sxstart (n := 34) (l := [(0, .int .u64 a0), (1, .int .i64 a1), (2, .bool a2)]) Tryz.func242 rfl rfl (Nat.le_of_ble_eq_true KR) (subsA_cons rfl (subsA_cons rfl (subsA_cons rfl (subsA_nil _)))) ?_
  intro a ha
  have HW := Wd.refl w
  unfold fields_put_uint64.f at h
  refine wp_seq_k (fun K328 hK329 => ?_)
  refine wp_region_lit ?_
  refine stepp ha 6 (.string (⟨#[]⟩ : ByteArray)) KR KR ?_; clear ha a; intro a ha
  refine endl ?_
  refine thenN (hK329 _ _ ?_); clear hK329
  refine wp_seq_k (fun K330 hK331 => ?_)
  refine wp_seq_k (fun K332 hK333 => ?_)
  refine wp_region_lit ?_
  refine stepp ha 10 (.int .i64 a1) KR KR ?_; clear ha a; intro a ha
  refine stepp ha 11 (.bool (decide (a1 < 1))) KR KR ?_; clear ha a; intro a ha
  refine stepp ha 12 (.bool (decide (a1 < 1))) KR KR ?_; clear ha a; intro a ha
  by_cases hp334 : a1 < 1
  · skip
    replace h := ite_pos' h hp334
    replace ha := ha.bool 12 KR (decide_eq_true hp334)
    refine stepo ha 13 KR ?_; clear ha a; intro a ha
    refine stepo ha 14 KR ?_; clear ha a; intro a ha
    refine stepp ha 15 (.bool true) KR KR ?_; clear ha a; intro a ha
    refine endl ?_
    refine thenN (hK333 _ _ ?_); clear hK333
    refine condT ha KR KR (t := true) (rfl) ?_
    refine wp_seq_k (fun K335 hK336 => ?_)
    refine wp_region_lit ?_
    refine stepp ha 6 (.string (⟨#[]⟩ : ByteArray)) KR KR ?_; clear ha a; intro a ha
    refine endl ?_
    refine thenN (hK336 _ _ ?_); clear hK336
    refine wp_ret ?_
    refine thenR ?_
    obtain rfl := Option.some.inj h
    exact finv ha _ _ rfl (.tmp (v := .string (⟨#[]⟩ : ByteArray)) KR .nil) (.string (⟨#[]⟩ : ByteArray)) rfl ⟨rfl, HW.pick [] [] (by decide) (by decide) rfl KR⟩
  · skip
    replace h := ite_neg' h hp334
    replace ha := ha.bool 12 KR (decide_eq_false hp334)
    refine stepp ha 13 (.int .i64 a1) KR KR ?_; clear ha a; intro a ha
    refine stepp ha 14 (.bool (decide (a1 > 8))) KR KR ?_; clear ha a; intro a ha
    refine stepp ha 15 (.bool (decide (a1 > 8))) KR KR ?_; clear ha a; intro a ha
    refine endl ?_
    refine thenN (hK333 _ _ ?_); clear hK333
    by_cases hp337 : a1 > 8
    · skip
      replace h := ite_pos' h hp337
      refine condT ha KR KR (t := decide (a1 > 8)) (decide_eq_true hp337) ?_
      refine wp_seq_k (fun K338 hK339 => ?_)
      refine wp_region_lit ?_
      refine stepp ha 6 (.string (⟨#[]⟩ : ByteArray)) KR KR ?_; clear ha a; intro a ha
      refine endl ?_
      refine thenN (hK339 _ _ ?_); clear hK339
      refine wp_ret ?_
      refine thenR ?_
      obtain rfl := Option.some.inj h
      exact finv ha _ _ rfl (.tmp (v := .string (⟨#[]⟩ : ByteArray)) KR .nil) (.string (⟨#[]⟩ : ByteArray)) rfl ⟨rfl, HW.pick [] [] (by decide) (by decide) rfl KR⟩
    · skip
      replace h := ite_neg' h hp337
      refine condF ha KR KR (t := decide (a1 > 8)) (decide_eq_false hp337) ?_
      refine wp_skip ?_
      refine thenN (hK331 _ _ ?_); clear hK331
      refine wp_seq_k (fun K340 hK341 => ?_)
      refine wp_region_lit ?_
      refine stepp ha 7 (.slice none 0 0) KR KR ?_; clear ha a; intro a ha
      refine endl ?_
      refine thenN (hK341 _ _ ?_); clear hK341
      refine wp_seq_k (fun K342 hK343 => ?_)
      refine wp_seq_k (fun K344 hK345 => ?_)
      refine wp_region_lit ?_
      refine stepp ha 16 (.int .i64 a1) KR KR ?_; clear ha a; intro a ha
      refine stepp ha 17 (.bool a2) KR KR ?_; clear ha a; intro a ha
      obtain ⟨t346, ht347, h_⟩ := bind_some' h; clear h; have h := h_; clear h_
      refine stepc ha 18 KR KR (fields_shifts.calls K a1 a2 t346 _ ht347) ?_; clear ha a; rintro e W351 ⟨A348, c349, rfl, HX352⟩
      refine ⟨_, rfl, ?_⟩; intro a ha; replace HW := HW.callw HX352; clear HX352
      refine stepp ha 19 (.int .i64 (t346.length : Int)) KR KR ?_; clear ha a; intro a ha
      refine stepp ha 20 (.int .i64 0) KR KR ?_; clear ha a; intro a ha
      refine endl ?_
      refine thenN (hK345 _ _ ?_); clear hK345
      refine wp_block ?_
      refine loopk (fun k => fun a W413 => ∃ (x408 : List Int), ∃ A409, ∃ c410, ∃ (x412 : Int), fields_put_uint64.l0 K a0 t346 k x408 x412 = some r ∧ Has 34 [(0, .int .u64 a0), (7, .slice A409 x408.length c410), (18, .slice A348 t346.length c349), (19, .int .i64 (t346.length : Int)), (20, .int .i64 x412)] a ∧ Wd w W413 [] [⟨5, 1, .slice A409 x408.length c410, x408.length, encs (encIK .u8) x408⟩, ⟨3, 1, .slice A348 t346.length c349, t346.length, encs (encIK .i64) t346⟩]) K ?_ ?_
      · skip
        replace HW := HW.nilo 5 1
        exact ⟨([] : List Int), none, 0, 0, h, ha.sub (subs_cons KR (subs_cons KR (subs_cons KR (subs_cons KR (subs_cons KR (subs_nil _)))))), HW.pick [] [0, 1] (by decide) (by decide) KR KR⟩
      · skip
        intro k a W413 hI
        obtain ⟨x408, A409, c410, x412, h, ha, HW⟩ := hI
        cases k with
        | zero => exact (none_some (show none = some r from h)).elim
        | succ k414 =>
          replace h : fields_put_uint64.b0 K a0 t346 (fields_put_uint64.l0 K a0 t346 k414) x408 x412 = some r := h
          obtain ⟨again407, hag415⟩ : ∃ g_, g_ = fields_put_uint64.l0 K a0 t346 k414 := ⟨_, rfl⟩
          rw [← hag415] at h
          unfold fields_put_uint64.b0 at h
          refine wp_seq_k (fun K416 hK417 => ?_)
          refine wp_region_lit ?_
          refine stepp ha 21 (.bool (decide (x412 < (t346.length : Int)))) KR KR ?_; clear ha a; intro a ha
          refine endl ?_
          refine thenN (hK417 _ _ ?_); clear hK417
          refine wp_seq_k (fun K418 hK419 => ?_)
          by_cases hp420 : x412 < (t346.length : Int)
          · skip
            replace h := ite_pos' h hp420
            refine condT ha KR KR (t := decide (x412 < (t346.length : Int))) (decide_eq_true hp420) ?_
            refine wp_skip ?_
            refine thenN (hK419 _ _ ?_); clear hK419
            refine wp_seq_k (fun K421 hK422 => ?_)
            refine wp_block ?_
            refine wp_seq_k (fun K423 hK424 => ?_)
            refine wp_region_lit ?_
            obtain ⟨hA425, h_⟩ := asrt_some h; clear h; have h := h_; clear h_
            refine stepie (encIK .i64) (0 : Int) ha 22 (fun _ => rfl) (v := .slice A348 t346.length c349) (xs := t346) (HW.rdo (i := 1) (q := ⟨3, 1, .slice A348 t346.length c349, t346.length, encs (encIK .i64) t346⟩) KR) 69 3 (.tmp 18) (.tmp 20) .i64 x412 rfl KR KR KR KR hA425 (show (x412 : Int) < ((t346).length : Int) from hp420) KR ?_; clear ha a; intro b426 off427 a hC428 ha
            refine stepl ha 23 hC428 3 0 (.tmp 22) (.int .i64 (rdL (0 : Int) t346 x412)) rfl KR KR KR ?_; clear ha a; intro a ha
            refine stepp ha 9 (.int .i64 (rdL (0 : Int) t346 x412)) KR KR ?_; clear ha a; intro a ha
            refine endl ?_
            refine thenN (hK424 _ _ ?_); clear hK424
            refine wp_region_lit ?_
            refine stepp ha 24 (.slice A409 x408.length c410) KR KR ?_; clear ha a; intro a ha
            refine stepp ha 25 (.int .u64 a0) KR KR ?_; clear ha a; intro a ha
            refine stepp ha 26 (.int .i64 (rdL (0 : Int) t346 x412)) KR KR ?_; clear ha a; intro a ha
            obtain ⟨hA429, h_⟩ := asrt_some h; clear h; have h := h_; clear h_
            refine stepshr ha 27 58 3 (.tmp 25) (.tmp 26) .u64 .i64 a0 (rdL (0 : Int) t346 x412) rfl KR KR hA429 KR ?_; clear ha a; intro a ha
            refine stepp ha 28 (.int .u8 (IntKind.wrap .u8 (sshr .u64 a0 (rdL (0 : Int) t346 x412)))) KR KR ?_; clear ha a; intro a ha
            refine stepbs ha HW 29 5 1 1 #[.int .u8 (IntKind.wrap .u8 (sshr .u64 a0 (rdL (0 : Int) t346 x412)))] [.int .u8 (IntKind.wrap .u8 (sshr .u64 a0 (rdL (0 : Int) t346 x412)))] (by decide) KR KR KR KR ?_; clear ha HW a; intro b430 a W431 HW ha
            replace HW : Wd w W431 [] [⟨5, 1, .slice (some ⟨b430, 0, none⟩) ([IntKind.wrap .u8 (sshr .u64 a0 (rdL (0 : Int) t346 x412))] : List Int).length 1, ([IntKind.wrap .u8 (sshr .u64 a0 (rdL (0 : Int) t346 x412))] : List Int).length, encs (encIK .u8) ([IntKind.wrap .u8 (sshr .u64 a0 (rdL (0 : Int) t346 x412))] : List Int)⟩, ⟨5, 1, .slice A409 x408.length c410, x408.length, encs (encIK .u8) x408⟩, ⟨3, 1, .slice A348 t346.length c349, t346.length, encs (encIK .i64) t346⟩] := HW
            replace ha := ha.turn 29 (v := .slice (some ⟨b430, 0, none⟩) ([IntKind.wrap .u8 (sshr .u64 a0 (rdL (0 : Int) t346 x412))] : List Int).length 1) KR rfl
            obtain ⟨hA433, h_⟩ := asrt_some h; clear h; have h := h_; clear h_
            refine stepape (encIK .u8) ha HW 30 1 171 5 (.tmp 24) (.tmp 29) (.int .u8 0) 1 1 (.slice A409 x408.length c410) x408 (.slice (some ⟨b430, 0, none⟩) ([IntKind.wrap .u8 (sshr .u64 a0 (rdL (0 : Int) t346 x412))] : List Int).length 1) ([IntKind.wrap .u8 (sshr .u64 a0 (rdL (0 : Int) t346 x412))] : List Int) KR rfl KR KR (HW.rdo (i := 0) (q := ⟨5, 1, .slice (some ⟨b430, 0, none⟩) ([IntKind.wrap .u8 (sshr .u64 a0 (rdL (0 : Int) t346 x412))] : List Int).length 1, ([IntKind.wrap .u8 (sshr .u64 a0 (rdL (0 : Int) t346 x412))] : List Int).length, encs (encIK .u8) ([IntKind.wrap .u8 (sshr .u64 a0 (rdL (0 : Int) t346 x412))] : List Int)⟩) KR) (fun _ => rfl) KR KR KR (by decide) (by have := hA433; unfold maxLen; omega) (by have := hA433; omega) KR ?_; clear ha HW a; intro A434 c435 a W436 HW ha
            refine stepp ha 7 (.slice A434 (x408 ++ ([IntKind.wrap .u8 (sshr .u64 a0 (rdL (0 : Int) t346 x412))] : List Int)).length c435) KR KR ?_; clear ha a; intro a ha
            refine endl ?_
            refine blkN ?_
            refine thenN (hK422 _ _ ?_); clear hK422
            refine wp_region_lit ?_
            refine stepp ha 31 (.int .i64 (IntKind.wrap .i64 (x412 + 1))) KR KR ?_; clear ha a; intro a ha
            refine stepp ha 20 (.int .i64 (IntKind.wrap .i64 (x412 + 1))) KR KR ?_; clear ha a; intro a ha
            refine endl ?_
            exact thenN ⟨k414, Nat.lt_succ_self k414, x408 ++ ([IntKind.wrap .u8 (sshr .u64 a0 (rdL (0 : Int) t346 x412))] : List Int), A434, c435, IntKind.wrap .i64 (x412 + 1), (by rw [← hag415]; exact h), ha.sub (subs_cons KR (subs_cons KR (subs_cons KR (subs_cons KR (subs_cons KR (subs_nil _)))))), HW.pick [] [1, 2] (by decide) (by decide) KR KR⟩
          · skip
            replace h := ite_neg' h hp420
            refine condF ha KR KR (t := decide (x412 < (t346.length : Int))) (decide_eq_false hp420) ?_
            refine wp_exit ?_
            refine thenE ?_
            refine thenE ?_
            refine inBlk ?_
            refine thenN (hK343 _ _ ?_); clear hK343
            refine wp_seq_k (fun K439 hK440 => ?_)
            refine wp_region_lit ?_
            refine stepp ha 32 (.slice A409 x408.length c410) KR KR ?_; clear ha a; intro a ha
            refine stepbt ha 33 171 9 5 (.tmp 32) (v := .slice A409 x408.length c410) (xs := x408) (HW.rdo (i := 0) (q := ⟨5, 1, .slice A409 x408.length c410, x408.length, encs (encIK .u8) x408⟩) KR) rfl KR KR KR KR KR ?_; clear ha a; intro a ha
            refine stepp ha 6 (.string (strOfNums x408)) KR KR ?_; clear ha a; intro a ha
            refine endl ?_
            refine thenN (hK440 _ _ ?_); clear hK440
            refine wp_ret ?_
            obtain rfl := Option.some.inj h
            exact finv ha _ _ rfl (.tmp (v := .string (strOfNums x408)) KR .nil) (.string (strOfNums x408)) rfl ⟨rfl, HW.pick [] [] (by decide) (by decide) rfl KR⟩
/-! ### headgate/fields.PutBig: function 179 -/
def fields_PutBig.f (K : Nat) (a0 : Int) (a1 : Int) : Option ByteArray :=
  (fields_put_uint64.f K a0 a1 true).bind fun t445 => (some t445)
set_option maxRecDepth 100000 in
set_option maxHeartbeats 4000000 in
theorem fields_PutBig.calls (K : Nat) (a0 : Int) (a1 : Int)  (r : ByteArray) (w : World)  (h : fields_PutBig.f K a0 a1 = some r) :
    Calls Tryz.prog 179 #[.int .u64 a0, .int .i64 a1] w (fun e W' => e = .returned (.string r) ∧ Wd w W' [] [] ) := by
  refine sxstart (n := 8) (l := [(0, .int .u64 a0), (1, .int .i64 a1)]) Tryz.func179 rfl rfl (Nat.le_of_ble_eq_true KR) (subsA_cons rfl (subsA_cons rfl (subsA_nil _))) ?_
  intro a ha
  have HW := Wd.refl w
  unfold fields_PutBig.f at h
  refine wp_seq_k (fun K441 hK442 => ?_)
  refine wp_region_lit ?_
  refine stepp ha 4 (.string (⟨#[]⟩ : ByteArray)) KR KR ?_; clear ha a; intro a ha
  refine endl ?_
  refine thenN (hK442 _ _ ?_); clear hK442
  refine wp_seq_k (fun K443 hK444 => ?_)
  refine wp_region_lit ?_
  refine stepp ha 5 (.int .u64 a0) KR KR ?_; clear ha a; intro a ha
  refine stepp ha 6 (.int .i64 a1) KR KR ?_; clear ha a; intro a ha
  obtain ⟨t445, ht446, h_⟩ := bind_some' h; clear h; have h := h_; clear h_
  refine stepc ha 7 KR KR (fields_put_uint64.calls K a0 a1 true t445 _ ht446) ?_; clear ha a; rintro e W447 ⟨rfl, HX448⟩
  refine ⟨_, rfl, ?_⟩; intro a ha; replace HW := HW.callw HX448; clear HX448
  refine stepp ha 4 (.string t445) KR KR ?_; clear ha a; intro a ha
  refine endl ?_
  refine thenN (hK444 _ _ ?_); clear hK444
  refine wp_ret ?_
  obtain rfl := Option.some.inj h
  exact finv ha _ _ rfl (.tmp (v := .string t445) KR .nil) (.string t445) rfl ⟨rfl, HW.pick [] [] (by decide) (by decide) rfl KR⟩
/-! ### headgate/fields.PutLittle: function 312 -/
def fields_PutLittle.f (K : Nat) (a0 : Int) (a1 : Int) : Option ByteArray :=
  (fields_put_uint64.f K a0 a1 false).bind fun t457 => (some t457)
set_option maxRecDepth 100000 in
set_option maxHeartbeats 4000000 in
theorem fields_PutLittle.calls (K : Nat) (a0 : Int) (a1 : Int)  (r : ByteArray) (w : World)  (h : fields_PutLittle.f K a0 a1 = some r) :
    Calls Tryz.prog 312 #[.int .u64 a0, .int .i64 a1] w (fun e W' => e = .returned (.string r) ∧ Wd w W' [] [] ) := by
  refine sxstart (n := 8) (l := [(0, .int .u64 a0), (1, .int .i64 a1)]) Tryz.func312 rfl rfl (Nat.le_of_ble_eq_true KR) (subsA_cons rfl (subsA_cons rfl (subsA_nil _))) ?_
  intro a ha
  have HW := Wd.refl w
  unfold fields_PutLittle.f at h
  refine wp_seq_k (fun K453 hK454 => ?_)
  refine wp_region_lit ?_
  refine stepp ha 4 (.string (⟨#[]⟩ : ByteArray)) KR KR ?_; clear ha a; intro a ha
  refine endl ?_
  refine thenN (hK454 _ _ ?_); clear hK454
  refine wp_seq_k (fun K455 hK456 => ?_)
  refine wp_region_lit ?_
  refine stepp ha 5 (.int .u64 a0) KR KR ?_; clear ha a; intro a ha
  refine stepp ha 6 (.int .i64 a1) KR KR ?_; clear ha a; intro a ha
  obtain ⟨t457, ht458, h_⟩ := bind_some' h; clear h; have h := h_; clear h_
  refine stepc ha 7 KR KR (fields_put_uint64.calls K a0 a1 false t457 _ ht458) ?_; clear ha a; rintro e W459 ⟨rfl, HX460⟩
  refine ⟨_, rfl, ?_⟩; intro a ha; replace HW := HW.callw HX460; clear HX460
  refine stepp ha 4 (.string t457) KR KR ?_; clear ha a; intro a ha
  refine endl ?_
  refine thenN (hK456 _ _ ?_); clear hK456
  refine wp_ret ?_
  obtain rfl := Option.some.inj h
  exact finv ha _ _ rfl (.tmp (v := .string t457) KR .nil) (.string t457) rfl ⟨rfl, HW.pick [] [] (by decide) (by decide) rfl KR⟩
/-! ### headgate/crc.More: function 351 -/
def crc_More.b0 (K : Nat) (a1 : ByteArray) (again509 : Int → Int → Option Int) (x510 : Int) (x511 : Int) : Option Int :=
  if x511 < (a1.size : Int) then (asrt (0 ≤ x511) (asrt (0 ≤ (band .u32 (bxor .u32 x510 (IntKind.wrap .u32 (bt a1 x511))) 15)) (asrt ((band .u32 (bxor .u32 x510 (IntKind.wrap .u32 (bt a1 x511))) 15) < 16) (asrt (0 ≤ (band .u32 (bxor .u32 ((bxor .u32 x510 (IntKind.wrap .u32 (bt a1 x511))).fdiv 16) (rdL (0 : Int) G_crc_steps (band .u32 (bxor .u32 x510 (IntKind.wrap .u32 (bt a1 x511))) 15))) 15)) (asrt ((band .u32 (bxor .u32 ((bxor .u32 x510 (IntKind.wrap .u32 (bt a1 x511))).fdiv 16) (rdL (0 : Int) G_crc_steps (band .u32 (bxor .u32 x510 (IntKind.wrap .u32 (bt a1 x511))) 15))) 15) < 16) (again509 (bxor .u32 ((bxor .u32 ((bxor .u32 x510 (IntKind.wrap .u32 (bt a1 x511))).fdiv 16) (rdL (0 : Int) G_crc_steps (band .u32 (bxor .u32 x510 (IntKind.wrap .u32 (bt a1 x511))) 15))).fdiv 16) (rdL (0 : Int) G_crc_steps (band .u32 (bxor .u32 ((bxor .u32 x510 (IntKind.wrap .u32 (bt a1 x511))).fdiv 16) (rdL (0 : Int) G_crc_steps (band .u32 (bxor .u32 x510 (IntKind.wrap .u32 (bt a1 x511))) 15))) 15))) (IntKind.wrap .i64 (x511 + 1)))))))) else (some (bxor .u32 4294967295 x510))
def crc_More.l0 (K : Nat) (a1 : ByteArray) : Nat → Int → Int → Option Int
  | 0, _, _ => none
  | k_ + 1, x510, x511 => crc_More.b0 K a1 (crc_More.l0 K a1 k_) x510 x511
def crc_More.f (K : Nat) (a0 : Int) (a1 : ByteArray) : Option Int :=
  crc_More.l0 K a1 K (bxor .u32 4294967295 a0) 0
set_option maxRecDepth 100000 in
set_option maxHeartbeats 4000000 in
theorem crc_More.calls (K : Nat) (a0 : Int) (a1 : ByteArray)  (r : Int) (w : World) (hG4 : CA w 4 0 (encs (encIK .u32) G_crc_steps).toArray) (h : crc_More.f K a0 a1 = some r) :
    Calls Tryz.prog 351 #[.int .u32 a0, .string a1] w (fun e W' => e = .returned (.int .u32 r) ∧ Wd w W' [] [] ) := by
  refine sxstart (n := 36) (l := [(0, .int .u32 a0), (1, .string a1)]) Tryz.func351 rfl rfl (Nat.le_of_ble_eq_true KR) (subsA_cons rfl (subsA_cons rfl (subsA_nil _))) ?_
  intro a ha
  have HW := Wd.refl w
  unfold crc_More.f at h
  refine wp_seq_k (fun K461 hK462 => ?_)
  refine wp_region_lit ?_
  refine stepp ha 4 (.int .u32 0) KR KR ?_; clear ha a; intro a ha
  refine endl ?_
  refine thenN (hK462 _ _ ?_); clear hK462
  refine wp_seq_k (fun K463 hK464 => ?_)
  refine wp_region_lit ?_
  refine stepp ha 6 (.int .u32 a0) KR KR ?_; clear ha a; intro a ha
  refine stepp ha 7 (.int .u32 (bxor .u32 4294967295 a0)) KR KR ?_; clear ha a; intro a ha
  refine stepp ha 0 (.int .u32 (bxor .u32 4294967295 a0)) KR KR ?_; clear ha a; intro a ha
  refine endl ?_
  refine thenN (hK464 _ _ ?_); clear hK464
  refine wp_seq_k (fun K465 hK466 => ?_)
  refine wp_seq_k (fun K467 hK468 => ?_)
  refine wp_region_lit ?_
  refine stepp ha 8 (.string a1) KR KR ?_; clear ha a; intro a ha
  refine stepp ha 9 (.int .i64 (a1.size : Int)) KR KR ?_; clear ha a; intro a ha
  refine stepp ha 10 (.int .i64 0) KR KR ?_; clear ha a; intro a ha
  refine endl ?_
  refine thenN (hK468 _ _ ?_); clear hK468
  refine wp_block ?_
  refine loopk (fun k => fun a W512 => ∃ (x510 : Int), ∃ (x511 : Int), crc_More.l0 K a1 k x510 x511 = some r ∧ Has 36 [(0, .int .u32 x510), (1, .string a1), (9, .int .i64 (a1.size : Int)), (10, .int .i64 x511)] a ∧ Wd w W512 [] []) K ?_ ?_
  · skip
    exact ⟨bxor .u32 4294967295 a0, 0, h, ha.sub (subs_cons KR (subs_cons KR (subs_cons KR (subs_cons KR (subs_nil _))))), HW.pick [] [] (by decide) (by decide) KR KR⟩
  · skip
    intro k a W512 hI
    obtain ⟨x510, x511, h, ha, HW⟩ := hI
    cases k with
    | zero => exact (none_some (show none = some r from h)).elim
    | succ k513 =>
      replace h : crc_More.b0 K a1 (crc_More.l0 K a1 k513) x510 x511 = some r := h
      obtain ⟨again509, hag514⟩ : ∃ g_, g_ = crc_More.l0 K a1 k513 := ⟨_, rfl⟩
      rw [← hag514] at h
      unfold crc_More.b0 at h
      refine wp_seq_k (fun K515 hK516 => ?_)
      refine wp_region_lit ?_
      refine stepp ha 11 (.bool (decide (x511 < (a1.size : Int)))) KR KR ?_; clear ha a; intro a ha
      refine endl ?_
      refine thenN (hK516 _ _ ?_); clear hK516
      refine wp_seq_k (fun K517 hK518 => ?_)
      by_cases hp519 : x511 < (a1.size : Int)
      · skip
        replace h := ite_pos' h hp519
        refine condT ha KR KR (t := decide (x511 < (a1.size : Int))) (decide_eq_true hp519) ?_
        refine wp_skip ?_
        refine thenN (hK518 _ _ ?_); clear hK518
        refine wp_seq_k (fun K520 hK521 => ?_)
        refine wp_block ?_
        refine wp_seq_k (fun K522 hK523 => ?_)
        refine wp_region_lit ?_
        refine stepp ha 12 (.int .i64 x511) KR KR ?_; clear ha a; intro a ha
        refine stepp ha 5 (.int .i64 x511) KR KR ?_; clear ha a; intro a ha
        refine endl ?_
        refine thenN (hK523 _ _ ?_); clear hK523
        refine wp_seq_k (fun K524 hK525 => ?_)
        refine wp_region_lit ?_
        refine stepp ha 13 (.int .u32 x510) KR KR ?_; clear ha a; intro a ha
        refine stepp ha 14 (.string a1) KR KR ?_; clear ha a; intro a ha
        refine stepp ha 15 (.int .i64 x511) KR KR ?_; clear ha a; intro a ha
        obtain ⟨hA526, h_⟩ := asrt_some h; clear h; have h := h_; clear h_
        refine stepsi ha 16 9 (.tmp 14) (.tmp 15) a1 .i64 x511 rfl KR KR KR hA526 (show (x511 : Int) < ((a1).size : Int) from hp519) KR ?_; clear ha a; intro a ha
        refine stepp ha 17 (.int .u32 (IntKind.wrap .u32 (bt a1 x511))) KR KR ?_; clear ha a; intro a ha
        refine stepp ha 18 (.int .u32 (bxor .u32 x510 (IntKind.wrap .u32 (bt a1 x511)))) KR KR ?_; clear ha a; intro a ha
        refine stepp ha 0 (.int .u32 (bxor .u32 x510 (IntKind.wrap .u32 (bt a1 x511)))) KR KR ?_; clear ha a; intro a ha
        refine endl ?_
        refine thenN (hK525 _ _ ?_); clear hK525
        refine wp_seq_k (fun K527 hK528 => ?_)
        refine wp_region_lit ?_
        refine stepp ha 19 (.int .u32 (bxor .u32 x510 (IntKind.wrap .u32 (bt a1 x511)))) KR KR ?_; clear ha a; intro a ha
        refine stepp ha 20 (.int .u32 ((bxor .u32 x510 (IntKind.wrap .u32 (bt a1 x511))).fdiv 16)) KR KR ?_; clear ha a; intro a ha
        refine stepp ha 21 (.int .u32 (bxor .u32 x510 (IntKind.wrap .u32 (bt a1 x511)))) KR KR ?_; clear ha a; intro a ha
        refine stepp ha 22 (.int .u32 (band .u32 (bxor .u32 x510 (IntKind.wrap .u32 (bt a1 x511))) 15)) KR KR ?_; clear ha a; intro a ha
        obtain ⟨hA529, h_⟩ := asrt_some h; clear h; have h := h_; clear h_
        obtain ⟨hA530, h_⟩ := asrt_some h; clear h; have h := h_; clear h_
        refine stepiw ha 23 (sz := 1) 4 0 427 16 62 (.global 4) (.tmp 22) .u32 (band .u32 (bxor .u32 x510 (IntKind.wrap .u32 (bt a1 x511))) 15) rfl KR KR KR KR hA529 hA530 KR ?_; clear ha a; intro a ha
        refine stepl ha 24 (CA.el (encIK .u32) (0 : Int) (fun _ => rfl) (HW.ca0 hG4) G_crc_steps rfl (len := 16) rfl hA529 hA530) 62 0 (.tmp 23) (.int .u32 (rdL (0 : Int) G_crc_steps (band .u32 (bxor .u32 x510 (IntKind.wrap .u32 (bt a1 x511))) 15))) rfl KR KR KR ?_; clear ha a; intro a ha
        refine stepp ha 25 (.int .u32 (bxor .u32 ((bxor .u32 x510 (IntKind.wrap .u32 (bt a1 x511))).fdiv 16) (rdL (0 : Int) G_crc_steps (band .u32 (bxor .u32 x510 (IntKind.wrap .u32 (bt a1 x511))) 15)))) KR KR ?_; clear ha a; intro a ha
        refine stepp ha 0 (.int .u32 (bxor .u32 ((bxor .u32 x510 (IntKind.wrap .u32 (bt a1 x511))).fdiv 16) (rdL (0 : Int) G_crc_steps (band .u32 (bxor .u32 x510 (IntKind.wrap .u32 (bt a1 x511))) 15)))) KR KR ?_; clear ha a; intro a ha
        refine endl ?_
        refine thenN (hK528 _ _ ?_); clear hK528
        refine wp_region_lit ?_
        refine stepp ha 26 (.int .u32 (bxor .u32 ((bxor .u32 x510 (IntKind.wrap .u32 (bt a1 x511))).fdiv 16) (rdL (0 : Int) G_crc_steps (band .u32 (bxor .u32 x510 (IntKind.wrap .u32 (bt a1 x511))) 15)))) KR KR ?_; clear ha a; intro a ha
        refine stepp ha 27 (.int .u32 ((bxor .u32 ((bxor .u32 x510 (IntKind.wrap .u32 (bt a1 x511))).fdiv 16) (rdL (0 : Int) G_crc_steps (band .u32 (bxor .u32 x510 (IntKind.wrap .u32 (bt a1 x511))) 15))).fdiv 16)) KR KR ?_; clear ha a; intro a ha
        refine stepp ha 28 (.int .u32 (bxor .u32 ((bxor .u32 x510 (IntKind.wrap .u32 (bt a1 x511))).fdiv 16) (rdL (0 : Int) G_crc_steps (band .u32 (bxor .u32 x510 (IntKind.wrap .u32 (bt a1 x511))) 15)))) KR KR ?_; clear ha a; intro a ha
        refine stepp ha 29 (.int .u32 (band .u32 (bxor .u32 ((bxor .u32 x510 (IntKind.wrap .u32 (bt a1 x511))).fdiv 16) (rdL (0 : Int) G_crc_steps (band .u32 (bxor .u32 x510 (IntKind.wrap .u32 (bt a1 x511))) 15))) 15)) KR KR ?_; clear ha a; intro a ha
        obtain ⟨hA531, h_⟩ := asrt_some h; clear h; have h := h_; clear h_
        obtain ⟨hA532, h_⟩ := asrt_some h; clear h; have h := h_; clear h_
        refine stepiw ha 30 (sz := 1) 4 0 427 16 62 (.global 4) (.tmp 29) .u32 (band .u32 (bxor .u32 ((bxor .u32 x510 (IntKind.wrap .u32 (bt a1 x511))).fdiv 16) (rdL (0 : Int) G_crc_steps (band .u32 (bxor .u32 x510 (IntKind.wrap .u32 (bt a1 x511))) 15))) 15) rfl KR KR KR KR hA531 hA532 KR ?_; clear ha a; intro a ha
        refine stepl ha 31 (CA.el (encIK .u32) (0 : Int) (fun _ => rfl) (HW.ca0 hG4) G_crc_steps rfl (len := 16) rfl hA531 hA532) 62 0 (.tmp 30) (.int .u32 (rdL (0 : Int) G_crc_steps (band .u32 (bxor .u32 ((bxor .u32 x510 (IntKind.wrap .u32 (bt a1 x511))).fdiv 16) (rdL (0 : Int) G_crc_steps (band .u32 (bxor .u32 x510 (IntKind.wrap .u32 (bt a1 x511))) 15))) 15))) rfl KR KR KR ?_; clear ha a; intro a ha
        refine stepp ha 32 (.int .u32 (bxor .u32 ((bxor .u32 ((bxor .u32 x510 (IntKind.wrap .u32 (bt a1 x511))).fdiv 16) (rdL (0 : Int) G_crc_steps (band .u32 (bxor .u32 x510 (IntKind.wrap .u32 (bt a1 x511))) 15))).fdiv 16) (rdL (0 : Int) G_crc_steps (band .u32 (bxor .u32 ((bxor .u32 x510 (IntKind.wrap .u32 (bt a1 x511))).fdiv 16) (rdL (0 : Int) G_crc_steps (band .u32 (bxor .u32 x510 (IntKind.wrap .u32 (bt a1 x511))) 15))) 15)))) KR KR ?_; clear ha a; intro a ha
        refine stepp ha 0 (.int .u32 (bxor .u32 ((bxor .u32 ((bxor .u32 x510 (IntKind.wrap .u32 (bt a1 x511))).fdiv 16) (rdL (0 : Int) G_crc_steps (band .u32 (bxor .u32 x510 (IntKind.wrap .u32 (bt a1 x511))) 15))).fdiv 16) (rdL (0 : Int) G_crc_steps (band .u32 (bxor .u32 ((bxor .u32 x510 (IntKind.wrap .u32 (bt a1 x511))).fdiv 16) (rdL (0 : Int) G_crc_steps (band .u32 (bxor .u32 x510 (IntKind.wrap .u32 (bt a1 x511))) 15))) 15)))) KR KR ?_; clear ha a; intro a ha
        refine endl ?_
        refine blkN ?_
        refine thenN (hK521 _ _ ?_); clear hK521
        refine wp_region_lit ?_
        refine stepp ha 33 (.int .i64 (IntKind.wrap .i64 (x511 + 1))) KR KR ?_; clear ha a; intro a ha
        refine stepp ha 10 (.int .i64 (IntKind.wrap .i64 (x511 + 1))) KR KR ?_; clear ha a; intro a ha
        refine endl ?_
        exact thenN ⟨k513, Nat.lt_succ_self k513, bxor .u32 ((bxor .u32 ((bxor .u32 x510 (IntKind.wrap .u32 (bt a1 x511))).fdiv 16) (rdL (0 : Int) G_crc_steps (band .u32 (bxor .u32 x510 (IntKind.wrap .u32 (bt a1 x511))) 15))).fdiv 16) (rdL (0 : Int) G_crc_steps (band .u32 (bxor .u32 ((bxor .u32 x510 (IntKind.wrap .u32 (bt a1 x511))).fdiv 16) (rdL (0 : Int) G_crc_steps (band .u32 (bxor .u32 x510 (IntKind.wrap .u32 (bt a1 x511))) 15))) 15)), IntKind.wrap .i64 (x511 + 1), (by rw [← hag514]; exact h), ha.sub (subs_cons KR (subs_cons KR (subs_cons KR (subs_cons KR (subs_nil _))))), HW.pick [] [] (by decide) (by decide) KR KR⟩
      · skip
        replace h := ite_neg' h hp519
        refine condF ha KR KR (t := decide (x511 < (a1.size : Int))) (decide_eq_false hp519) ?_
        refine wp_exit ?_
        refine thenE ?_
        refine thenE ?_
        refine inBlk ?_
        refine thenN (hK466 _ _ ?_); clear hK466
        refine wp_seq_k (fun K533 hK534 => ?_)
        refine wp_region_lit ?_
        refine stepp ha 34 (.int .u32 x510) KR KR ?_; clear ha a; intro a ha
        refine stepp ha 35 (.int .u32 (bxor .u32 4294967295 x510)) KR KR ?_; clear ha a; intro a ha
        refine stepp ha 4 (.int .u32 (bxor .u32 4294967295 x510)) KR KR ?_; clear ha a; intro a ha
        refine endl ?_
        refine thenN (hK534 _ _ ?_); clear hK534
        refine wp_ret ?_
        obtain rfl := Option.some.inj h
        exact finv ha _ _ rfl (.tmp (v := .int .u32 (bxor .u32 4294967295 x510)) KR .nil) (.int .u32 (bxor .u32 4294967295 x510)) rfl ⟨rfl, HW.pick [] [] (by decide) (by decide) rfl KR⟩
/-! ### headgate/crc.Sum: function 313 -/
def crc_Sum.f (K : Nat) (a0 : ByteArray) : Option Int :=
  (crc_More.f K 0 a0).bind fun t539 => (some t539)
set_option maxRecDepth 100000 in
set_option maxHeartbeats 4000000 in
theorem crc_Sum.calls (K : Nat) (a0 : ByteArray)  (r : Int) (w : World) (hG4 : CA w 4 0 (encs (encIK .u32) G_crc_steps).toArray) (h : crc_Sum.f K a0 = some r) :
    Calls Tryz.prog 313 #[.string a0] w (fun e W' => e = .returned (.int .u32 r) ∧ Wd w W' [] [] ) := by
  refine sxstart (n := 5) (l := [(0, .string a0)]) Tryz.func313 rfl rfl (Nat.le_of_ble_eq_true KR) (subsA_cons rfl (subsA_nil _)) ?_
  intro a ha
  have HW := Wd.refl w
  unfold crc_Sum.f at h
  refine wp_seq_k (fun K535 hK536 => ?_)
  refine wp_region_lit ?_
  refine stepp ha 2 (.int .u32 0) KR KR ?_; clear ha a; intro a ha
  refine endl ?_
  refine thenN (hK536 _ _ ?_); clear hK536
  refine wp_seq_k (fun K537 hK538 => ?_)
  refine wp_region_lit ?_
  refine stepp ha 3 (.string a0) KR KR ?_; clear ha a; intro a ha
  obtain ⟨t539, ht540, h_⟩ := bind_some' h; clear h; have h := h_; clear h_
  refine stepc ha 4 KR KR (crc_More.calls K 0 a0 t539 _ (HW.ca0 hG4) ht540) ?_; clear ha a; rintro e W541 ⟨rfl, HX542⟩
  refine ⟨_, rfl, ?_⟩; intro a ha; replace HW := HW.callw HX542; clear HX542
  refine stepp ha 2 (.int .u32 t539) KR KR ?_; clear ha a; intro a ha
  refine endl ?_
  refine thenN (hK538 _ _ ?_); clear hK538
  refine wp_ret ?_
  obtain rfl := Option.some.inj h
  exact finv ha _ _ rfl (.tmp (v := .int .u32 t539) KR .nil) (.int .u32 t539) rfl ⟨rfl, HW.pick [] [] (by decide) (by decide) rfl KR⟩
/-! ### headgate/crc.Digest: function 261 -/
def crc_Digest.f (K : Nat) (a0 : ByteArray) : Option ByteArray :=
  (crc_Sum.f K a0).bind fun t547 => ((fields_PutLittle.f K (IntKind.wrap .u64 t547) 4).bind fun t551 => (some t551))
set_option maxRecDepth 100000 in
set_option maxHeartbeats 4000000 in
theorem crc_Digest.calls (K : Nat) (a0 : ByteArray)  (r : ByteArray) (w : World) (hG4 : CA w 4 0 (encs (encIK .u32) G_crc_steps).toArray) (h : crc_Digest.f K a0 = some r) :
    Calls Tryz.prog 261 #[.string a0] w (fun e W' => e = .returned (.string r) ∧ Wd w W' [] [] ) := by
  refine sxstart (n := 7) (l := [(0, .string a0)]) Tryz.func261 rfl rfl (Nat.le_of_ble_eq_true KR) (subsA_cons rfl (subsA_nil _)) ?_
  intro a ha
  have HW := Wd.refl w
  unfold crc_Digest.f at h
  refine wp_seq_k (fun K543 hK544 => ?_)
  refine wp_region_lit ?_
  refine stepp ha 2 (.string (⟨#[]⟩ : ByteArray)) KR KR ?_; clear ha a; intro a ha
  refine endl ?_
  refine thenN (hK544 _ _ ?_); clear hK544
  refine wp_seq_k (fun K545 hK546 => ?_)
  refine wp_region_lit ?_
  refine stepp ha 3 (.string a0) KR KR ?_; clear ha a; intro a ha
  obtain ⟨t547, ht548, h_⟩ := bind_some' h; clear h; have h := h_; clear h_
  refine stepc ha 4 KR KR (crc_Sum.calls K a0 t547 _ (HW.ca0 hG4) ht548) ?_; clear ha a; rintro e W549 ⟨rfl, HX550⟩
  refine ⟨_, rfl, ?_⟩; intro a ha; replace HW := HW.callw HX550; clear HX550
  refine stepp ha 5 (.int .u64 (IntKind.wrap .u64 t547)) KR KR ?_; clear ha a; intro a ha
  obtain ⟨t551, ht552, h_⟩ := bind_some' h; clear h; have h := h_; clear h_
  refine stepc ha 6 KR KR (fields_PutLittle.calls K (IntKind.wrap .u64 t547) 4 t551 _ ht552) ?_; clear ha a; rintro e W553 ⟨rfl, HX554⟩
  refine ⟨_, rfl, ?_⟩; intro a ha; replace HW := HW.callw HX554; clear HX554
  refine stepp ha 2 (.string t551) KR KR ?_; clear ha a; intro a ha
  refine endl ?_
  refine thenN (hK546 _ _ ?_); clear hK546
  refine wp_ret ?_
  obtain rfl := Option.some.inj h
  exact finv ha _ _ rfl (.tmp (v := .string t551) KR .nil) (.string t551) rfl ⟨rfl, HW.pick [] [] (by decide) (by decide) rfl KR⟩
/-! ### headgate/fields.Pad: function 348 -/
def fields_Pad.f (a0 : ByteArray) (a1 : Int) : Option ByteArray :=
  if a1 < 1 then (some a0) else (if a1 > 4096 then (some a0) else (asrt (¬ a1 = 0) (if (Int.tmod (a0.size : Int) a1) = 0 then (some a0) else (asrt (0 ≤ (IntKind.wrap .i64 (a1 - (Int.tmod (a0.size : Int) a1)))) (asrt ((IntKind.wrap .i64 (a1 - (Int.tmod (a0.size : Int) a1))) ≤ 281474976710656) (asrt (a0.size + (strOfNums (List.replicate (IntKind.wrap .i64 (a1 - (Int.tmod (a0.size : Int) a1)) : Int).toNat (0 : Int))).size ≤ 9223372036854775807) (some (a0 ++ (strOfNums (List.replicate (IntKind.wrap .i64 (a1 - (Int.tmod (a0.size : Int) a1)) : Int).toNat (0 : Int)))))))))))
set_option maxRecDepth 100000 in
set_option maxHeartbeats 4000000 in
theorem fields_Pad.calls (a0 : ByteArray) (a1 : Int)  (r : ByteArray) (w : World)  (h : fields_Pad.f a0 a1 = some r) :
    Calls Tryz.prog 348 #[.string a0, .int .i64 a1] w (fun e W' => e = .returned (.string r) ∧ Wd w W' [] [] ) := by
  refine sxstart (n := 29) (l := [(0, .string a0), (1, .int .i64 a1)]) Tryz.func348 rfl rfl (Nat.le_of_ble_eq_true KR) (subsA_cons rfl (subsA_cons rfl (subsA_nil _))) ?_
  intro a ha
  have HW := Wd.refl w
  unfold fields_Pad.f at h
  refine wp_seq_k (fun K555 hK556 => ?_)
  refine wp_region_lit ?_
  refine stepp ha 4 (.string (⟨#[]⟩ : ByteArray)) KR KR ?_; clear ha a; intro a ha
  refine endl ?_
  refine thenN (hK556 _ _ ?_); clear hK556
  refine wp_seq_k (fun K557 hK558 => ?_)
  refine wp_seq_k (fun K559 hK560 => ?_)
  refine wp_region_lit ?_
  refine stepp ha 5 (.int .i64 a1) KR KR ?_; clear ha a; intro a ha
  refine stepp ha 6 (.bool (decide (a1 < 1))) KR KR ?_; clear ha a; intro a ha
  refine stepp ha 7 (.bool (decide (a1 < 1))) KR KR ?_; clear ha a; intro a ha
  by_cases hp561 : a1 < 1
  · skip
    replace h := ite_pos' h hp561
    replace ha := ha.bool 7 KR (decide_eq_true hp561)
    refine stepo ha 8 KR ?_; clear ha a; intro a ha
    refine stepo ha 9 KR ?_; clear ha a; intro a ha
    refine stepp ha 10 (.bool true) KR KR ?_; clear ha a; intro a ha
    refine stepp ha 11 (.bool true) KR KR ?_; clear ha a; intro a ha
    refine stepo ha 12 KR ?_; clear ha a; intro a ha
    refine stepo ha 13 KR ?_; clear ha a; intro a ha
    refine stepo ha 14 KR ?_; clear ha a; intro a ha
    refine stepo ha 15 KR ?_; clear ha a; intro a ha
    refine stepo ha 16 KR ?_; clear ha a; intro a ha
    refine stepp ha 17 (.bool true) KR KR ?_; clear ha a; intro a ha
    refine endl ?_
    refine thenN (hK560 _ _ ?_); clear hK560
    refine condT ha KR KR (t := true) (rfl) ?_
    refine wp_seq_k (fun K564 hK565 => ?_)
    refine wp_region_lit ?_
    refine stepp ha 18 (.string a0) KR KR ?_; clear ha a; intro a ha
    refine stepp ha 4 (.string a0) KR KR ?_; clear ha a; intro a ha
    refine endl ?_
    refine thenN (hK565 _ _ ?_); clear hK565
    refine wp_ret ?_
    refine thenR ?_
    obtain rfl := Option.some.inj h
    exact finv ha _ _ rfl (.tmp (v := .string a0) KR .nil) (.string a0) rfl ⟨rfl, HW.pick [] [] (by decide) (by decide) rfl KR⟩
  · skip
    replace h := ite_neg' h hp561
    replace ha := ha.bool 7 KR (decide_eq_false hp561)
    refine stepp ha 8 (.int .i64 a1) KR KR ?_; clear ha a; intro a ha
    refine stepp ha 9 (.bool (decide (a1 > 4096))) KR KR ?_; clear ha a; intro a ha
    refine stepp ha 10 (.bool (decide (a1 > 4096))) KR KR ?_; clear ha a; intro a ha
    refine stepp ha 11 (.bool (decide (a1 > 4096))) KR KR ?_; clear ha a; intro a ha
    by_cases hp562 : a1 > 4096
    · skip
      replace h := ite_pos' h hp562
      replace ha := ha.bool 11 KR (decide_eq_true hp562)
      refine stepo ha 12 KR ?_; clear ha a; intro a ha
      refine stepo ha 13 KR ?_; clear ha a; intro a ha
      refine stepo ha 14 KR ?_; clear ha a; intro a ha
      refine stepo ha 15 KR ?_; clear ha a; intro a ha
      refine stepo ha 16 KR ?_; clear ha a; intro a ha
      refine stepp ha 17 (.bool true) KR KR ?_; clear ha a; intro a ha
      refine endl ?_
      refine thenN (hK560 _ _ ?_); clear hK560
      refine condT ha KR KR (t := true) (rfl) ?_
      refine wp_seq_k (fun K566 hK567 => ?_)
      refine wp_region_lit ?_
      refine stepp ha 18 (.string a0) KR KR ?_; clear ha a; intro a ha
      refine stepp ha 4 (.string a0) KR KR ?_; clear ha a; intro a ha
      refine endl ?_
      refine thenN (hK567 _ _ ?_); clear hK567
      refine wp_ret ?_
      refine thenR ?_
      obtain rfl := Option.some.inj h
      exact finv ha _ _ rfl (.tmp (v := .string a0) KR .nil) (.string a0) rfl ⟨rfl, HW.pick [] [] (by decide) (by decide) rfl KR⟩
    · skip
      replace h := ite_neg' h hp562
      replace ha := ha.bool 11 KR (decide_eq_false hp562)
      refine stepp ha 12 (.string a0) KR KR ?_; clear ha a; intro a ha
      refine stepp ha 13 (.int .i64 (a0.size : Int)) KR KR ?_; clear ha a; intro a ha
      refine stepp ha 14 (.int .i64 a1) KR KR ?_; clear ha a; intro a ha
      obtain ⟨hA563, h_⟩ := asrt_some h; clear h; have h := h_; clear h_
      refine steprem ha 15 3 3 (.tmp 13) (.tmp 14) .i64 (a0.size : Int) a1 rfl KR KR hA563 KR ?_; clear ha a; intro a ha
      refine stepp ha 16 (.bool ((Int.tmod (a0.size : Int) a1) == 0)) KR KR ?_; clear ha a; intro a ha
      refine stepp ha 17 (.bool ((Int.tmod (a0.size : Int) a1) == 0)) KR KR ?_; clear ha a; intro a ha
      refine endl ?_
      refine thenN (hK560 _ _ ?_); clear hK560
      by_cases hp568 : (Int.tmod (a0.size : Int) a1) = 0
      · skip
        replace h := ite_pos' h hp568
        refine condT ha KR KR (t := ((Int.tmod (a0.size : Int) a1) == 0)) (ieq_t hp568) ?_
        refine wp_seq_k (fun K569 hK570 => ?_)
        refine wp_region_lit ?_
        refine stepp ha 18 (.string a0) KR KR ?_; clear ha a; intro a ha
        refine stepp ha 4 (.string a0) KR KR ?_; clear ha a; intro a ha
        refine endl ?_
        refine thenN (hK570 _ _ ?_); clear hK570
        refine wp_ret ?_
        refine thenR ?_
        obtain rfl := Option.some.inj h
        exact finv ha _ _ rfl (.tmp (v := .string a0) KR .nil) (.string a0) rfl ⟨rfl, HW.pick [] [] (by decide) (by decide) rfl KR⟩
      · skip
        replace h := ite_neg' h hp568
        refine condF ha KR KR (t := ((Int.tmod (a0.size : Int) a1) == 0)) (ieq_f hp568) ?_
        refine wp_skip ?_
        refine thenN (hK558 _ _ ?_); clear hK558
        refine wp_seq_k (fun K571 hK572 => ?_)
        refine wp_region_lit ?_
        refine stepp ha 19 (.string a0) KR KR ?_; clear ha a; intro a ha
        refine stepp ha 20 (.int .i64 a1) KR KR ?_; clear ha a; intro a ha
        refine stepp ha 21 (.string a0) KR KR ?_; clear ha a; intro a ha
        refine stepp ha 22 (.int .i64 (a0.size : Int)) KR KR ?_; clear ha a; intro a ha
        refine stepp ha 23 (.int .i64 a1) KR KR ?_; clear ha a; intro a ha
        refine steprem ha 24 3 3 (.tmp 22) (.tmp 23) .i64 (a0.size : Int) a1 rfl KR KR hA563 KR ?_; clear ha a; intro a ha
        refine stepp ha 25 (.int .i64 (IntKind.wrap .i64 (a1 - (Int.tmod (a0.size : Int) a1)))) KR KR ?_; clear ha a; intro a ha
        obtain ⟨hA573, h_⟩ := asrt_some h; clear h; have h := h_; clear h_
        obtain ⟨hA574, h_⟩ := asrt_some h; clear h; have h := h_; clear h_
        refine stepmk (encIK .u8) (0 : Int) ha HW 26 171 5 (.tmp 25) (.tmp 25) .i64 .i64 (IntKind.wrap .i64 (a1 - (Int.tmod (a0.size : Int) a1))) (.int .u8 0) 1 rfl KR KR KR KR rfl rfl hA573 (by have := hA574; omega) (by have := hA574; omega) KR ?_; clear ha HW a; intro b575 a W576 HW ha
        refine stepbt ha 27 171 9 5 (.tmp 26) (v := .slice (some ⟨b575, 0, none⟩) (List.replicate (IntKind.wrap .i64 (a1 - (Int.tmod (a0.size : Int) a1)) : Int).toNat (0 : Int)).length ((IntKind.wrap .i64 (a1 - (Int.tmod (a0.size : Int) a1)) : Int).toNat)) (xs := List.replicate (IntKind.wrap .i64 (a1 - (Int.tmod (a0.size : Int) a1)) : Int).toNat (0 : Int)) (HW.rdo (i := 0) (q := ⟨5, 1, .slice (some ⟨b575, 0, none⟩) (List.replicate (IntKind.wrap .i64 (a1 - (Int.tmod (a0.size : Int) a1)) : Int).toNat (0 : Int)).length ((IntKind.wrap .i64 (a1 - (Int.tmod (a0.size : Int) a1)) : Int).toNat), (List.replicate (IntKind.wrap .i64 (a1 - (Int.tmod (a0.size : Int) a1)) : Int).toNat (0 : Int)).length, encs (encIK .u8) (List.replicate (IntKind.wrap .i64 (a1 - (Int.tmod (a0.size : Int) a1)) : Int).toNat (0 : Int))⟩) KR) rfl KR KR KR KR KR ?_; clear ha a; intro a ha
        obtain ⟨hA578, h_⟩ := asrt_some h; clear h; have h := h_; clear h_
        refine stepsa ha 28 9 9 (.tmp 19) (.tmp 27) a0 (strOfNums (List.replicate (IntKind.wrap .i64 (a1 - (Int.tmod (a0.size : Int) a1)) : Int).toNat (0 : Int))) rfl KR KR (show (a0).size + (strOfNums (List.replicate (IntKind.wrap .i64 (a1 - (Int.tmod (a0.size : Int) a1)) : Int).toNat (0 : Int))).size ≤ 9223372036854775807 from hA578) KR ?_; clear ha a; intro a ha
        refine stepp ha 4 (.string (a0 ++ (strOfNums (List.replicate (IntKind.wrap .i64 (a1 - (Int.tmod (a0.size : Int) a1)) : Int).toNat (0 : Int))))) KR KR ?_; clear ha a; intro a ha
        refine endl ?_
        refine thenN (hK572 _ _ ?_); clear hK572
        refine wp_ret ?_
        obtain rfl := Option.some.inj h
        exact finv ha _ _ rfl (.tmp (v := .string (a0 ++ (strOfNums (List.replicate (IntKind.wrap .i64 (a1 - (Int.tmod (a0.size : Int) a1)) : Int).toNat (0 : Int))))) KR .nil) (.string (a0 ++ (strOfNums (List.replicate (IntKind.wrap .i64 (a1 - (Int.tmod (a0.size : Int) a1)) : Int).toNat (0 : Int))))) rfl ⟨rfl, HW.pick [] [] (by decide) (by decide) rfl KR⟩
/-! ### headgate/frame.Put: function 308 -/
def frame_Put.f (K : Nat) (a0 : Int) (a1 : ByteArray) : Option (ByteArray × Int) :=
  if (a1.size : Int) > 65536 then (some ((⟨#[]⟩ : ByteArray), 2)) else ((fields_PutBig.f K a0 8).bind fun t590 => (asrt (4 + t590.size ≤ 9223372036854775807) ((fields_PutBig.f K (IntKind.wrap .u64 (a1.size : Int)) 4).bind fun t595 => (asrt (((⟨#[72, 71, 70, 82]⟩ : ByteArray) ++ t590).size + t595.size ≤ 9223372036854775807) ((crc_Digest.f K (((⟨#[72, 71, 70, 82]⟩ : ByteArray) ++ t590) ++ t595)).bind fun t602 => (asrt ((((⟨#[72, 71, 70, 82]⟩ : ByteArray) ++ t590) ++ t595).size + t602.size ≤ 9223372036854775807) (asrt (((((⟨#[72, 71, 70, 82]⟩ : ByteArray) ++ t590) ++ t595) ++ t602).size + a1.size ≤ 9223372036854775807) ((crc_Digest.f K a1).bind fun t608 => (asrt ((((((⟨#[72, 71, 70, 82]⟩ : ByteArray) ++ t590) ++ t595) ++ t602) ++ a1).size + t608.size ≤ 9223372036854775807) ((fields_Pad.f ((((((⟨#[72, 71, 70, 82]⟩ : ByteArray) ++ t590) ++ t595) ++ t602) ++ a1) ++ t608) 512).bind fun t613 => (some (t613, 0))))))))))))
set_option maxRecDepth 100000 in
set_option maxHeartbeats 4000000 in
theorem frame_Put.calls (K : Nat) (a0 : Int) (a1 : ByteArray)  (r : ByteArray × Int) (w : World) (hG4 : CA w 4 0 (encs (encIK .u32) G_crc_steps).toArray) (h : frame_Put.f K a0 a1 = some r) :
    Calls Tryz.prog 308 #[.int .u64 a0, .string a1] w (fun e W' => e = .returned (.tuple #[.string r.1, .int .i64 r.2]) ∧ Wd w W' [] [] ) := by
  refine sxstart (n := 28) (l := [(0, .int .u64 a0), (1, .string a1)]) Tryz.func308 rfl rfl (Nat.le_of_ble_eq_true KR) (subsA_cons rfl (subsA_cons rfl (subsA_nil _))) ?_
  intro a ha
  have HW := Wd.refl w
  unfold frame_Put.f at h
  refine wp_seq_k (fun K579 hK580 => ?_)
  refine wp_region_lit ?_
  refine stepp ha 4 (.string (⟨#[]⟩ : ByteArray)) KR KR ?_; clear ha a; intro a ha
  refine stepp ha 5 (.int .i64 0) KR KR ?_; clear ha a; intro a ha
  refine endl ?_
  refine thenN (hK580 _ _ ?_); clear hK580
  refine wp_seq_k (fun K581 hK582 => ?_)
  refine wp_seq_k (fun K583 hK584 => ?_)
  refine wp_region_lit ?_
  refine stepp ha 7 (.string a1) KR KR ?_; clear ha a; intro a ha
  refine stepp ha 8 (.int .i64 (a1.size : Int)) KR KR ?_; clear ha a; intro a ha
  refine stepp ha 9 (.bool (decide ((a1.size : Int) > 65536))) KR KR ?_; clear ha a; intro a ha
  refine endl ?_
  refine thenN (hK584 _ _ ?_); clear hK584
  by_cases hp585 : (a1.size : Int) > 65536
  · skip
    replace h := ite_pos' h hp585
    refine condT ha KR KR (t := decide ((a1.size : Int) > 65536)) (decide_eq_true hp585) ?_
    refine wp_seq_k (fun K586 hK587 => ?_)
    refine wp_region_lit ?_
    refine stepp ha 4 (.string (⟨#[]⟩ : ByteArray)) KR KR ?_; clear ha a; intro a ha
    refine stepp ha 5 (.int .i64 2) KR KR ?_; clear ha a; intro a ha
    refine endl ?_
    refine thenN (hK587 _ _ ?_); clear hK587
    refine wp_ret ?_
    refine thenR ?_
    obtain rfl := Option.some.inj h
    exact finv ha _ _ rfl (.tmp (v := .string (⟨#[]⟩ : ByteArray)) KR (.tmp (v := .int .i64 2) KR .nil)) (.tuple #[.string (⟨#[]⟩ : ByteArray), .int .i64 2]) rfl ⟨rfl, HW.pick [] [] (by decide) (by decide) rfl KR⟩
  · skip
    replace h := ite_neg' h hp585
    refine condF ha KR KR (t := decide ((a1.size : Int) > 65536)) (decide_eq_false hp585) ?_
    refine wp_skip ?_
    refine thenN (hK582 _ _ ?_); clear hK582
    refine wp_seq_k (fun K588 hK589 => ?_)
    refine wp_region_lit ?_
    refine stepp ha 10 (.int .u64 a0) KR KR ?_; clear ha a; intro a ha
    obtain ⟨t590, ht591, h_⟩ := bind_some' h; clear h; have h := h_; clear h_
    refine stepc ha 11 KR KR (fields_PutBig.calls K a0 8 t590 _ ht591) ?_; clear ha a; rintro e W592 ⟨rfl, HX593⟩
    refine ⟨_, rfl, ?_⟩; intro a ha; replace HW := HW.callw HX593; clear HX593
    obtain ⟨hA594, h_⟩ := asrt_some h; clear h; have h := h_; clear h_
    refine stepsa ha 12 9 9 (.const (.string (⟨#[72, 71, 70, 82]⟩ : ByteArray))) (.tmp 11) (⟨#[72, 71, 70, 82]⟩ : ByteArray) t590 rfl KR KR (show ((⟨#[72, 71, 70, 82]⟩ : ByteArray)).size + (t590).size ≤ 9223372036854775807 from hA594) KR ?_; clear ha a; intro a ha
    refine stepp ha 13 (.string a1) KR KR ?_; clear ha a; intro a ha
    refine stepp ha 14 (.int .i64 (a1.size : Int)) KR KR ?_; clear ha a; intro a ha
    refine stepp ha 15 (.int .u64 (IntKind.wrap .u64 (a1.size : Int))) KR KR ?_; clear ha a; intro a ha
    obtain ⟨t595, ht596, h_⟩ := bind_some' h; clear h; have h := h_; clear h_
    refine stepc ha 16 KR KR (fields_PutBig.calls K (IntKind.wrap .u64 (a1.size : Int)) 4 t595 _ ht596) ?_; clear ha a; rintro e W597 ⟨rfl, HX598⟩
    refine ⟨_, rfl, ?_⟩; intro a ha; replace HW := HW.callw HX598; clear HX598
    obtain ⟨hA599, h_⟩ := asrt_some h; clear h; have h := h_; clear h_
    refine stepsa ha 17 9 9 (.tmp 12) (.tmp 16) ((⟨#[72, 71, 70, 82]⟩ : ByteArray) ++ t590) t595 rfl KR KR (show ((⟨#[72, 71, 70, 82]⟩ : ByteArray) ++ t590).size + (t595).size ≤ 9223372036854775807 from hA599) KR ?_; clear ha a; intro a ha
    refine stepp ha 6 (.string (((⟨#[72, 71, 70, 82]⟩ : ByteArray) ++ t590) ++ t595)) KR KR ?_; clear ha a; intro a ha
    refine endl ?_
    refine thenN (hK589 _ _ ?_); clear hK589
    refine wp_seq_k (fun K600 hK601 => ?_)
    refine wp_region_lit ?_
    refine stepp ha 18 (.string (((⟨#[72, 71, 70, 82]⟩ : ByteArray) ++ t590) ++ t595)) KR KR ?_; clear ha a; intro a ha
    refine stepp ha 19 (.string (((⟨#[72, 71, 70, 82]⟩ : ByteArray) ++ t590) ++ t595)) KR KR ?_; clear ha a; intro a ha
    obtain ⟨t602, ht603, h_⟩ := bind_some' h; clear h; have h := h_; clear h_
    refine stepc ha 20 KR KR (crc_Digest.calls K (((⟨#[72, 71, 70, 82]⟩ : ByteArray) ++ t590) ++ t595) t602 _ (HW.ca0 hG4) ht603) ?_; clear ha a; rintro e W604 ⟨rfl, HX605⟩
    refine ⟨_, rfl, ?_⟩; intro a ha; replace HW := HW.callw HX605; clear HX605
    obtain ⟨hA606, h_⟩ := asrt_some h; clear h; have h := h_; clear h_
    refine stepsa ha 21 9 9 (.tmp 18) (.tmp 20) (((⟨#[72, 71, 70, 82]⟩ : ByteArray) ++ t590) ++ t595) t602 rfl KR KR (show (((⟨#[72, 71, 70, 82]⟩ : ByteArray) ++ t590) ++ t595).size + (t602).size ≤ 9223372036854775807 from hA606) KR ?_; clear ha a; intro a ha
    refine stepp ha 22 (.string a1) KR KR ?_; clear ha a; intro a ha
    obtain ⟨hA607, h_⟩ := asrt_some h; clear h; have h := h_; clear h_
    refine stepsa ha 23 9 9 (.tmp 21) (.tmp 22) ((((⟨#[72, 71, 70, 82]⟩ : ByteArray) ++ t590) ++ t595) ++ t602) a1 rfl KR KR (show ((((⟨#[72, 71, 70, 82]⟩ : ByteArray) ++ t590) ++ t595) ++ t602).size + (a1).size ≤ 9223372036854775807 from hA607) KR ?_; clear ha a; intro a ha
    refine stepp ha 24 (.string a1) KR KR ?_; clear ha a; intro a ha
    obtain ⟨t608, ht609, h_⟩ := bind_some' h; clear h; have h := h_; clear h_
    refine stepc ha 25 KR KR (crc_Digest.calls K a1 t608 _ (HW.ca0 hG4) ht609) ?_; clear ha a; rintro e W610 ⟨rfl, HX611⟩
    refine ⟨_, rfl, ?_⟩; intro a ha; replace HW := HW.callw HX611; clear HX611
    obtain ⟨hA612, h_⟩ := asrt_some h; clear h; have h := h_; clear h_
    refine stepsa ha 26 9 9 (.tmp 23) (.tmp 25) (((((⟨#[72, 71, 70, 82]⟩ : ByteArray) ++ t590) ++ t595) ++ t602) ++ a1) t608 rfl KR KR (show (((((⟨#[72, 71, 70, 82]⟩ : ByteArray) ++ t590) ++ t595) ++ t602) ++ a1).size + (t608).size ≤ 9223372036854775807 from hA612) KR ?_; clear ha a; intro a ha
    obtain ⟨t613, ht614, h_⟩ := bind_some' h; clear h; have h := h_; clear h_
    refine stepc ha 27 KR KR (fields_Pad.calls ((((((⟨#[72, 71, 70, 82]⟩ : ByteArray) ++ t590) ++ t595) ++ t602) ++ a1) ++ t608) 512 t613 _ ht614) ?_; clear ha a; rintro e W615 ⟨rfl, HX616⟩
    refine ⟨_, rfl, ?_⟩; intro a ha; replace HW := HW.callw HX616; clear HX616
    refine stepp ha 4 (.string t613) KR KR ?_; clear ha a; intro a ha
    refine stepp ha 5 (.int .i64 0) KR KR ?_; clear ha a; intro a ha
    refine endl ?_
    refine thenN (hK601 _ _ ?_); clear hK601
    refine wp_ret ?_
    obtain rfl := Option.some.inj h
    exact finv ha _ _ rfl (.tmp (v := .string t613) KR (.tmp (v := .int .i64 0) KR .nil)) (.tuple #[.string t613, .int .i64 0]) rfl ⟨rfl, HW.pick [] [] (by decide) (by decide) rfl KR⟩
/-! ### headgate/headgateref01.PutBig: function 137 -/
def headgateref01_PutBig.b0 (K : Nat) (again1465 : Int → (List Int) → Int → Option ByteArray) (x1466 : Int) (x1467 : List Int) (x1471 : Int) : Option ByteArray :=
  if x1471 ≥ 0 then (asrt (0 ≤ x1471) (asrt (x1471 < (x1467.length : Int)) (again1465 (IntKind.wrap .u64 (Int.tdiv x1466 256)) (x1467.set (x1471 : Int).toNat (IntKind.wrap .u8 (Int.tmod x1466 256))) (IntKind.wrap .i64 (x1471 - 1))))) else (some (strOfNums x1467))
def headgateref01_PutBig.l0 (K : Nat)  : Nat → Int → (List Int) → Int → Option ByteArray
  | 0, _, _, _ => none
  | k_ + 1, x1466, x1467, x1471 => headgateref01_PutBig.b0 K  (headgateref01_PutBig.l0 K  k_) x1466 x1467 x1471
def headgateref01_PutBig.f (K : Nat) (a0 : Int) (a1 : Int) : Option ByteArray :=
  if a1 < 1 then (some (⟨#[]⟩ : ByteArray)) else (if a1 > 8 then (some (⟨#[]⟩ : ByteArray)) else (asrt (0 ≤ a1) (asrt (a1 ≤ 281474976710656) (headgateref01_PutBig.l0 K  K a0 (List.replicate (a1 : Int).toNat (0 : Int)) (IntKind.wrap .i64 (a1 - 1))))))
set_option maxRecDepth 100000 in
set_option maxHeartbeats 4000000 in
theorem headgateref01_PutBig.calls (K : Nat) (a0 : Int) (a1 : Int)  (r : ByteArray) (w : World)  (h : headgateref01_PutBig.f K a0 a1 = some r) :
    Calls Tryz.prog 137 #[.int .u64 a0, .int .i64 a1] w (fun e W' => e = .returned (.string r) ∧ Wd w W' [] [] ) := by
  refine sxstart (n := 31) (l := [(0, .int .u64 a0), (1, .int .i64 a1)]) Tryz.func137 rfl rfl (Nat.le_of_ble_eq_true KR) (subsA_cons rfl (subsA_cons rfl (subsA_nil _))) ?_
  intro a ha
  have HW := Wd.refl w
  unfold headgateref01_PutBig.f at h
  refine wp_seq_k (fun K1406 hK1407 => ?_)
  refine wp_region_lit ?_
  refine stepp ha 4 (.string (⟨#[]⟩ : ByteArray)) KR KR ?_; clear ha a; intro a ha
  refine endl ?_
  refine thenN (hK1407 _ _ ?_); clear hK1407
  refine wp_seq_k (fun K1408 hK1409 => ?_)
  refine wp_seq_k (fun K1410 hK1411 => ?_)
  refine wp_region_lit ?_
  refine stepp ha 7 (.int .i64 a1) KR KR ?_; clear ha a; intro a ha
  refine stepp ha 8 (.bool (decide (a1 < 1))) KR KR ?_; clear ha a; intro a ha
  refine stepp ha 9 (.bool (decide (a1 < 1))) KR KR ?_; clear ha a; intro a ha
  by_cases hp1412 : a1 < 1
  · skip
    replace h := ite_pos' h hp1412
    replace ha := ha.bool 9 KR (decide_eq_true hp1412)
    refine stepo ha 10 KR ?_; clear ha a; intro a ha
    refine stepo ha 11 KR ?_; clear ha a; intro a ha
    refine stepp ha 12 (.bool true) KR KR ?_; clear ha a; intro a ha
    refine endl ?_
    refine thenN (hK1411 _ _ ?_); clear hK1411
    refine condT ha KR KR (t := true) (rfl) ?_
    refine wp_seq_k (fun K1413 hK1414 => ?_)
    refine wp_region_lit ?_
    refine stepp ha 4 (.string (⟨#[]⟩ : ByteArray)) KR KR ?_; clear ha a; intro a ha
    refine endl ?_
    refine thenN (hK1414 _ _ ?_); clear hK1414
    refine wp_ret ?_
    refine thenR ?_
    obtain rfl := Option.some.inj h
    exact finv ha _ _ rfl (.tmp (v := .string (⟨#[]⟩ : ByteArray)) KR .nil) (.string (⟨#[]⟩ : ByteArray)) rfl ⟨rfl, HW.pick [] [] (by decide) (by decide) rfl KR⟩
  · skip
    replace h := ite_neg' h hp1412
    replace ha := ha.bool 9 KR (decide_eq_false hp1412)
    refine stepp ha 10 (.int .i64 a1) KR KR ?_; clear ha a; intro a ha
    refine stepp ha 11 (.bool (decide (a1 > 8))) KR KR ?_; clear ha a; intro a ha
    refine stepp ha 12 (.bool (decide (a1 > 8))) KR KR ?_; clear ha a; intro a ha
    refine endl ?_
    refine thenN (hK1411 _ _ ?_); clear hK1411
    by_cases hp1415 : a1 > 8
    · skip
      replace h := ite_pos' h hp1415
      refine condT ha KR KR (t := decide (a1 > 8)) (decide_eq_true hp1415) ?_
      refine wp_seq_k (fun K1416 hK1417 => ?_)
      refine wp_region_lit ?_
      refine stepp ha 4 (.string (⟨#[]⟩ : ByteArray)) KR KR ?_; clear ha a; intro a ha
      refine endl ?_
      refine thenN (hK1417 _ _ ?_); clear hK1417
      refine wp_ret ?_
      refine thenR ?_
      obtain rfl := Option.some.inj h
      exact finv ha _ _ rfl (.tmp (v := .string (⟨#[]⟩ : ByteArray)) KR .nil) (.string (⟨#[]⟩ : ByteArray)) rfl ⟨rfl, HW.pick [] [] (by decide) (by decide) rfl KR⟩
    · skip
      replace h := ite_neg' h hp1415
      refine condF ha KR KR (t := decide (a1 > 8)) (decide_eq_false hp1415) ?_
      refine wp_skip ?_
      refine thenN (hK1409 _ _ ?_); clear hK1409
      refine wp_seq_k (fun K1418 hK1419 => ?_)
      refine wp_region_lit ?_
      refine stepp ha 13 (.int .i64 a1) KR KR ?_; clear ha a; intro a ha
      obtain ⟨hA1420, h_⟩ := asrt_some h; clear h; have h := h_; clear h_
      obtain ⟨hA1421, h_⟩ := asrt_some h; clear h; have h := h_; clear h_
      refine stepmk (encIK .u8) (0 : Int) ha HW 14 171 5 (.tmp 13) (.tmp 13) .i64 .i64 a1 (.int .u8 0) 1 rfl KR KR KR KR rfl rfl hA1420 (by have := hA1421; omega) (by have := hA1421; omega) KR ?_; clear ha HW a; intro b1422 a W1423 HW ha
      refine stepp ha 5 (.slice (some ⟨b1422, 0, none⟩) (List.replicate (a1 : Int).toNat (0 : Int)).length ((a1 : Int).toNat)) KR KR ?_; clear ha a; intro a ha
      refine endl ?_
      refine thenN (hK1419 _ _ ?_); clear hK1419
      refine wp_seq_k (fun K1425 hK1426 => ?_)
      refine wp_seq_k (fun K1427 hK1428 => ?_)
      refine wp_region_lit ?_
      refine stepp ha 15 (.int .i64 a1) KR KR ?_; clear ha a; intro a ha
      refine stepp ha 16 (.int .i64 (IntKind.wrap .i64 (a1 - 1))) KR KR ?_; clear ha a; intro a ha
      refine stepp ha 6 (.int .i64 (IntKind.wrap .i64 (a1 - 1))) KR KR ?_; clear ha a; intro a ha
      refine endl ?_
      refine thenN (hK1428 _ _ ?_); clear hK1428
      refine wp_block ?_
      refine loopk (fun k => fun a W1472 => ∃ (x1466 : Int), ∃ (x1467 : List Int), ∃ A1468, ∃ c1469, ∃ (x1471 : Int), headgateref01_PutBig.l0 K  k x1466 x1467 x1471 = some r ∧ Has 31 [(0, .int .u64 x1466), (5, .slice A1468 x1467.length c1469), (6, .int .i64 x1471)] a ∧ Wd w W1472 [] [⟨5, 1, .slice A1468 x1467.length c1469, x1467.length, encs (encIK .u8) x1467⟩]) K ?_ ?_
      · skip
        exact ⟨a0, List.replicate (a1 : Int).toNat (0 : Int), some ⟨b1422, 0, none⟩, (a1 : Int).toNat, IntKind.wrap .i64 (a1 - 1), h, ha.sub (subs_cons KR (subs_cons KR (subs_cons KR (subs_nil _)))), HW.pick [] [0] (by decide) (by decide) KR KR⟩
      · skip
        intro k a W1472 hI
        obtain ⟨x1466, x1467, A1468, c1469, x1471, h, ha, HW⟩ := hI
        cases k with
        | zero => exact (none_some (show none = some r from h)).elim
        | succ k1473 =>
          replace h : headgateref01_PutBig.b0 K  (headgateref01_PutBig.l0 K  k1473) x1466 x1467 x1471 = some r := h
          obtain ⟨again1465, hag1474⟩ : ∃ g_, g_ = headgateref01_PutBig.l0 K  k1473 := ⟨_, rfl⟩
          rw [← hag1474] at h
          unfold headgateref01_PutBig.b0 at h
          refine wp_seq_k (fun K1475 hK1476 => ?_)
          refine wp_seq_k (fun K1477 hK1478 => ?_)
          refine wp_region_lit ?_
          refine stepp ha 17 (.int .i64 x1471) KR KR ?_; clear ha a; intro a ha
          refine stepp ha 18 (.bool (decide (x1471 ≥ 0))) KR KR ?_; clear ha a; intro a ha
          refine endl ?_
          refine thenN (hK1478 _ _ ?_); clear hK1478
          by_cases hp1479 : x1471 ≥ 0
          · skip
            replace h := ite_pos' h hp1479
            refine condT ha KR KR (t := decide (x1471 ≥ 0)) (decide_eq_true hp1479) ?_
            refine wp_skip ?_
            refine thenN (hK1476 _ _ ?_); clear hK1476
            refine wp_seq_k (fun K1480 hK1481 => ?_)
            refine wp_block ?_
            refine wp_seq_k (fun K1482 hK1483 => ?_)
            refine wp_region_lit ?_
            refine stepp ha 21 (.slice A1468 x1467.length c1469) KR KR ?_; clear ha a; intro a ha
            refine stepp ha 22 (.int .i64 x1471) KR KR ?_; clear ha a; intro a ha
            refine stepp ha 23 (.int .u64 x1466) KR KR ?_; clear ha a; intro a ha
            refine stepp ha 24 (.int .u64 (Int.tmod x1466 256)) KR KR ?_; clear ha a; intro a ha
            refine stepp ha 25 (.int .u8 (IntKind.wrap .u8 (Int.tmod x1466 256))) KR KR ?_; clear ha a; intro a ha
            obtain ⟨hA1484, h_⟩ := asrt_some h; clear h; have h := h_; clear h_
            obtain ⟨hA1485, h_⟩ := asrt_some h; clear h; have h := h_; clear h_
            refine stepio (encIK .u8) ha HW 26 0 (sz := 1) (e := 5) (v := .slice A1468 x1467.length c1469) (xs := x1467) KR 171 (.tmp 21) (.tmp 22) .i64 x1471 rfl KR KR KR KR hA1484 (show (x1471 : Int) < ((x1467).length : Int) from hA1485) KR ?_; clear ha a; intro b1486 a hb1487 ha
            refine stepos (encIK .u8) (0 : Int) ha HW 0 (sz := 1) (e := 5) (fun _ => rfl) (v := .slice A1468 x1467.length c1469) (xs := x1467) KR hb1487 x1471 hA1484 (show (x1471 : Int) < ((x1467).length : Int) from hA1485) 5 0 (.tmp 26) (.tmp 25) (.int .u8 (IntKind.wrap .u8 (Int.tmod x1466 256))) (IntKind.wrap .u8 (Int.tmod x1466 256)) rfl KR KR KR KR KR KR KR (.slice A1468 (x1467.set (x1471 : Int).toNat (IntKind.wrap .u8 (Int.tmod x1466 256))).length c1469) (by rw [List.length_set]) ?_; clear ha HW a; intro a W1488 HW ha
            replace ha := ha.turn 5 (v := .slice A1468 (x1467.set (x1471 : Int).toNat (IntKind.wrap .u8 (Int.tmod x1466 256))).length c1469) KR (by rw [List.length_set])
            replace ha := ha.turn 21 (v := .slice A1468 (x1467.set (x1471 : Int).toNat (IntKind.wrap .u8 (Int.tmod x1466 256))).length c1469) KR (by rw [List.length_set])
            replace HW : Wd w W1488 [] [⟨5, 1, .slice A1468 (x1467.set (x1471 : Int).toNat (IntKind.wrap .u8 (Int.tmod x1466 256))).length c1469, (x1467.set (x1471 : Int).toNat (IntKind.wrap .u8 (Int.tmod x1466 256))).length, encs (encIK .u8) (x1467.set (x1471 : Int).toNat (IntKind.wrap .u8 (Int.tmod x1466 256)))⟩] := HW
            refine endl ?_
            refine thenN (hK1483 _ _ ?_); clear hK1483
            refine wp_region_lit ?_
            refine stepp ha 27 (.int .u64 x1466) KR KR ?_; clear ha a; intro a ha
            refine stepp ha 28 (.int .u64 (IntKind.wrap .u64 (Int.tdiv x1466 256))) KR KR ?_; clear ha a; intro a ha
            refine stepp ha 0 (.int .u64 (IntKind.wrap .u64 (Int.tdiv x1466 256))) KR KR ?_; clear ha a; intro a ha
            refine endl ?_
            refine blkN ?_
            refine thenN (hK1481 _ _ ?_); clear hK1481
            refine wp_region_lit ?_
            refine stepp ha 19 (.int .i64 x1471) KR KR ?_; clear ha a; intro a ha
            refine stepp ha 20 (.int .i64 (IntKind.wrap .i64 (x1471 - 1))) KR KR ?_; clear ha a; intro a ha
            refine stepp ha 6 (.int .i64 (IntKind.wrap .i64 (x1471 - 1))) KR KR ?_; clear ha a; intro a ha
            refine endl ?_
            exact thenN ⟨k1473, Nat.lt_succ_self k1473, IntKind.wrap .u64 (Int.tdiv x1466 256), x1467.set (x1471 : Int).toNat (IntKind.wrap .u8 (Int.tmod x1466 256)), A1468, c1469, IntKind.wrap .i64 (x1471 - 1), (by rw [← hag1474]; exact h), ha.sub (subs_cons KR (subs_cons KR (subs_cons KR (subs_nil _)))), HW.pick [] [0] (by decide) (by decide) KR KR⟩
          · skip
            replace h := ite_neg' h hp1479
            refine condF ha KR KR (t := decide (x1471 ≥ 0)) (decide_eq_false hp1479) ?_
            refine wp_exit ?_
            refine thenE ?_
            refine thenE ?_
            refine inBlk ?_
            refine thenN (hK1426 _ _ ?_); clear hK1426
            refine wp_seq_k (fun K1489 hK1490 => ?_)
            refine wp_region_lit ?_
            refine stepp ha 29 (.slice A1468 x1467.length c1469) KR KR ?_; clear ha a; intro a ha
            refine stepbt ha 30 171 9 5 (.tmp 29) (v := .slice A1468 x1467.length c1469) (xs := x1467) (HW.rdo (i := 0) (q := ⟨5, 1, .slice A1468 x1467.length c1469, x1467.length, encs (encIK .u8) x1467⟩) KR) rfl KR KR KR KR KR ?_; clear ha a; intro a ha
            refine stepp ha 4 (.string (strOfNums x1467)) KR KR ?_; clear ha a; intro a ha
            refine endl ?_
            refine thenN (hK1490 _ _ ?_); clear hK1490
            refine wp_ret ?_
            obtain rfl := Option.some.inj h
            exact finv ha _ _ rfl (.tmp (v := .string (strOfNums x1467)) KR .nil) (.string (strOfNums x1467)) rfl ⟨rfl, HW.pick [] [] (by decide) (by decide) rfl KR⟩
/-! ### headgate/cdb.Number: function 177 -/
def cdb_Number.f (a0 : Int) : Option Int :=
  if a0 < 1 then (some 0) else (if a0 > 6 then (some 0) else (asrt (0 ≤ a0) (asrt (a0 < 7) (some (rdL (0 : Int) G_cdb_numbers a0)))))
set_option maxRecDepth 100000 in
set_option maxHeartbeats 4000000 in
theorem cdb_Number.calls (a0 : Int)  (r : Int) (w : World) (hG3 : CA w 3 0 (encs (encIK .i64) G_cdb_numbers).toArray) (h : cdb_Number.f a0 = some r) :
    Calls Tryz.prog 177 #[.int .i64 a0] w (fun e W' => e = .returned (.int .i64 r) ∧ Wd w W' [] [] ) := by
  refine sxstart (n := 12) (l := [(0, .int .i64 a0)]) Tryz.func177 rfl rfl (Nat.le_of_ble_eq_true KR) (subsA_cons rfl (subsA_nil _)) ?_
  intro a ha
  have HW := Wd.refl w
  unfold cdb_Number.f at h
  refine wp_seq_k (fun K6189 hK6190 => ?_)
  refine wp_region_lit ?_
  refine stepp ha 2 (.int .i64 0) KR KR ?_; clear ha a; intro a ha
  refine endl ?_
  refine thenN (hK6190 _ _ ?_); clear hK6190
  refine wp_seq_k (fun K6191 hK6192 => ?_)
  refine wp_seq_k (fun K6193 hK6194 => ?_)
  refine wp_region_lit ?_
  refine stepp ha 3 (.int .i64 a0) KR KR ?_; clear ha a; intro a ha
  refine stepp ha 4 (.bool (decide (a0 < 1))) KR KR ?_; clear ha a; intro a ha
  refine stepp ha 5 (.bool (decide (a0 < 1))) KR KR ?_; clear ha a; intro a ha
  by_cases hp6195 : a0 < 1
  · skip
    replace h := ite_pos' h hp6195
    replace ha := ha.bool 5 KR (decide_eq_true hp6195)
    refine stepo ha 6 KR ?_; clear ha a; intro a ha
    refine stepo ha 7 KR ?_; clear ha a; intro a ha
    refine stepp ha 8 (.bool true) KR KR ?_; clear ha a; intro a ha
    refine endl ?_
    refine thenN (hK6194 _ _ ?_); clear hK6194
    refine condT ha KR KR (t := true) (rfl) ?_
    refine wp_seq_k (fun K6196 hK6197 => ?_)
    refine wp_region_lit ?_
    refine stepp ha 2 (.int .i64 0) KR KR ?_; clear ha a; intro a ha
    refine endl ?_
    refine thenN (hK6197 _ _ ?_); clear hK6197
    refine wp_ret ?_
    refine thenR ?_
    obtain rfl := Option.some.inj h
    exact finv ha _ _ rfl (.tmp (v := .int .i64 0) KR .nil) (.int .i64 0) rfl ⟨rfl, HW.pick [] [] (by decide) (by decide) rfl KR⟩
  · skip
    replace h := ite_neg' h hp6195
    replace ha := ha.bool 5 KR (decide_eq_false hp6195)
    refine stepp ha 6 (.int .i64 a0) KR KR ?_; clear ha a; intro a ha
    refine stepp ha 7 (.bool (decide (a0 > 6))) KR KR ?_; clear ha a; intro a ha
    refine stepp ha 8 (.bool (decide (a0 > 6))) KR KR ?_; clear ha a; intro a ha
    refine endl ?_
    refine thenN (hK6194 _ _ ?_); clear hK6194
    by_cases hp6198 : a0 > 6
    · skip
      replace h := ite_pos' h hp6198
      refine condT ha KR KR (t := decide (a0 > 6)) (decide_eq_true hp6198) ?_
      refine wp_seq_k (fun K6199 hK6200 => ?_)
      refine wp_region_lit ?_
      refine stepp ha 2 (.int .i64 0) KR KR ?_; clear ha a; intro a ha
      refine endl ?_
      refine thenN (hK6200 _ _ ?_); clear hK6200
      refine wp_ret ?_
      refine thenR ?_
      obtain rfl := Option.some.inj h
      exact finv ha _ _ rfl (.tmp (v := .int .i64 0) KR .nil) (.int .i64 0) rfl ⟨rfl, HW.pick [] [] (by decide) (by decide) rfl KR⟩
    · skip
      replace h := ite_neg' h hp6198
      refine condF ha KR KR (t := decide (a0 > 6)) (decide_eq_false hp6198) ?_
      refine wp_skip ?_
      refine thenN (hK6192 _ _ ?_); clear hK6192
      refine wp_seq_k (fun K6201 hK6202 => ?_)
      refine wp_region_lit ?_
      refine stepp ha 9 (.int .i64 a0) KR KR ?_; clear ha a; intro a ha
      obtain ⟨hA6203, h_⟩ := asrt_some h; clear h; have h := h_; clear h_
      obtain ⟨hA6204, h_⟩ := asrt_some h; clear h; have h := h_; clear h_
      refine stepiw ha 10 (sz := 1) 3 0 270 7 3 (.global 3) (.tmp 9) .i64 a0 rfl KR KR KR KR hA6203 hA6204 KR ?_; clear ha a; intro a ha
      refine stepl ha 11 (CA.el (encIK .i64) (0 : Int) (fun _ => rfl) (HW.ca0 hG3) G_cdb_numbers rfl (len := 7) rfl hA6203 hA6204) 3 0 (.tmp 10) (.int .i64 (rdL (0 : Int) G_cdb_numbers a0)) rfl KR KR KR ?_; clear ha a; intro a ha
      refine stepp ha 2 (.int .i64 (rdL (0 : Int) G_cdb_numbers a0)) KR KR ?_; clear ha a; intro a ha
      refine endl ?_
      refine thenN (hK6202 _ _ ?_); clear hK6202
      refine wp_ret ?_
      obtain rfl := Option.some.inj h
      exact finv ha _ _ rfl (.tmp (v := .int .i64 (rdL (0 : Int) G_cdb_numbers a0)) KR .nil) (.int .i64 (rdL (0 : Int) G_cdb_numbers a0)) rfl ⟨rfl, HW.pick [] [] (by decide) (by decide) rfl KR⟩
/-! ### headgate/headgatekeep.Block: function 38 -/
def headgatekeep_Block.b0 (K : Nat) (a0 : Int) (again6555 : (List Int) → Int → Option ByteArray) (x6556 : List Int) (x6560 : Int) : Option ByteArray :=
  if x6560 < (x6556.length : Int) then (asrt (0 ≤ x6560) (again6555 (x6556.set (x6560 : Int).toNat a0) (IntKind.wrap .i64 (x6560 + 1)))) else (some (strOfNums x6556))
def headgatekeep_Block.l0 (K : Nat) (a0 : Int) : Nat → (List Int) → Int → Option ByteArray
  | 0, _, _ => none
  | k_ + 1, x6556, x6560 => headgatekeep_Block.b0 K a0 (headgatekeep_Block.l0 K a0 k_) x6556 x6560
def headgatekeep_Block.f (K : Nat) (a0 : Int) : Option ByteArray :=
  headgatekeep_Block.l0 K a0 K (List.replicate (512 : Int).toNat (0 : Int)) 0
set_option maxRecDepth 100000 in
set_option maxHeartbeats 4000000 in
theorem headgatekeep_Block.calls (K : Nat) (a0 : Int)  (r : ByteArray) (w : World)  (h : headgatekeep_Block.f K a0 = some r) :
    Calls Tryz.prog 38 #[.int .u8 a0] w (fun e W' => e = .returned (.string r) ∧ Wd w W' [] [] ) := by
  refine sxstart (n := 18) (l := [(0, .int .u8 a0)]) Tryz.func38 rfl rfl (Nat.le_of_ble_eq_true KR) (subsA_cons rfl (subsA_nil _)) ?_
  intro a ha
  have HW := Wd.refl w
  unfold headgatekeep_Block.f at h
  refine wp_seq_k (fun K6515 hK6516 => ?_)
  refine wp_region_lit ?_
  refine stepp ha 2 (.string (⟨#[]⟩ : ByteArray)) KR KR ?_; clear ha a; intro a ha
  refine endl ?_
  refine thenN (hK6516 _ _ ?_); clear hK6516
  refine wp_seq_k (fun K6517 hK6518 => ?_)
  refine wp_region_lit ?_
  refine stepmk (encIK .u8) (0 : Int) ha HW 5 171 5 (.const (.int .i64 512)) (.const (.int .i64 512)) .i64 .i64 512 (.int .u8 0) 1 rfl KR KR KR KR rfl rfl (by decide) (by have := (show (512 : Int) ≤ 281474976710656 by decide); omega) (by have := (show (512 : Int) ≤ 281474976710656 by decide); omega) KR ?_; clear ha HW a; intro b6519 a W6520 HW ha
  refine stepp ha 3 (.slice (some ⟨b6519, 0, none⟩) (List.replicate (512 : Int).toNat (0 : Int)).length ((512 : Int).toNat)) KR KR ?_; clear ha a; intro a ha
  refine endl ?_
  refine thenN (hK6518 _ _ ?_); clear hK6518
  refine wp_seq_k (fun K6522 hK6523 => ?_)
  refine wp_seq_k (fun K6524 hK6525 => ?_)
  refine wp_region_lit ?_
  refine stepp ha 4 (.int .i64 0) KR KR ?_; clear ha a; intro a ha
  refine endl ?_
  refine thenN (hK6525 _ _ ?_); clear hK6525
  refine wp_block ?_
  refine loopk (fun k => fun a W6561 => ∃ (x6556 : List Int), ∃ A6557, ∃ c6558, ∃ (x6560 : Int), headgatekeep_Block.l0 K a0 k x6556 x6560 = some r ∧ Has 18 [(0, .int .u8 a0), (3, .slice A6557 x6556.length c6558), (4, .int .i64 x6560)] a ∧ Wd w W6561 [] [⟨5, 1, .slice A6557 x6556.length c6558, x6556.length, encs (encIK .u8) x6556⟩]) K ?_ ?_
  · skip
    exact ⟨List.replicate (512 : Int).toNat (0 : Int), some ⟨b6519, 0, none⟩, (512 : Int).toNat, 0, h, ha.sub (subs_cons KR (subs_cons KR (subs_cons KR (subs_nil _)))), HW.pick [] [0] (by decide) (by decide) KR KR⟩
  · skip
    intro k a W6561 hI
    obtain ⟨x6556, A6557, c6558, x6560, h, ha, HW⟩ := hI
    cases k with
    | zero => exact (none_some (show none = some r from h)).elim
    | succ k6562 =>
      replace h : headgatekeep_Block.b0 K a0 (headgatekeep_Block.l0 K a0 k6562) x6556 x6560 = some r := h
      obtain ⟨again6555, hag6563⟩ : ∃ g_, g_ = headgatekeep_Block.l0 K a0 k6562 := ⟨_, rfl⟩
      rw [← hag6563] at h
      unfold headgatekeep_Block.b0 at h
      refine wp_seq_k (fun K6564 hK6565 => ?_)
      refine wp_seq_k (fun K6566 hK6567 => ?_)
      refine wp_region_lit ?_
      refine stepp ha 6 (.int .i64 x6560) KR KR ?_; clear ha a; intro a ha
      refine stepp ha 7 (.slice A6557 x6556.length c6558) KR KR ?_; clear ha a; intro a ha
      refine stepp ha 8 (.int .i64 (x6556.length : Int)) KR KR ?_; clear ha a; intro a ha
      refine stepp ha 9 (.bool (decide (x6560 < (x6556.length : Int)))) KR KR ?_; clear ha a; intro a ha
      refine endl ?_
      refine thenN (hK6567 _ _ ?_); clear hK6567
      by_cases hp6568 : x6560 < (x6556.length : Int)
      · skip
        replace h := ite_pos' h hp6568
        refine condT ha KR KR (t := decide (x6560 < (x6556.length : Int))) (decide_eq_true hp6568) ?_
        refine wp_skip ?_
        refine thenN (hK6565 _ _ ?_); clear hK6565
        refine wp_seq_k (fun K6569 hK6570 => ?_)
        refine wp_block ?_
        refine wp_region_lit ?_
        refine stepp ha 12 (.slice A6557 x6556.length c6558) KR KR ?_; clear ha a; intro a ha
        refine stepp ha 13 (.int .i64 x6560) KR KR ?_; clear ha a; intro a ha
        refine stepp ha 14 (.int .u8 a0) KR KR ?_; clear ha a; intro a ha
        obtain ⟨hA6571, h_⟩ := asrt_some h; clear h; have h := h_; clear h_
        refine stepio (encIK .u8) ha HW 15 0 (sz := 1) (e := 5) (v := .slice A6557 x6556.length c6558) (xs := x6556) KR 171 (.tmp 12) (.tmp 13) .i64 x6560 rfl KR KR KR KR hA6571 (show (x6560 : Int) < ((x6556).length : Int) from hp6568) KR ?_; clear ha a; intro b6572 a hb6573 ha
        refine stepos (encIK .u8) (0 : Int) ha HW 0 (sz := 1) (e := 5) (fun _ => rfl) (v := .slice A6557 x6556.length c6558) (xs := x6556) KR hb6573 x6560 hA6571 (show (x6560 : Int) < ((x6556).length : Int) from hp6568) 5 0 (.tmp 15) (.tmp 14) (.int .u8 a0) a0 rfl KR KR KR KR KR KR KR (.slice A6557 (x6556.set (x6560 : Int).toNat a0).length c6558) (by rw [List.length_set]) ?_; clear ha HW a; intro a W6574 HW ha
        replace ha := ha.turn 3 (v := .slice A6557 (x6556.set (x6560 : Int).toNat a0).length c6558) KR (by rw [List.length_set])
        replace ha := ha.turn 7 (v := .slice A6557 (x6556.set (x6560 : Int).toNat a0).length c6558) KR (by rw [List.length_set])
        replace ha := ha.turn 12 (v := .slice A6557 (x6556.set (x6560 : Int).toNat a0).length c6558) KR (by rw [List.length_set])
        replace HW : Wd w W6574 [] [⟨5, 1, .slice A6557 (x6556.set (x6560 : Int).toNat a0).length c6558, (x6556.set (x6560 : Int).toNat a0).length, encs (encIK .u8) (x6556.set (x6560 : Int).toNat a0)⟩] := HW
        refine endl ?_
        refine blkN ?_
        refine thenN (hK6570 _ _ ?_); clear hK6570
        refine wp_region_lit ?_
        refine stepp ha 10 (.int .i64 x6560) KR KR ?_; clear ha a; intro a ha
        refine stepp ha 11 (.int .i64 (IntKind.wrap .i64 (x6560 + 1))) KR KR ?_; clear ha a; intro a ha
        refine stepp ha 4 (.int .i64 (IntKind.wrap .i64 (x6560 + 1))) KR KR ?_; clear ha a; intro a ha
        refine endl ?_
        exact thenN ⟨k6562, Nat.lt_succ_self k6562, x6556.set (x6560 : Int).toNat a0, A6557, c6558, IntKind.wrap .i64 (x6560 + 1), (by rw [← hag6563]; exact h), ha.sub (subs_cons KR (subs_cons KR (subs_cons KR (subs_nil _)))), HW.pick [] [0] (by decide) (by decide) KR KR⟩
      · skip
        replace h := ite_neg' h hp6568
        refine condF ha KR KR (t := decide (x6560 < (x6556.length : Int))) (decide_eq_false hp6568) ?_
        refine wp_exit ?_
        refine thenE ?_
        refine thenE ?_
        refine inBlk ?_
        refine thenN (hK6523 _ _ ?_); clear hK6523
        refine wp_seq_k (fun K6575 hK6576 => ?_)
        refine wp_region_lit ?_
        refine stepp ha 16 (.slice A6557 x6556.length c6558) KR KR ?_; clear ha a; intro a ha
        refine stepbt ha 17 171 9 5 (.tmp 16) (v := .slice A6557 x6556.length c6558) (xs := x6556) (HW.rdo (i := 0) (q := ⟨5, 1, .slice A6557 x6556.length c6558, x6556.length, encs (encIK .u8) x6556⟩) KR) rfl KR KR KR KR KR ?_; clear ha a; intro a ha
        refine stepp ha 2 (.string (strOfNums x6556)) KR KR ?_; clear ha a; intro a ha
        refine endl ?_
        refine thenN (hK6576 _ _ ?_); clear hK6576
        refine wp_ret ?_
        obtain rfl := Option.some.inj h
        exact finv ha _ _ rfl (.tmp (v := .string (strOfNums x6556)) KR .nil) (.string (strOfNums x6556)) rfl ⟨rfl, HW.pick [] [] (by decide) (by decide) rfl KR⟩
/-! ### headgate/headgateref15.Number: function 84 -/
def headgateref15_Number.b0 (K : Nat) (a0 : Int) (again9871 : Int → Option Int) (x9872 : Int) : Option Int :=
  if x9872 ≤ 8 then (if a0 = 0 then (again9871 (IntKind.wrap .i64 (x9872 + 1))) else ((headgateref15_Type.f x9872).bind fun t9886 => (if t9886 = a0 then (some x9872) else (again9871 (IntKind.wrap .i64 (x9872 + 1)))))) else (some 0)
def headgateref15_Number.l0 (K : Nat) (a0 : Int) : Nat → Int → Option Int
  | 0, _ => none
  | k_ + 1, x9872 => headgateref15_Number.b0 K a0 (headgateref15_Number.l0 K a0 k_) x9872
def headgateref15_Number.f (K : Nat) (a0 : Int) : Option Int :=
  headgateref15_Number.l0 K a0 K 1
set_option maxRecDepth 100000 in
set_option maxHeartbeats 4000000 in
theorem headgateref15_Number.calls (K : Nat) (a0 : Int)  (r : Int) (w : World)  (h : headgateref15_Number.f K a0 = some r) :
    Calls Tryz.prog 84 #[.int .i64 a0] w (fun e W' => e = .returned (.int .i64 r) ∧ Wd w W' [] [] ) := by
  refine sxstart (n := 17) (l := [(0, .int .i64 a0)]) Tryz.func84 rfl rfl (Nat.le_of_ble_eq_true KR) (subsA_cons rfl (subsA_nil _)) ?_
  intro a ha
  have HW := Wd.refl w
  unfold headgateref15_Number.f at h
  refine wp_seq_k (fun K9829 hK9830 => ?_)
  refine wp_region_lit ?_
  refine stepp ha 2 (.int .i64 0) KR KR ?_; clear ha a; intro a ha
  refine endl ?_
  refine thenN (hK9830 _ _ ?_); clear hK9830
  refine wp_seq_k (fun K9831 hK9832 => ?_)
  refine wp_seq_k (fun K9833 hK9834 => ?_)
  refine wp_region_lit ?_
  refine stepp ha 3 (.int .i64 1) KR KR ?_; clear ha a; intro a ha
  refine endl ?_
  refine thenN (hK9834 _ _ ?_); clear hK9834
  refine wp_block ?_
  refine loopk (fun k => fun a W9873 => ∃ (x9872 : Int), headgateref15_Number.l0 K a0 k x9872 = some r ∧ Has 17 [(0, .int .i64 a0), (3, .int .i64 x9872)] a ∧ Wd w W9873 [] []) K ?_ ?_
  · skip
    exact ⟨1, h, ha.sub (subs_cons KR (subs_cons KR (subs_nil _))), HW.pick [] [] (by decide) (by decide) KR KR⟩
  · skip
    intro k a W9873 hI
    obtain ⟨x9872, h, ha, HW⟩ := hI
    cases k with
    | zero => exact (none_some (show none = some r from h)).elim
    | succ k9874 =>
      replace h : headgateref15_Number.b0 K a0 (headgateref15_Number.l0 K a0 k9874) x9872 = some r := h
      obtain ⟨again9871, hag9875⟩ : ∃ g_, g_ = headgateref15_Number.l0 K a0 k9874 := ⟨_, rfl⟩
      rw [← hag9875] at h
      unfold headgateref15_Number.b0 at h
      refine wp_seq_k (fun K9876 hK9877 => ?_)
      refine wp_seq_k (fun K9878 hK9879 => ?_)
      refine wp_region_lit ?_
      refine stepp ha 4 (.int .i64 x9872) KR KR ?_; clear ha a; intro a ha
      refine stepp ha 5 (.bool (decide (x9872 ≤ 8))) KR KR ?_; clear ha a; intro a ha
      refine endl ?_
      refine thenN (hK9879 _ _ ?_); clear hK9879
      by_cases hp9880 : x9872 ≤ 8
      · skip
        replace h := ite_pos' h hp9880
        refine condT ha KR KR (t := decide (x9872 ≤ 8)) (decide_eq_true hp9880) ?_
        refine wp_skip ?_
        refine thenN (hK9877 _ _ ?_); clear hK9877
        refine wp_seq_k (fun K9881 hK9882 => ?_)
        refine wp_block ?_
        refine wp_seq_k (fun K9883 hK9884 => ?_)
        refine wp_region_lit ?_
        refine stepp ha 8 (.int .i64 a0) KR KR ?_; clear ha a; intro a ha
        refine stepp ha 9 (.bool (a0 != 0)) KR KR ?_; clear ha a; intro a ha
        refine stepp ha 10 (.bool (a0 != 0)) KR KR ?_; clear ha a; intro a ha
        by_cases hp9885 : a0 = 0
        · skip
          replace h := ite_pos' h hp9885
          replace ha := ha.bool 10 KR (ineq_f hp9885)
          refine stepo ha 11 KR ?_; clear ha a; intro a ha
          refine stepo ha 12 KR ?_; clear ha a; intro a ha
          refine stepo ha 13 KR ?_; clear ha a; intro a ha
          refine stepo ha 14 KR ?_; clear ha a; intro a ha
          refine stepp ha 15 (.bool false) KR KR ?_; clear ha a; intro a ha
          refine endl ?_
          refine thenN (hK9884 _ _ ?_); clear hK9884
          refine condF ha KR KR (t := false) (rfl) ?_
          refine wp_skip ?_
          refine blkN ?_
          refine thenN (hK9882 _ _ ?_); clear hK9882
          refine wp_region_lit ?_
          refine stepp ha 6 (.int .i64 x9872) KR KR ?_; clear ha a; intro a ha
          refine stepp ha 7 (.int .i64 (IntKind.wrap .i64 (x9872 + 1))) KR KR ?_; clear ha a; intro a ha
          refine stepp ha 3 (.int .i64 (IntKind.wrap .i64 (x9872 + 1))) KR KR ?_; clear ha a; intro a ha
          refine endl ?_
          exact thenN ⟨k9874, Nat.lt_succ_self k9874, IntKind.wrap .i64 (x9872 + 1), (by rw [← hag9875]; exact h), ha.sub (subs_cons KR (subs_cons KR (subs_nil _))), HW.pick [] [] (by decide) (by decide) KR KR⟩
        · skip
          replace h := ite_neg' h hp9885
          replace ha := ha.bool 10 KR (ineq_t hp9885)
          refine stepp ha 11 (.int .i64 x9872) KR KR ?_; clear ha a; intro a ha
          obtain ⟨t9886, ht9887, h_⟩ := bind_some' h; clear h; have h := h_; clear h_
          refine stepc ha 12 KR KR (headgateref15_Type.calls x9872 t9886 _ ht9887) ?_; clear ha a; rintro e W9888 ⟨rfl, HX9889⟩
          refine ⟨_, rfl, ?_⟩; intro a ha; replace HW := HW.callw HX9889; clear HX9889
          refine stepp ha 13 (.int .i64 a0) KR KR ?_; clear ha a; intro a ha
          refine stepp ha 14 (.bool (t9886 == a0)) KR KR ?_; clear ha a; intro a ha
          refine stepp ha 15 (.bool (t9886 == a0)) KR KR ?_; clear ha a; intro a ha
          refine endl ?_
          refine thenN (hK9884 _ _ ?_); clear hK9884
          by_cases hp9890 : t9886 = a0
          · skip
            replace h := ite_pos' h hp9890
            refine condT ha KR KR (t := (t9886 == a0)) (ieq_t hp9890) ?_
            refine wp_seq_k (fun K9891 hK9892 => ?_)
            refine wp_region_lit ?_
            refine stepp ha 16 (.int .i64 x9872) KR KR ?_; clear ha a; intro a ha
            refine stepp ha 2 (.int .i64 x9872) KR KR ?_; clear ha a; intro a ha
            refine endl ?_
            refine thenN (hK9892 _ _ ?_); clear hK9892
            refine wp_ret ?_
            refine blkR ?_
            refine thenR ?_
            refine thenR ?_
            refine blkR ?_
            refine thenR ?_
            obtain rfl := Option.some.inj h
            exact finv ha _ _ rfl (.tmp (v := .int .i64 x9872) KR .nil) (.int .i64 x9872) rfl ⟨rfl, HW.pick [] [] (by decide) (by decide) rfl KR⟩
          · skip
            replace h := ite_neg' h hp9890
            refine condF ha KR KR (t := (t9886 == a0)) (ieq_f hp9890) ?_
            refine wp_skip ?_
            refine blkN ?_
            refine thenN (hK9882 _ _ ?_); clear hK9882
            refine wp_region_lit ?_
            refine stepp ha 6 (.int .i64 x9872) KR KR ?_; clear ha a; intro a ha
            refine stepp ha 7 (.int .i64 (IntKind.wrap .i64 (x9872 + 1))) KR KR ?_; clear ha a; intro a ha
            refine stepp ha 3 (.int .i64 (IntKind.wrap .i64 (x9872 + 1))) KR KR ?_; clear ha a; intro a ha
            refine endl ?_
            exact thenN ⟨k9874, Nat.lt_succ_self k9874, IntKind.wrap .i64 (x9872 + 1), (by rw [← hag9875]; exact h), ha.sub (subs_cons KR (subs_cons KR (subs_nil _))), HW.pick [] [] (by decide) (by decide) KR KR⟩
      · skip
        replace h := ite_neg' h hp9880
        refine condF ha KR KR (t := decide (x9872 ≤ 8)) (decide_eq_false hp9880) ?_
        refine wp_exit ?_
        refine thenE ?_
        refine thenE ?_
        refine inBlk ?_
        refine thenN (hK9832 _ _ ?_); clear hK9832
        refine wp_seq_k (fun K9893 hK9894 => ?_)
        refine wp_region_lit ?_
        refine stepp ha 2 (.int .i64 0) KR KR ?_; clear ha a; intro a ha
        refine endl ?_
        refine thenN (hK9894 _ _ ?_); clear hK9894
        refine wp_ret ?_
        obtain rfl := Option.some.inj h
        exact finv ha _ _ rfl (.tmp (v := .int .i64 0) KR .nil) (.int .i64 0) rfl ⟨rfl, HW.pick [] [] (by decide) (by decide) rfl KR⟩
end Go.Proofs.YteilejfncdacfaaGreatDoor.F
