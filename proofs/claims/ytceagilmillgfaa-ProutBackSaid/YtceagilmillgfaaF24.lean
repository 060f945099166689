/- headgate/fields.put[uint64]: a plain function, and that the call comes to what it says. No condition. -/
import Derived.Test.YtceagilmillgfaaFT
import Derived.Test.YtceagilmillgfaaF25
namespace Go.Proofs.Ytceagilmillgfaa.F
open Go Go.RowKit Go.Proofs.Ytceagilmillgfaa.X
set_option linter.unusedVariables false
set_option linter.unusedSimpArgs false
/-! ### headgate/fields.put[uint64]: function 24 -/
def fields_put_uint64.b0 (K : Nat) (a0 : Int) (t379 : List Int) (again440 : (List Int) → Int → Option ByteArray) (x441 : List Int) (x445 : Int) : Option ByteArray :=
  if x445 < (t379.length : Int) then (asrt (0 ≤ x445) (asrt (0 ≤ (rdL (0 : Int) t379 x445)) (asrt (x441.length + ([IntKind.wrap .u8 (sshr .u64 a0 (rdL (0 : Int) t379 x445))] : List Int).length ≤ 140737488355328) (again440 (x441 ++ ([IntKind.wrap .u8 (sshr .u64 a0 (rdL (0 : Int) t379 x445))] : List Int)) (IntKind.wrap .i64 (x445 + 1)))))) else (some (strOfNums x441))
def fields_put_uint64.l0 (K : Nat) (a0 : Int) (t379 : List Int) : Nat → (List Int) → Int → Option ByteArray
  | 0, _, _ => none
  | k_ + 1, x441, x445 => fields_put_uint64.b0 K a0 t379 (fields_put_uint64.l0 K a0 t379 k_) x441 x445
def fields_put_uint64.f (K : Nat) (a0 : Int) (a1 : Int) (a2 : Bool) : Option ByteArray :=
  if a1 < 1 then (some (⟨#[]⟩ : ByteArray)) else (if a1 > 8 then (some (⟨#[]⟩ : ByteArray)) else ((fields_shifts.f K a1 a2).bind fun t379 => (fields_put_uint64.l0 K a0 t379 K ([] : List Int) 0)))
set_option maxRecDepth 100000 in
set_option maxHeartbeats 4000000 in
theorem fields_put_uint64.calls (K : Nat) (a0 : Int) (a1 : Int) (a2 : Bool)  (r : ByteArray) (w : World)  (h : fields_put_uint64.f K a0 a1 a2 = some r) :
    Calls Try.prog 24 #[.int .u64 a0, .int .i64 a1, .bool a2] w (fun e W' => e = .returned (.string r) ∧ Wd w W' [] [] ) := by
  refine sxstart (n := 34) (l := [(0, .int .u64 a0), (1, .int .i64 a1), (2, .bool a2)]) Try.func24 rfl rfl (Nat.le_of_ble_eq_true (by kernel_rfl)) (subsA_cons rfl (subsA_cons rfl (subsA_cons rfl (subsA_nil _)))) ?_
  intro a ha
  have HW := Wd.refl w
  unfold fields_put_uint64.f at h
  refine wp_seq_k (fun K361 hK362 => ?_)
  refine wp_region_lit ?_
  refine stepp ha 6 (.string (⟨#[]⟩ : ByteArray)) (by kernel_rfl) (by kernel_rfl) ?_; clear ha a; intro a ha
  refine endl ?_
  refine thenN (hK362 _ _ ?_); clear hK362
  refine wp_seq_k (fun K363 hK364 => ?_)
  refine wp_seq_k (fun K365 hK366 => ?_)
  refine wp_region_lit ?_
  refine stepp ha 10 (.int .i64 a1) (by kernel_rfl) (by kernel_rfl) ?_; clear ha a; intro a ha
  refine stepp ha 11 (.bool (decide (a1 < 1))) (by kernel_rfl) (by kernel_rfl) ?_; clear ha a; intro a ha
  refine stepp ha 12 (.bool (decide (a1 < 1))) (by kernel_rfl) (by kernel_rfl) ?_; clear ha a; intro a ha
  by_cases hp367 : a1 < 1
  · skip
    replace h := ite_pos' h hp367
    replace ha := ha.bool 12 (by kernel_rfl) (decide_eq_true hp367)
    refine stepo ha 13 (by kernel_rfl) ?_; clear ha a; intro a ha
    refine stepo ha 14 (by kernel_rfl) ?_; clear ha a; intro a ha
    refine stepp ha 15 (.bool true) (by kernel_rfl) (by kernel_rfl) ?_; clear ha a; intro a ha
    refine endl ?_
    refine thenN (hK366 _ _ ?_); clear hK366
    refine condT ha (by kernel_rfl) (by kernel_rfl) (t := true) (rfl) ?_
    refine wp_seq_k (fun K368 hK369 => ?_)
    refine wp_region_lit ?_
    refine stepp ha 6 (.string (⟨#[]⟩ : ByteArray)) (by kernel_rfl) (by kernel_rfl) ?_; clear ha a; intro a ha
    refine endl ?_
    refine thenN (hK369 _ _ ?_); clear hK369
    refine wp_ret ?_
    refine thenR ?_
    obtain rfl := Option.some.inj h
    exact finv ha _ _ rfl (.tmp (v := .string (⟨#[]⟩ : ByteArray)) (by kernel_rfl) .nil) (.string (⟨#[]⟩ : ByteArray)) rfl ⟨rfl, HW.pick [] [] (by decide) (by decide) rfl (by kernel_rfl)⟩
  · skip
    replace h := ite_neg' h hp367
    replace ha := ha.bool 12 (by kernel_rfl) (decide_eq_false hp367)
    refine stepp ha 13 (.int .i64 a1) (by kernel_rfl) (by kernel_rfl) ?_; clear ha a; intro a ha
    refine stepp ha 14 (.bool (decide (a1 > 8))) (by kernel_rfl) (by kernel_rfl) ?_; clear ha a; intro a ha
    refine stepp ha 15 (.bool (decide (a1 > 8))) (by kernel_rfl) (by kernel_rfl) ?_; clear ha a; intro a ha
    refine endl ?_
    refine thenN (hK366 _ _ ?_); clear hK366
    by_cases hp370 : a1 > 8
    · skip
      replace h := ite_pos' h hp370
      refine condT ha (by kernel_rfl) (by kernel_rfl) (t := decide (a1 > 8)) (decide_eq_true hp370) ?_
      refine wp_seq_k (fun K371 hK372 => ?_)
      refine wp_region_lit ?_
      refine stepp ha 6 (.string (⟨#[]⟩ : ByteArray)) (by kernel_rfl) (by kernel_rfl) ?_; clear ha a; intro a ha
      refine endl ?_
      refine thenN (hK372 _ _ ?_); clear hK372
      refine wp_ret ?_
      refine thenR ?_
      obtain rfl := Option.some.inj h
      exact finv ha _ _ rfl (.tmp (v := .string (⟨#[]⟩ : ByteArray)) (by kernel_rfl) .nil) (.string (⟨#[]⟩ : ByteArray)) rfl ⟨rfl, HW.pick [] [] (by decide) (by decide) rfl (by kernel_rfl)⟩
    · skip
      replace h := ite_neg' h hp370
      refine condF ha (by kernel_rfl) (by kernel_rfl) (t := decide (a1 > 8)) (decide_eq_false hp370) ?_
      refine wp_skip ?_
      refine thenN (hK364 _ _ ?_); clear hK364
      refine wp_seq_k (fun K373 hK374 => ?_)
      refine wp_region_lit ?_
      refine stepp ha 7 (.slice none 0 0) (by kernel_rfl) (by kernel_rfl) ?_; clear ha a; intro a ha
      refine endl ?_
      refine thenN (hK374 _ _ ?_); clear hK374
      refine wp_seq_k (fun K375 hK376 => ?_)
      refine wp_seq_k (fun K377 hK378 => ?_)
      refine wp_region_lit ?_
      refine stepp ha 16 (.int .i64 a1) (by kernel_rfl) (by kernel_rfl) ?_; clear ha a; intro a ha
      refine stepp ha 17 (.bool a2) (by kernel_rfl) (by kernel_rfl) ?_; clear ha a; intro a ha
      obtain ⟨t379, ht380, h_⟩ := bind_some' h; clear h; have h := h_; clear h_
      refine stepc ha 18 (by kernel_rfl) (by kernel_rfl) (fields_shifts.calls K a1 a2 t379 _ ht380) ?_; clear ha a; rintro e W384 ⟨A381, c382, rfl, HX385⟩
      refine ⟨_, rfl, ?_⟩; intro a ha; replace HW := HW.callw HX385; clear HX385
      refine stepp ha 19 (.int .i64 (t379.length : Int)) (by kernel_rfl) (by kernel_rfl) ?_; clear ha a; intro a ha
      refine stepp ha 20 (.int .i64 0) (by kernel_rfl) (by kernel_rfl) ?_; clear ha a; intro a ha
      refine endl ?_
      refine thenN (hK378 _ _ ?_); clear hK378
      refine wp_block ?_
      refine loopk (fun k => fun a W446 => ∃ (x441 : List Int), ∃ A442, ∃ c443, ∃ (x445 : Int), fields_put_uint64.l0 K a0 t379 k x441 x445 = some r ∧ Has 34 [(0, .int .u64 a0), (7, .slice A442 x441.length c443), (18, .slice A381 t379.length c382), (19, .int .i64 (t379.length : Int)), (20, .int .i64 x445)] a ∧ Wd w W446 [] [⟨5, 1, .slice A442 x441.length c443, x441.length, encs (encI .u8) x441⟩, ⟨3, 1, .slice A381 t379.length c382, t379.length, encs (encI .i64) t379⟩]) K ?_ ?_
      · skip
        replace HW := HW.nilo 5 1
        exact ⟨([] : List Int), none, 0, 0, h, ha.sub (subs_cons (by kernel_rfl) (subs_cons (by kernel_rfl) (subs_cons (by kernel_rfl) (subs_cons (by kernel_rfl) (subs_cons (by kernel_rfl) (subs_nil _)))))), HW.pick [] [0, 1] (by decide) (by decide) (by kernel_rfl) (by kernel_rfl)⟩
      · skip
        intro k a W446 hI
        obtain ⟨x441, A442, c443, x445, h, ha, HW⟩ := hI
        cases k with
        | zero => exact (none_some (show none = some r from h)).elim
        | succ k447 =>
          replace h : fields_put_uint64.b0 K a0 t379 (fields_put_uint64.l0 K a0 t379 k447) x441 x445 = some r := h
          obtain ⟨again440, hag448⟩ : ∃ g_, g_ = fields_put_uint64.l0 K a0 t379 k447 := ⟨_, rfl⟩
          rw [← hag448] at h
          unfold fields_put_uint64.b0 at h
          refine wp_seq_k (fun K449 hK450 => ?_)
          refine wp_region_lit ?_
          refine stepp ha 21 (.bool (decide (x445 < (t379.length : Int)))) (by kernel_rfl) (by kernel_rfl) ?_; clear ha a; intro a ha
          refine endl ?_
          refine thenN (hK450 _ _ ?_); clear hK450
          refine wp_seq_k (fun K451 hK452 => ?_)
          by_cases hp453 : x445 < (t379.length : Int)
          · skip
            replace h := ite_pos' h hp453
            refine condT ha (by kernel_rfl) (by kernel_rfl) (t := decide (x445 < (t379.length : Int))) (decide_eq_true hp453) ?_
            refine wp_skip ?_
            refine thenN (hK452 _ _ ?_); clear hK452
            refine wp_seq_k (fun K454 hK455 => ?_)
            refine wp_block ?_
            refine wp_seq_k (fun K456 hK457 => ?_)
            refine wp_region_lit ?_
            obtain ⟨hA458, h_⟩ := asrt_some h; clear h; have h := h_; clear h_
            refine stepie (encI .i64) (0 : Int) ha 22 (fun _ => rfl) (v := .slice A381 t379.length c382) (xs := t379) (HW.rdo (i := 1) (q := ⟨3, 1, .slice A381 t379.length c382, t379.length, encs (encI .i64) t379⟩) (by kernel_rfl)) 63 3 (.tmp 18) (.tmp 20) .i64 x445 rfl (by kernel_rfl) (by kernel_rfl) (by kernel_rfl) (by kernel_rfl) hA458 (show (x445 : Int) < ((t379).length : Int) from hp453) (by kernel_rfl) ?_; clear ha a; intro b459 off460 a hC461 ha
            refine stepl ha 23 hC461 3 0 (.tmp 22) (.int .i64 (rdL (0 : Int) t379 x445)) rfl (by kernel_rfl) (by kernel_rfl) (by kernel_rfl) ?_; clear ha a; intro a ha
            refine stepp ha 9 (.int .i64 (rdL (0 : Int) t379 x445)) (by kernel_rfl) (by kernel_rfl) ?_; clear ha a; intro a ha
            refine endl ?_
            refine thenN (hK457 _ _ ?_); clear hK457
            refine wp_region_lit ?_
            refine stepp ha 24 (.slice A442 x441.length c443) (by kernel_rfl) (by kernel_rfl) ?_; clear ha a; intro a ha
            refine stepp ha 25 (.int .u64 a0) (by kernel_rfl) (by kernel_rfl) ?_; clear ha a; intro a ha
            refine stepp ha 26 (.int .i64 (rdL (0 : Int) t379 x445)) (by kernel_rfl) (by kernel_rfl) ?_; clear ha a; intro a ha
            obtain ⟨hA462, h_⟩ := asrt_some h; clear h; have h := h_; clear h_
            refine stepshr ha 27 24 3 (.tmp 25) (.tmp 26) .u64 .i64 a0 (rdL (0 : Int) t379 x445) rfl (by kernel_rfl) (by kernel_rfl) hA462 (by kernel_rfl) ?_; clear ha a; intro a ha
            refine stepp ha 28 (.int .u8 (IntKind.wrap .u8 (sshr .u64 a0 (rdL (0 : Int) t379 x445)))) (by kernel_rfl) (by kernel_rfl) ?_; clear ha a; intro a ha
            refine stepbs ha HW 29 5 1 1 #[.int .u8 (IntKind.wrap .u8 (sshr .u64 a0 (rdL (0 : Int) t379 x445)))] [.int .u8 (IntKind.wrap .u8 (sshr .u64 a0 (rdL (0 : Int) t379 x445)))] (by decide) (by kernel_rfl) (by kernel_rfl) (by kernel_rfl) (by kernel_rfl) ?_; clear ha HW a; intro b463 a W464 HW ha
            replace HW : Wd w W464 [] [⟨5, 1, .slice (some ⟨b463, 0, none⟩) ([IntKind.wrap .u8 (sshr .u64 a0 (rdL (0 : Int) t379 x445))] : List Int).length 1, ([IntKind.wrap .u8 (sshr .u64 a0 (rdL (0 : Int) t379 x445))] : List Int).length, encs (encI .u8) ([IntKind.wrap .u8 (sshr .u64 a0 (rdL (0 : Int) t379 x445))] : List Int)⟩, ⟨5, 1, .slice A442 x441.length c443, x441.length, encs (encI .u8) x441⟩, ⟨3, 1, .slice A381 t379.length c382, t379.length, encs (encI .i64) t379⟩] := HW
            replace ha := ha.turn 29 (v := .slice (some ⟨b463, 0, none⟩) ([IntKind.wrap .u8 (sshr .u64 a0 (rdL (0 : Int) t379 x445))] : List Int).length 1) (by kernel_rfl) rfl
            obtain ⟨hA466, h_⟩ := asrt_some h; clear h; have h := h_; clear h_
            refine stepape (encI .u8) ha HW 30 1 55 5 (.tmp 24) (.tmp 29) (.int .u8 0) 1 1 (.slice A442 x441.length c443) x441 (.slice (some ⟨b463, 0, none⟩) ([IntKind.wrap .u8 (sshr .u64 a0 (rdL (0 : Int) t379 x445))] : List Int).length 1) ([IntKind.wrap .u8 (sshr .u64 a0 (rdL (0 : Int) t379 x445))] : List Int) (by kernel_rfl) rfl (by kernel_rfl) (by kernel_rfl) (HW.rdo (i := 0) (q := ⟨5, 1, .slice (some ⟨b463, 0, none⟩) ([IntKind.wrap .u8 (sshr .u64 a0 (rdL (0 : Int) t379 x445))] : List Int).length 1, ([IntKind.wrap .u8 (sshr .u64 a0 (rdL (0 : Int) t379 x445))] : List Int).length, encs (encI .u8) ([IntKind.wrap .u8 (sshr .u64 a0 (rdL (0 : Int) t379 x445))] : List Int)⟩) (by kernel_rfl)) (fun _ => rfl) (by kernel_rfl) (by kernel_rfl) (by kernel_rfl) (by decide) (by have := hA466; unfold maxLen; omega) (by have := hA466; omega) (by kernel_rfl) ?_; clear ha HW a; intro A467 c468 a W469 HW ha
            refine stepp ha 7 (.slice A467 (x441 ++ ([IntKind.wrap .u8 (sshr .u64 a0 (rdL (0 : Int) t379 x445))] : List Int)).length c468) (by kernel_rfl) (by kernel_rfl) ?_; clear ha a; intro a ha
            refine endl ?_
            refine blkN ?_
            refine thenN (hK455 _ _ ?_); clear hK455
            refine wp_region_lit ?_
            refine stepp ha 31 (.int .i64 (IntKind.wrap .i64 (x445 + 1))) (by kernel_rfl) (by kernel_rfl) ?_; clear ha a; intro a ha
            refine stepp ha 20 (.int .i64 (IntKind.wrap .i64 (x445 + 1))) (by kernel_rfl) (by kernel_rfl) ?_; clear ha a; intro a ha
            refine endl ?_
            exact thenN ⟨k447, Nat.lt_succ_self k447, x441 ++ ([IntKind.wrap .u8 (sshr .u64 a0 (rdL (0 : Int) t379 x445))] : List Int), A467, c468, IntKind.wrap .i64 (x445 + 1), (by rw [← hag448]; exact h), ha.sub (subs_cons (by kernel_rfl) (subs_cons (by kernel_rfl) (subs_cons (by kernel_rfl) (subs_cons (by kernel_rfl) (subs_cons (by kernel_rfl) (subs_nil _)))))), HW.pick [] [1, 2] (by decide) (by decide) (by kernel_rfl) (by kernel_rfl)⟩
          · skip
            replace h := ite_neg' h hp453
            refine condF ha (by kernel_rfl) (by kernel_rfl) (t := decide (x445 < (t379.length : Int))) (decide_eq_false hp453) ?_
            refine wp_exit ?_
            refine thenE ?_
            refine thenE ?_
            refine inBlk ?_
            refine thenN (hK376 _ _ ?_); clear hK376
            refine wp_seq_k (fun K472 hK473 => ?_)
            refine wp_region_lit ?_
            refine stepp ha 32 (.slice A442 x441.length c443) (by kernel_rfl) (by kernel_rfl) ?_; clear ha a; intro a ha
            refine stepbt ha 33 55 9 5 (.tmp 32) (v := .slice A442 x441.length c443) (xs := x441) (HW.rdo (i := 0) (q := ⟨5, 1, .slice A442 x441.length c443, x441.length, encs (encI .u8) x441⟩) (by kernel_rfl)) rfl (by kernel_rfl) (by kernel_rfl) (by kernel_rfl) (by kernel_rfl) (by kernel_rfl) ?_; clear ha a; intro a ha
            refine stepp ha 6 (.string (strOfNums x441)) (by kernel_rfl) (by kernel_rfl) ?_; clear ha a; intro a ha
            refine endl ?_
            refine thenN (hK473 _ _ ?_); clear hK473
            refine wp_ret ?_
            obtain rfl := Option.some.inj h
            exact finv ha _ _ rfl (.tmp (v := .string (strOfNums x441)) (by kernel_rfl) .nil) (.string (strOfNums x441)) rfl ⟨rfl, HW.pick [] [] (by decide) (by decide) rfl (by kernel_rfl)⟩
end Go.Proofs.Ytceagilmillgfaa.F
