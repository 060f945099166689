/- headgate/headgateref01.PutBig, headgate/headgateref17.zeros: plain functions, and that the calls come to what they say. No condition. -/
import Derived.Test.YtccmdlbdpapigaaFT
namespace Go.Proofs.Ytccmdlbdpapigaa.F
open Go Go.RowKit Go.Proofs.Ytccmdlbdpapigaa.X
set_option linter.unusedVariables false
set_option linter.unusedSimpArgs false
/-! ### headgate/headgateref01.PutBig: function 27 -/
def headgateref01_PutBig.b0 (K : Nat) (again552 : Int → (List Int) → Int → Option ByteArray) (x553 : Int) (x554 : List Int) (x558 : Int) : Option ByteArray :=
  if x558 ≥ 0 then (asrt (0 ≤ x558) (asrt (x558 < (x554.length : Int)) (again552 (IntKind.wrap .u64 (Int.tdiv x553 256)) (x554.set (x558 : Int).toNat (IntKind.wrap .u8 (Int.tmod x553 256))) (IntKind.wrap .i64 (x558 - 1))))) else (some (strOfNums x554))
def headgateref01_PutBig.l0 (K : Nat)  : Nat → Int → (List Int) → Int → Option ByteArray
  | 0, _, _, _ => none
  | k_ + 1, x553, x554, x558 => headgateref01_PutBig.b0 K  (headgateref01_PutBig.l0 K  k_) x553 x554 x558
def headgateref01_PutBig.f (K : Nat) (a0 : Int) (a1 : Int) : Option ByteArray :=
  if a1 < 1 then (some (⟨#[]⟩ : ByteArray)) else (if a1 > 8 then (some (⟨#[]⟩ : ByteArray)) else (asrt (0 ≤ a1) (asrt (a1 ≤ 281474976710656) (headgateref01_PutBig.l0 K  K a0 (List.replicate (a1 : Int).toNat (0 : Int)) (IntKind.wrap .i64 (a1 - 1))))))
set_option maxRecDepth 100000 in
set_option maxHeartbeats 4000000 in
theorem headgateref01_PutBig.calls (K : Nat) (a0 : Int) (a1 : Int)  (r : ByteArray) (w : World)  (h : headgateref01_PutBig.f K a0 a1 = some r) :
    Calls Try.prog 27 #[.int .u64 a0, .int .i64 a1] w (fun e W' => e = .returned (.string r) ∧ Wd w W' [] [] ) := by
  refine sxstart (n := 31) (l := [(0, .int .u64 a0), (1, .int .i64 a1)]) Try.func27 rfl rfl (Nat.le_of_ble_eq_true KR) (subsA_cons rfl (subsA_cons rfl (subsA_nil _))) ?_
  intro a ha
  have HW := Wd.refl w
  unfold headgateref01_PutBig.f at h
  refine wp_seq_k (fun K493 hK494 => ?_)
  refine wp_region_lit ?_
  refine stepp ha 4 (.string (⟨#[]⟩ : ByteArray)) KR KR ?_; clear ha a; intro a ha
  refine endl ?_
  refine thenN (hK494 _ _ ?_); clear hK494
  refine wp_seq_k (fun K495 hK496 => ?_)
  refine wp_seq_k (fun K497 hK498 => ?_)
  refine wp_region_lit ?_
  refine stepp ha 7 (.int .i64 a1) KR KR ?_; clear ha a; intro a ha
  refine stepp ha 8 (.bool (decide (a1 < 1))) KR KR ?_; clear ha a; intro a ha
  refine stepp ha 9 (.bool (decide (a1 < 1))) KR KR ?_; clear ha a; intro a ha
  by_cases hp499 : a1 < 1
  · skip
    replace h := ite_pos' h hp499
    replace ha := ha.bool 9 KR (decide_eq_true hp499)
    refine stepo ha 10 KR ?_; clear ha a; intro a ha
    refine stepo ha 11 KR ?_; clear ha a; intro a ha
    refine stepp ha 12 (.bool true) KR KR ?_; clear ha a; intro a ha
    refine endl ?_
    refine thenN (hK498 _ _ ?_); clear hK498
    refine condT ha KR KR (t := true) (rfl) ?_
    refine wp_seq_k (fun K500 hK501 => ?_)
    refine wp_region_lit ?_
    refine stepp ha 4 (.string (⟨#[]⟩ : ByteArray)) KR KR ?_; clear ha a; intro a ha
    refine endl ?_
    refine thenN (hK501 _ _ ?_); clear hK501
    refine wp_ret ?_
    refine thenR ?_
    obtain rfl := Option.some.inj h
    exact finv ha _ _ rfl (.tmp (v := .string (⟨#[]⟩ : ByteArray)) KR .nil) (.string (⟨#[]⟩ : ByteArray)) rfl ⟨rfl, HW.pick [] [] (by decide) (by decide) rfl KR⟩
  · skip
    replace h := ite_neg' h hp499
    replace ha := ha.bool 9 KR (decide_eq_false hp499)
    refine stepp ha 10 (.int .i64 a1) KR KR ?_; clear ha a; intro a ha
    refine stepp ha 11 (.bool (decide (a1 > 8))) KR KR ?_; clear ha a; intro a ha
    refine stepp ha 12 (.bool (decide (a1 > 8))) KR KR ?_; clear ha a; intro a ha
    refine endl ?_
    refine thenN (hK498 _ _ ?_); clear hK498
    by_cases hp502 : a1 > 8
    · skip
      replace h := ite_pos' h hp502
      refine condT ha KR KR (t := decide (a1 > 8)) (decide_eq_true hp502) ?_
      refine wp_seq_k (fun K503 hK504 => ?_)
      refine wp_region_lit ?_
      refine stepp ha 4 (.string (⟨#[]⟩ : ByteArray)) KR KR ?_; clear ha a; intro a ha
      refine endl ?_
      refine thenN (hK504 _ _ ?_); clear hK504
      refine wp_ret ?_
      refine thenR ?_
      obtain rfl := Option.some.inj h
      exact finv ha _ _ rfl (.tmp (v := .string (⟨#[]⟩ : ByteArray)) KR .nil) (.string (⟨#[]⟩ : ByteArray)) rfl ⟨rfl, HW.pick [] [] (by decide) (by decide) rfl KR⟩
    · skip
      replace h := ite_neg' h hp502
      refine condF ha KR KR (t := decide (a1 > 8)) (decide_eq_false hp502) ?_
      refine wp_skip ?_
      refine thenN (hK496 _ _ ?_); clear hK496
      refine wp_seq_k (fun K505 hK506 => ?_)
      refine wp_region_lit ?_
      refine stepp ha 13 (.int .i64 a1) KR KR ?_; clear ha a; intro a ha
      obtain ⟨hA507, h_⟩ := asrt_some h; clear h; have h := h_; clear h_
      obtain ⟨hA508, h_⟩ := asrt_some h; clear h; have h := h_; clear h_
      refine stepmk (encI .u8) (0 : Int) ha HW 14 51 5 (.tmp 13) (.tmp 13) .i64 .i64 a1 (.int .u8 0) 1 rfl KR KR KR KR rfl rfl hA507 (by have := hA508; omega) (by have := hA508; omega) KR ?_; clear ha HW a; intro b509 a W510 HW ha
      refine stepp ha 5 (.slice (some ⟨b509, 0, none⟩) (List.replicate (a1 : Int).toNat (0 : Int)).length ((a1 : Int).toNat)) KR KR ?_; clear ha a; intro a ha
      refine endl ?_
      refine thenN (hK506 _ _ ?_); clear hK506
      refine wp_seq_k (fun K512 hK513 => ?_)
      refine wp_seq_k (fun K514 hK515 => ?_)
      refine wp_region_lit ?_
      refine stepp ha 15 (.int .i64 a1) KR KR ?_; clear ha a; intro a ha
      refine stepp ha 16 (.int .i64 (IntKind.wrap .i64 (a1 - 1))) KR KR ?_; clear ha a; intro a ha
      refine stepp ha 6 (.int .i64 (IntKind.wrap .i64 (a1 - 1))) KR KR ?_; clear ha a; intro a ha
      refine endl ?_
      refine thenN (hK515 _ _ ?_); clear hK515
      refine wp_block ?_
      refine loopk (fun k => fun a W559 => ∃ (x553 : Int), ∃ (x554 : List Int), ∃ A555, ∃ c556, ∃ (x558 : Int), headgateref01_PutBig.l0 K  k x553 x554 x558 = some r ∧ Has 31 [(0, .int .u64 x553), (5, .slice A555 x554.length c556), (6, .int .i64 x558)] a ∧ Wd w W559 [] [⟨5, 1, .slice A555 x554.length c556, x554.length, encs (encI .u8) x554⟩]) K ?_ ?_
      · skip
        exact ⟨a0, List.replicate (a1 : Int).toNat (0 : Int), some ⟨b509, 0, none⟩, (a1 : Int).toNat, IntKind.wrap .i64 (a1 - 1), h, ha.sub (subs_cons KR (subs_cons KR (subs_cons KR (subs_nil _)))), HW.pick [] [0] (by decide) (by decide) KR KR⟩
      · skip
        intro k a W559 hI
        obtain ⟨x553, x554, A555, c556, x558, h, ha, HW⟩ := hI
        cases k with
        | zero => exact (none_some (show none = some r from h)).elim
        | succ k560 =>
          replace h : headgateref01_PutBig.b0 K  (headgateref01_PutBig.l0 K  k560) x553 x554 x558 = some r := h
          obtain ⟨again552, hag561⟩ : ∃ g_, g_ = headgateref01_PutBig.l0 K  k560 := ⟨_, rfl⟩
          rw [← hag561] at h
          unfold headgateref01_PutBig.b0 at h
          refine wp_seq_k (fun K562 hK563 => ?_)
          refine wp_seq_k (fun K564 hK565 => ?_)
          refine wp_region_lit ?_
          refine stepp ha 17 (.int .i64 x558) KR KR ?_; clear ha a; intro a ha
          refine stepp ha 18 (.bool (decide (x558 ≥ 0))) KR KR ?_; clear ha a; intro a ha
          refine endl ?_
          refine thenN (hK565 _ _ ?_); clear hK565
          by_cases hp566 : x558 ≥ 0
          · skip
            replace h := ite_pos' h hp566
            refine condT ha KR KR (t := decide (x558 ≥ 0)) (decide_eq_true hp566) ?_
            refine wp_skip ?_
            refine thenN (hK563 _ _ ?_); clear hK563
            refine wp_seq_k (fun K567 hK568 => ?_)
            refine wp_block ?_
            refine wp_seq_k (fun K569 hK570 => ?_)
            refine wp_region_lit ?_
            refine stepp ha 21 (.slice A555 x554.length c556) KR KR ?_; clear ha a; intro a ha
            refine stepp ha 22 (.int .i64 x558) KR KR ?_; clear ha a; intro a ha
            refine stepp ha 23 (.int .u64 x553) KR KR ?_; clear ha a; intro a ha
            refine stepp ha 24 (.int .u64 (Int.tmod x553 256)) KR KR ?_; clear ha a; intro a ha
            refine stepp ha 25 (.int .u8 (IntKind.wrap .u8 (Int.tmod x553 256))) KR KR ?_; clear ha a; intro a ha
            obtain ⟨hA571, h_⟩ := asrt_some h; clear h; have h := h_; clear h_
            obtain ⟨hA572, h_⟩ := asrt_some h; clear h; have h := h_; clear h_
            refine stepio (encI .u8) ha HW 26 0 (sz := 1) (e := 5) (v := .slice A555 x554.length c556) (xs := x554) KR 51 (.tmp 21) (.tmp 22) .i64 x558 rfl KR KR KR KR hA571 (show (x558 : Int) < ((x554).length : Int) from hA572) KR ?_; clear ha a; intro b573 a hb574 ha
            refine stepos (encI .u8) (0 : Int) ha HW 0 (sz := 1) (e := 5) (fun _ => rfl) (v := .slice A555 x554.length c556) (xs := x554) KR hb574 x558 hA571 (show (x558 : Int) < ((x554).length : Int) from hA572) 5 0 (.tmp 26) (.tmp 25) (.int .u8 (IntKind.wrap .u8 (Int.tmod x553 256))) (IntKind.wrap .u8 (Int.tmod x553 256)) rfl KR KR KR KR KR KR KR (.slice A555 (x554.set (x558 : Int).toNat (IntKind.wrap .u8 (Int.tmod x553 256))).length c556) (by rw [List.length_set]) ?_; clear ha HW a; intro a W575 HW ha
            replace ha := ha.turn 5 (v := .slice A555 (x554.set (x558 : Int).toNat (IntKind.wrap .u8 (Int.tmod x553 256))).length c556) KR (by rw [List.length_set])
            replace ha := ha.turn 21 (v := .slice A555 (x554.set (x558 : Int).toNat (IntKind.wrap .u8 (Int.tmod x553 256))).length c556) KR (by rw [List.length_set])
            replace HW : Wd w W575 [] [⟨5, 1, .slice A555 (x554.set (x558 : Int).toNat (IntKind.wrap .u8 (Int.tmod x553 256))).length c556, (x554.set (x558 : Int).toNat (IntKind.wrap .u8 (Int.tmod x553 256))).length, encs (encI .u8) (x554.set (x558 : Int).toNat (IntKind.wrap .u8 (Int.tmod x553 256)))⟩] := HW
            refine endl ?_
            refine thenN (hK570 _ _ ?_); clear hK570
            refine wp_region_lit ?_
            refine stepp ha 27 (.int .u64 x553) KR KR ?_; clear ha a; intro a ha
            refine stepp ha 28 (.int .u64 (IntKind.wrap .u64 (Int.tdiv x553 256))) KR KR ?_; clear ha a; intro a ha
            refine stepp ha 0 (.int .u64 (IntKind.wrap .u64 (Int.tdiv x553 256))) KR KR ?_; clear ha a; intro a ha
            refine endl ?_
            refine blkN ?_
            refine thenN (hK568 _ _ ?_); clear hK568
            refine wp_region_lit ?_
            refine stepp ha 19 (.int .i64 x558) KR KR ?_; clear ha a; intro a ha
            refine stepp ha 20 (.int .i64 (IntKind.wrap .i64 (x558 - 1))) KR KR ?_; clear ha a; intro a ha
            refine stepp ha 6 (.int .i64 (IntKind.wrap .i64 (x558 - 1))) KR KR ?_; clear ha a; intro a ha
            refine endl ?_
            exact thenN ⟨k560, Nat.lt_succ_self k560, IntKind.wrap .u64 (Int.tdiv x553 256), x554.set (x558 : Int).toNat (IntKind.wrap .u8 (Int.tmod x553 256)), A555, c556, IntKind.wrap .i64 (x558 - 1), (by rw [← hag561]; exact h), ha.sub (subs_cons KR (subs_cons KR (subs_cons KR (subs_nil _)))), HW.pick [] [0] (by decide) (by decide) KR KR⟩
          · skip
            replace h := ite_neg' h hp566
            refine condF ha KR KR (t := decide (x558 ≥ 0)) (decide_eq_false hp566) ?_
            refine wp_exit ?_
            refine thenE ?_
            refine thenE ?_
            refine inBlk ?_
            refine thenN (hK513 _ _ ?_); clear hK513
            refine wp_seq_k (fun K576 hK577 => ?_)
            refine wp_region_lit ?_
            refine stepp ha 29 (.slice A555 x554.length c556) KR KR ?_; clear ha a; intro a ha
            refine stepbt ha 30 51 9 5 (.tmp 29) (v := .slice A555 x554.length c556) (xs := x554) (HW.rdo (i := 0) (q := ⟨5, 1, .slice A555 x554.length c556, x554.length, encs (encI .u8) x554⟩) KR) rfl KR KR KR KR KR ?_; clear ha a; intro a ha
            refine stepp ha 4 (.string (strOfNums x554)) KR KR ?_; clear ha a; intro a ha
            refine endl ?_
            refine thenN (hK577 _ _ ?_); clear hK577
            refine wp_ret ?_
            obtain rfl := Option.some.inj h
            exact finv ha _ _ rfl (.tmp (v := .string (strOfNums x554)) KR .nil) (.string (strOfNums x554)) rfl ⟨rfl, HW.pick [] [] (by decide) (by decide) rfl KR⟩
/-! ### headgate/headgateref17.zeros: function 26 -/
def headgateref17_zeros.f (a0 : Int) : Option ByteArray :=
  asrt (0 ≤ a0) (asrt (a0 ≤ 281474976710656) (some (strOfNums (List.replicate (a0 : Int).toNat (0 : Int)))))
set_option maxRecDepth 100000 in
set_option maxHeartbeats 4000000 in
theorem headgateref17_zeros.calls (a0 : Int)  (r : ByteArray) (w : World)  (h : headgateref17_zeros.f a0 = some r) :
    Calls Try.prog 26 #[.int .i64 a0] w (fun e W' => e = .returned (.string r) ∧ Wd w W' [] [] ) := by
  refine sxstart (n := 6) (l := [(0, .int .i64 a0)]) Try.func26 rfl rfl (Nat.le_of_ble_eq_true KR) (subsA_cons rfl (subsA_nil _)) ?_
  intro a ha
  have HW := Wd.refl w
  unfold headgateref17_zeros.f at h
  refine wp_seq_k (fun K629 hK630 => ?_)
  refine wp_region_lit ?_
  refine stepp ha 2 (.string (⟨#[]⟩ : ByteArray)) KR KR ?_; clear ha a; intro a ha
  refine endl ?_
  refine thenN (hK630 _ _ ?_); clear hK630
  refine wp_seq_k (fun K631 hK632 => ?_)
  refine wp_region_lit ?_
  refine stepp ha 3 (.int .i64 a0) KR KR ?_; clear ha a; intro a ha
  obtain ⟨hA633, h_⟩ := asrt_some h; clear h; have h := h_; clear h_
  obtain ⟨hA634, h_⟩ := asrt_some h; clear h; have h := h_; clear h_
  refine stepmk (encI .u8) (0 : Int) ha HW 4 51 5 (.tmp 3) (.tmp 3) .i64 .i64 a0 (.int .u8 0) 1 rfl KR KR KR KR rfl rfl hA633 (by have := hA634; omega) (by have := hA634; omega) KR ?_; clear ha HW a; intro b635 a W636 HW ha
  refine stepbt ha 5 51 9 5 (.tmp 4) (v := .slice (some ⟨b635, 0, none⟩) (List.replicate (a0 : Int).toNat (0 : Int)).length ((a0 : Int).toNat)) (xs := List.replicate (a0 : Int).toNat (0 : Int)) (HW.rdo (i := 0) (q := ⟨5, 1, .slice (some ⟨b635, 0, none⟩) (List.replicate (a0 : Int).toNat (0 : Int)).length ((a0 : Int).toNat), (List.replicate (a0 : Int).toNat (0 : Int)).length, encs (encI .u8) (List.replicate (a0 : Int).toNat (0 : Int))⟩) KR) rfl KR KR KR KR KR ?_; clear ha a; intro a ha
  refine stepp ha 2 (.string (strOfNums (List.replicate (a0 : Int).toNat (0 : Int)))) KR KR ?_; clear ha a; intro a ha
  refine endl ?_
  refine thenN (hK632 _ _ ?_); clear hK632
  refine wp_ret ?_
  obtain rfl := Option.some.inj h
  exact finv ha _ _ rfl (.tmp (v := .string (strOfNums (List.replicate (a0 : Int).toNat (0 : Int)))) KR .nil) (.string (strOfNums (List.replicate (a0 : Int).toNat (0 : Int)))) rfl ⟨rfl, HW.pick [] [] (by decide) (by decide) rfl KR⟩
end Go.Proofs.Ytccmdlbdpapigaa.F
