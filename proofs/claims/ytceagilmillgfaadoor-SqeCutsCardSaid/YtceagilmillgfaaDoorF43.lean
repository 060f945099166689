/- headgate/sqe.fieldsFor: a plain function, and that the call comes to what it says. No condition. -/
import Derived.Test.YtceagilmillgfaaDoorFT
namespace Go.Proofs.YtceagilmillgfaaDoor.F
open Go Go.RowKit Go.Proofs.YtceagilmillgfaaDoor.X
set_option linter.unusedVariables false
set_option linter.unusedSimpArgs false
/-! ### headgate/sqe.fieldsFor: function 43 -/
def sqe_fieldsFor.b0 (K : Nat) (again469 : (List T_sqe_field) → Int → Option (List T_sqe_field)) (x470 : List T_sqe_field) (x474 : Int) : Option (List T_sqe_field) :=
  if x474 < 6 then (asrt (0 ≤ x474) (asrt (x470.length + ([(⟨(rdL T_sqe_field.z G_sqe_endsOf x474).f0, (rdL T_sqe_field.z G_sqe_endsOf x474).f1, (rdL T_sqe_field.z G_sqe_endsOf x474).f2⟩ : T_sqe_field)] : List T_sqe_field).length ≤ 5864062014805) (again469 (x470 ++ ([(⟨(rdL T_sqe_field.z G_sqe_endsOf x474).f0, (rdL T_sqe_field.z G_sqe_endsOf x474).f1, (rdL T_sqe_field.z G_sqe_endsOf x474).f2⟩ : T_sqe_field)] : List T_sqe_field)) (IntKind.wrap .i64 (x474 + 1))))) else (some x470)
def sqe_fieldsFor.l0 (K : Nat)  : Nat → (List T_sqe_field) → Int → Option (List T_sqe_field)
  | 0, _, _ => none
  | k_ + 1, x470, x474 => sqe_fieldsFor.b0 K  (sqe_fieldsFor.l0 K  k_) x470 x474
def sqe_fieldsFor.b1 (K : Nat) (again556 : (List T_sqe_field) → Int → Option (List T_sqe_field)) (x557 : List T_sqe_field) (x561 : Int) : Option (List T_sqe_field) :=
  if x561 < 11 then (asrt (0 ≤ x561) (asrt (x557.length + ([(⟨(rdL T_sqe_field.z G_sqe_fieldsOf x561).f0, (rdL T_sqe_field.z G_sqe_fieldsOf x561).f1, (rdL T_sqe_field.z G_sqe_fieldsOf x561).f2⟩ : T_sqe_field)] : List T_sqe_field).length ≤ 5864062014805) (again556 (x557 ++ ([(⟨(rdL T_sqe_field.z G_sqe_fieldsOf x561).f0, (rdL T_sqe_field.z G_sqe_fieldsOf x561).f1, (rdL T_sqe_field.z G_sqe_fieldsOf x561).f2⟩ : T_sqe_field)] : List T_sqe_field)) (IntKind.wrap .i64 (x561 + 1))))) else (some x557)
def sqe_fieldsFor.l1 (K : Nat)  : Nat → (List T_sqe_field) → Int → Option (List T_sqe_field)
  | 0, _, _ => none
  | k_ + 1, x557, x561 => sqe_fieldsFor.b1 K  (sqe_fieldsFor.l1 K  k_) x557 x561
def sqe_fieldsFor.f (K : Nat) (a0 : Bool) : Option (List T_sqe_field) :=
  if a0 = true then (sqe_fieldsFor.l0 K  K ([] : List T_sqe_field) 0) else (sqe_fieldsFor.l1 K  K ([] : List T_sqe_field) 0)
set_option maxRecDepth 100000 in
set_option maxHeartbeats 4000000 in
theorem sqe_fieldsFor.calls (K : Nat) (a0 : Bool)  (r : List T_sqe_field) (w : World) (hG1 : CA w 1 0 (encs T_sqe_field.enc G_sqe_endsOf).toArray) (hG2 : CA w 2 0 (encs T_sqe_field.enc G_sqe_fieldsOf).toArray) (h : sqe_fieldsFor.f K a0 = some r) :
    Calls Tryd.prog 43 #[.bool a0] w (fun e W' => ∃ A_0 c_0, e = .returned (.slice A_0 r.length c_0) ∧ Wd w W' [] [⟨118, 3, .slice A_0 r.length c_0, r.length, encs T_sqe_field.enc r⟩] ) := by
  refine sxstart (n := 29) (l := [(0, .bool a0)]) Tryd.func43 rfl rfl (Nat.le_of_ble_eq_true (by kernel_rfl)) (subsA_cons rfl (subsA_nil _)) ?_
  intro a ha
  have HW := Wd.refl w
  unfold sqe_fieldsFor.f at h
  refine wp_seq_k (fun K406 hK407 => ?_)
  refine wp_region_lit ?_
  refine stepp ha 2 (.slice none 0 0) (by kernel_rfl) (by kernel_rfl) ?_; clear ha a; intro a ha
  refine endl ?_
  refine thenN (hK407 _ _ ?_); clear hK407
  refine wp_seq_k (fun K408 hK409 => ?_)
  refine wp_region_lit ?_
  refine stepp ha 3 (.slice none 0 0) (by kernel_rfl) (by kernel_rfl) ?_; clear ha a; intro a ha
  refine endl ?_
  refine thenN (hK409 _ _ ?_); clear hK409
  refine wp_seq_k (fun K410 hK411 => ?_)
  refine wp_seq_k (fun K412 hK413 => ?_)
  refine wp_region_lit ?_
  refine stepp ha 8 (.bool a0) (by kernel_rfl) (by kernel_rfl) ?_; clear ha a; intro a ha
  refine endl ?_
  refine thenN (hK413 _ _ ?_); clear hK413
  by_cases hp414 : a0 = true
  · skip
    replace h := ite_pos' h hp414
    refine condT ha (by kernel_rfl) (by kernel_rfl) (t := a0) (hp414) ?_
    refine wp_seq_k (fun K415 hK416 => ?_)
    refine wp_seq_k (fun K417 hK418 => ?_)
    refine wp_region_lit ?_
    refine stepl ha 9 (HW.ca0 hG1) 119 0 (.global 1) (.agg (encs T_sqe_field.enc G_sqe_endsOf).toArray) rfl (by kernel_rfl) (by kernel_rfl) (by kernel_rfl) ?_; clear ha a; intro a ha
    refine stepp ha 10 (.int .i64 0) (by kernel_rfl) (by kernel_rfl) ?_; clear ha a; intro a ha
    refine endl ?_
    refine thenN (hK418 _ _ ?_); clear hK418
    refine wp_block ?_
    refine loopk (fun k => fun a W475 => ∃ (x470 : List T_sqe_field), ∃ A471, ∃ c472, ∃ (x474 : Int), sqe_fieldsFor.l0 K  k x470 x474 = some r ∧ Has 29 [(3, .slice A471 x470.length c472), (9, .agg (encs T_sqe_field.enc G_sqe_endsOf).toArray), (10, .int .i64 x474)] a ∧ Wd w W475 [] [⟨118, 3, .slice A471 x470.length c472, x470.length, encs T_sqe_field.enc x470⟩]) K ?_ ?_
    · skip
      replace HW := HW.nilo 118 3
      exact ⟨([] : List T_sqe_field), none, 0, 0, h, ha.sub (subs_cons (by kernel_rfl) (subs_cons (by kernel_rfl) (subs_cons (by kernel_rfl) (subs_nil _)))), HW.pick [] [0] (by decide) (by decide) (by kernel_rfl) (by kernel_rfl)⟩
    · skip
      intro k a W475 hI
      obtain ⟨x470, A471, c472, x474, h, ha, HW⟩ := hI
      cases k with
      | zero => exact (none_some (show none = some r from h)).elim
      | succ k476 =>
        replace h : sqe_fieldsFor.b0 K  (sqe_fieldsFor.l0 K  k476) x470 x474 = some r := h
        obtain ⟨again469, hag477⟩ : ∃ g_, g_ = sqe_fieldsFor.l0 K  k476 := ⟨_, rfl⟩
        rw [← hag477] at h
        unfold sqe_fieldsFor.b0 at h
        refine wp_seq_k (fun K478 hK479 => ?_)
        refine wp_region_lit ?_
        refine stepp ha 11 (.bool (decide (x474 < 6))) (by kernel_rfl) (by kernel_rfl) ?_; clear ha a; intro a ha
        refine endl ?_
        refine thenN (hK479 _ _ ?_); clear hK479
        refine wp_seq_k (fun K480 hK481 => ?_)
        by_cases hp482 : x474 < 6
        · skip
          replace h := ite_pos' h hp482
          refine condT ha (by kernel_rfl) (by kernel_rfl) (t := decide (x474 < 6)) (decide_eq_true hp482) ?_
          refine wp_skip ?_
          refine thenN (hK481 _ _ ?_); clear hK481
          refine wp_seq_k (fun K483 hK484 => ?_)
          refine wp_block ?_
          refine wp_seq_k (fun K485 hK486 => ?_)
          refine wp_region_lit ?_
          obtain ⟨hA487, h_⟩ := asrt_some h; clear h; have h := h_; clear h_
          refine stepag T_sqe_field.enc T_sqe_field.z ha 12 119 6 118 (.tmp 9) (.tmp 10) .i64 x474 G_sqe_endsOf (.agg #[.int .i64 ((rdL T_sqe_field.z G_sqe_endsOf x474).f0), .int .i64 ((rdL T_sqe_field.z G_sqe_endsOf x474).f1), .int .u64 ((rdL T_sqe_field.z G_sqe_endsOf x474).f2)]) rfl (by kernel_rfl) (by kernel_rfl) (by kernel_rfl) (by kernel_rfl) (fun _ => rfl) hA487 hp482 (by kernel_rfl) rfl ?_; clear ha a; intro a ha
          refine stepnew ha HW 5 #[.int .i64 0, .int .i64 0, .int .u64 0] 118 (by kernel_rfl) (by kernel_rfl) ?_; clear ha HW a; intro b488 a W489 HW ha
          refine stepst ha HW 0 (b := b488) (C := #[.int .i64 0, .int .i64 0, .int .u64 0]) (T := 118) (by kernel_rfl) 118 0 (.tmp 5) (.tmp 12) (.agg #[.int .i64 ((rdL T_sqe_field.z G_sqe_endsOf x474).f0), .int .i64 ((rdL T_sqe_field.z G_sqe_endsOf x474).f1), .int .u64 ((rdL T_sqe_field.z G_sqe_endsOf x474).f2)]) #[.int .i64 ((rdL T_sqe_field.z G_sqe_endsOf x474).f0), .int .i64 ((rdL T_sqe_field.z G_sqe_endsOf x474).f1), .int .u64 ((rdL T_sqe_field.z G_sqe_endsOf x474).f2)] rfl (by kernel_rfl) (by kernel_rfl) (by kernel_rfl) (by kernel_rfl) (by kernel_rfl) (by kernel_rfl) (by kernel_rfl) ?_; clear ha HW a; intro a W490 HW ha
          refine endl ?_
          refine thenN (hK486 _ _ ?_); clear hK486
          refine wp_region_lit ?_
          refine stepp ha 13 (.slice A471 x470.length c472) (by kernel_rfl) (by kernel_rfl) ?_; clear ha a; intro a ha
          refine stepl ha 14 (HW.ca (i := 0) (b := b488) (C := #[.int .i64 ((rdL T_sqe_field.z G_sqe_endsOf x474).f0), .int .i64 ((rdL T_sqe_field.z G_sqe_endsOf x474).f1), .int .u64 ((rdL T_sqe_field.z G_sqe_endsOf x474).f2)]) (T := 118) (fr := (0, 0)) (by kernel_rfl)) 118 0 (.tmp 5) (.agg #[.int .i64 ((rdL T_sqe_field.z G_sqe_endsOf x474).f0), .int .i64 ((rdL T_sqe_field.z G_sqe_endsOf x474).f1), .int .u64 ((rdL T_sqe_field.z G_sqe_endsOf x474).f2)]) rfl (by kernel_rfl) (by kernel_rfl) (by kernel_rfl) ?_; clear ha a; intro a ha
          refine stepbs ha HW 15 118 3 1 #[.int .i64 ((rdL T_sqe_field.z G_sqe_endsOf x474).f0), .int .i64 ((rdL T_sqe_field.z G_sqe_endsOf x474).f1), .int .u64 ((rdL T_sqe_field.z G_sqe_endsOf x474).f2)] [.int .i64 ((rdL T_sqe_field.z G_sqe_endsOf x474).f0), .int .i64 ((rdL T_sqe_field.z G_sqe_endsOf x474).f1), .int .u64 ((rdL T_sqe_field.z G_sqe_endsOf x474).f2)] (by decide) (by kernel_rfl) (by kernel_rfl) (by kernel_rfl) (by kernel_rfl) ?_; clear ha HW a; intro b491 a W492 HW ha
          replace HW : Wd w W492 [(b488, .cells #[.int .i64 ((rdL T_sqe_field.z G_sqe_endsOf x474).f0), .int .i64 ((rdL T_sqe_field.z G_sqe_endsOf x474).f1), .int .u64 ((rdL T_sqe_field.z G_sqe_endsOf x474).f2)] 118 (0, 0))] [⟨118, 3, .slice (some ⟨b491, 0, none⟩) ([(⟨(rdL T_sqe_field.z G_sqe_endsOf x474).f0, (rdL T_sqe_field.z G_sqe_endsOf x474).f1, (rdL T_sqe_field.z G_sqe_endsOf x474).f2⟩ : T_sqe_field)] : List T_sqe_field).length 1, ([(⟨(rdL T_sqe_field.z G_sqe_endsOf x474).f0, (rdL T_sqe_field.z G_sqe_endsOf x474).f1, (rdL T_sqe_field.z G_sqe_endsOf x474).f2⟩ : T_sqe_field)] : List T_sqe_field).length, encs T_sqe_field.enc ([(⟨(rdL T_sqe_field.z G_sqe_endsOf x474).f0, (rdL T_sqe_field.z G_sqe_endsOf x474).f1, (rdL T_sqe_field.z G_sqe_endsOf x474).f2⟩ : T_sqe_field)] : List T_sqe_field)⟩, ⟨118, 3, .slice A471 x470.length c472, x470.length, encs T_sqe_field.enc x470⟩] := HW
          replace ha := ha.turn 15 (v := .slice (some ⟨b491, 0, none⟩) ([(⟨(rdL T_sqe_field.z G_sqe_endsOf x474).f0, (rdL T_sqe_field.z G_sqe_endsOf x474).f1, (rdL T_sqe_field.z G_sqe_endsOf x474).f2⟩ : T_sqe_field)] : List T_sqe_field).length 1) (by kernel_rfl) rfl
          obtain ⟨hA494, h_⟩ := asrt_some h; clear h; have h := h_; clear h_
          refine stepape T_sqe_field.enc ha HW 16 1 86 118 (.tmp 13) (.tmp 15) (.agg #[.int .i64 0, .int .i64 0, .int .u64 0]) 3 24 (.slice A471 x470.length c472) x470 (.slice (some ⟨b491, 0, none⟩) ([(⟨(rdL T_sqe_field.z G_sqe_endsOf x474).f0, (rdL T_sqe_field.z G_sqe_endsOf x474).f1, (rdL T_sqe_field.z G_sqe_endsOf x474).f2⟩ : T_sqe_field)] : List T_sqe_field).length 1) ([(⟨(rdL T_sqe_field.z G_sqe_endsOf x474).f0, (rdL T_sqe_field.z G_sqe_endsOf x474).f1, (rdL T_sqe_field.z G_sqe_endsOf x474).f2⟩ : T_sqe_field)] : List T_sqe_field) (by kernel_rfl) rfl (by kernel_rfl) (by kernel_rfl) (HW.rdo (i := 0) (q := ⟨118, 3, .slice (some ⟨b491, 0, none⟩) ([(⟨(rdL T_sqe_field.z G_sqe_endsOf x474).f0, (rdL T_sqe_field.z G_sqe_endsOf x474).f1, (rdL T_sqe_field.z G_sqe_endsOf x474).f2⟩ : T_sqe_field)] : List T_sqe_field).length 1, ([(⟨(rdL T_sqe_field.z G_sqe_endsOf x474).f0, (rdL T_sqe_field.z G_sqe_endsOf x474).f1, (rdL T_sqe_field.z G_sqe_endsOf x474).f2⟩ : T_sqe_field)] : List T_sqe_field).length, encs T_sqe_field.enc ([(⟨(rdL T_sqe_field.z G_sqe_endsOf x474).f0, (rdL T_sqe_field.z G_sqe_endsOf x474).f1, (rdL T_sqe_field.z G_sqe_endsOf x474).f2⟩ : T_sqe_field)] : List T_sqe_field)⟩) (by kernel_rfl)) (fun _ => rfl) (by kernel_rfl) (by kernel_rfl) (by kernel_rfl) (by decide) (by have := hA494; unfold maxLen; omega) (by have := hA494; omega) (by kernel_rfl) ?_; clear ha HW a; intro A495 c496 a W497 HW ha
          refine stepp ha 3 (.slice A495 (x470 ++ ([(⟨(rdL T_sqe_field.z G_sqe_endsOf x474).f0, (rdL T_sqe_field.z G_sqe_endsOf x474).f1, (rdL T_sqe_field.z G_sqe_endsOf x474).f2⟩ : T_sqe_field)] : List T_sqe_field)).length c496) (by kernel_rfl) (by kernel_rfl) ?_; clear ha a; intro a ha
          refine endl ?_
          refine blkN ?_
          refine thenN (hK484 _ _ ?_); clear hK484
          refine wp_region_lit ?_
          refine stepp ha 17 (.int .i64 (IntKind.wrap .i64 (x474 + 1))) (by kernel_rfl) (by kernel_rfl) ?_; clear ha a; intro a ha
          refine stepp ha 10 (.int .i64 (IntKind.wrap .i64 (x474 + 1))) (by kernel_rfl) (by kernel_rfl) ?_; clear ha a; intro a ha
          refine endl ?_
          exact thenN ⟨k476, Nat.lt_succ_self k476, x470 ++ ([(⟨(rdL T_sqe_field.z G_sqe_endsOf x474).f0, (rdL T_sqe_field.z G_sqe_endsOf x474).f1, (rdL T_sqe_field.z G_sqe_endsOf x474).f2⟩ : T_sqe_field)] : List T_sqe_field), A495, c496, IntKind.wrap .i64 (x474 + 1), (by rw [← hag477]; exact h), ha.sub (subs_cons (by kernel_rfl) (subs_cons (by kernel_rfl) (subs_cons (by kernel_rfl) (subs_nil _)))), HW.pick [] [1] (by decide) (by decide) (by kernel_rfl) (by kernel_rfl)⟩
        · skip
          replace h := ite_neg' h hp482
          refine condF ha (by kernel_rfl) (by kernel_rfl) (t := decide (x474 < 6)) (decide_eq_false hp482) ?_
          refine wp_exit ?_
          refine thenE ?_
          refine thenE ?_
          refine inBlk ?_
          refine thenN (hK416 _ _ ?_); clear hK416
          refine wp_seq_k (fun K500 hK501 => ?_)
          refine wp_region_lit ?_
          refine stepp ha 18 (.slice A471 x470.length c472) (by kernel_rfl) (by kernel_rfl) ?_; clear ha a; intro a ha
          refine stepp ha 2 (.slice A471 x470.length c472) (by kernel_rfl) (by kernel_rfl) ?_; clear ha a; intro a ha
          refine endl ?_
          refine thenN (hK501 _ _ ?_); clear hK501
          refine wp_ret ?_
          refine thenR ?_
          obtain rfl := Option.some.inj h
          exact finv ha _ _ rfl (.tmp (v := .slice A471 x470.length c472) (by kernel_rfl) .nil) (.slice A471 x470.length c472) rfl ⟨A471, c472, rfl, HW.pick [] [0] (by decide) (by decide) rfl (by kernel_rfl)⟩
  · skip
    replace h := ite_neg' h hp414
    refine condF ha (by kernel_rfl) (by kernel_rfl) (t := a0) (bool_f hp414) ?_
    refine wp_skip ?_
    refine thenN (hK411 _ _ ?_); clear hK411
    refine wp_seq_k (fun K502 hK503 => ?_)
    refine wp_seq_k (fun K504 hK505 => ?_)
    refine wp_region_lit ?_
    refine stepl ha 19 (HW.ca0 hG2) 120 0 (.global 2) (.agg (encs T_sqe_field.enc G_sqe_fieldsOf).toArray) rfl (by kernel_rfl) (by kernel_rfl) (by kernel_rfl) ?_; clear ha a; intro a ha
    refine stepp ha 20 (.int .i64 0) (by kernel_rfl) (by kernel_rfl) ?_; clear ha a; intro a ha
    refine endl ?_
    refine thenN (hK505 _ _ ?_); clear hK505
    refine wp_block ?_
    refine loopk (fun k => fun a W562 => ∃ (x557 : List T_sqe_field), ∃ A558, ∃ c559, ∃ (x561 : Int), sqe_fieldsFor.l1 K  k x557 x561 = some r ∧ Has 29 [(3, .slice A558 x557.length c559), (19, .agg (encs T_sqe_field.enc G_sqe_fieldsOf).toArray), (20, .int .i64 x561)] a ∧ Wd w W562 [] [⟨118, 3, .slice A558 x557.length c559, x557.length, encs T_sqe_field.enc x557⟩]) K ?_ ?_
    · skip
      replace HW := HW.nilo 118 3
      exact ⟨([] : List T_sqe_field), none, 0, 0, h, ha.sub (subs_cons (by kernel_rfl) (subs_cons (by kernel_rfl) (subs_cons (by kernel_rfl) (subs_nil _)))), HW.pick [] [0] (by decide) (by decide) (by kernel_rfl) (by kernel_rfl)⟩
    · skip
      intro k a W562 hI
      obtain ⟨x557, A558, c559, x561, h, ha, HW⟩ := hI
      cases k with
      | zero => exact (none_some (show none = some r from h)).elim
      | succ k563 =>
        replace h : sqe_fieldsFor.b1 K  (sqe_fieldsFor.l1 K  k563) x557 x561 = some r := h
        obtain ⟨again556, hag564⟩ : ∃ g_, g_ = sqe_fieldsFor.l1 K  k563 := ⟨_, rfl⟩
        rw [← hag564] at h
        unfold sqe_fieldsFor.b1 at h
        refine wp_seq_k (fun K565 hK566 => ?_)
        refine wp_region_lit ?_
        refine stepp ha 21 (.bool (decide (x561 < 11))) (by kernel_rfl) (by kernel_rfl) ?_; clear ha a; intro a ha
        refine endl ?_
        refine thenN (hK566 _ _ ?_); clear hK566
        refine wp_seq_k (fun K567 hK568 => ?_)
        by_cases hp569 : x561 < 11
        · skip
          replace h := ite_pos' h hp569
          refine condT ha (by kernel_rfl) (by kernel_rfl) (t := decide (x561 < 11)) (decide_eq_true hp569) ?_
          refine wp_skip ?_
          refine thenN (hK568 _ _ ?_); clear hK568
          refine wp_seq_k (fun K570 hK571 => ?_)
          refine wp_block ?_
          refine wp_seq_k (fun K572 hK573 => ?_)
          refine wp_region_lit ?_
          obtain ⟨hA574, h_⟩ := asrt_some h; clear h; have h := h_; clear h_
          refine stepag T_sqe_field.enc T_sqe_field.z ha 22 120 11 118 (.tmp 19) (.tmp 20) .i64 x561 G_sqe_fieldsOf (.agg #[.int .i64 ((rdL T_sqe_field.z G_sqe_fieldsOf x561).f0), .int .i64 ((rdL T_sqe_field.z G_sqe_fieldsOf x561).f1), .int .u64 ((rdL T_sqe_field.z G_sqe_fieldsOf x561).f2)]) rfl (by kernel_rfl) (by kernel_rfl) (by kernel_rfl) (by kernel_rfl) (fun _ => rfl) hA574 hp569 (by kernel_rfl) rfl ?_; clear ha a; intro a ha
          refine stepnew ha HW 7 #[.int .i64 0, .int .i64 0, .int .u64 0] 118 (by kernel_rfl) (by kernel_rfl) ?_; clear ha HW a; intro b575 a W576 HW ha
          refine stepst ha HW 0 (b := b575) (C := #[.int .i64 0, .int .i64 0, .int .u64 0]) (T := 118) (by kernel_rfl) 118 0 (.tmp 7) (.tmp 22) (.agg #[.int .i64 ((rdL T_sqe_field.z G_sqe_fieldsOf x561).f0), .int .i64 ((rdL T_sqe_field.z G_sqe_fieldsOf x561).f1), .int .u64 ((rdL T_sqe_field.z G_sqe_fieldsOf x561).f2)]) #[.int .i64 ((rdL T_sqe_field.z G_sqe_fieldsOf x561).f0), .int .i64 ((rdL T_sqe_field.z G_sqe_fieldsOf x561).f1), .int .u64 ((rdL T_sqe_field.z G_sqe_fieldsOf x561).f2)] rfl (by kernel_rfl) (by kernel_rfl) (by kernel_rfl) (by kernel_rfl) (by kernel_rfl) (by kernel_rfl) (by kernel_rfl) ?_; clear ha HW a; intro a W577 HW ha
          refine endl ?_
          refine thenN (hK573 _ _ ?_); clear hK573
          refine wp_region_lit ?_
          refine stepp ha 23 (.slice A558 x557.length c559) (by kernel_rfl) (by kernel_rfl) ?_; clear ha a; intro a ha
          refine stepl ha 24 (HW.ca (i := 0) (b := b575) (C := #[.int .i64 ((rdL T_sqe_field.z G_sqe_fieldsOf x561).f0), .int .i64 ((rdL T_sqe_field.z G_sqe_fieldsOf x561).f1), .int .u64 ((rdL T_sqe_field.z G_sqe_fieldsOf x561).f2)]) (T := 118) (fr := (0, 0)) (by kernel_rfl)) 118 0 (.tmp 7) (.agg #[.int .i64 ((rdL T_sqe_field.z G_sqe_fieldsOf x561).f0), .int .i64 ((rdL T_sqe_field.z G_sqe_fieldsOf x561).f1), .int .u64 ((rdL T_sqe_field.z G_sqe_fieldsOf x561).f2)]) rfl (by kernel_rfl) (by kernel_rfl) (by kernel_rfl) ?_; clear ha a; intro a ha
          refine stepbs ha HW 25 118 3 1 #[.int .i64 ((rdL T_sqe_field.z G_sqe_fieldsOf x561).f0), .int .i64 ((rdL T_sqe_field.z G_sqe_fieldsOf x561).f1), .int .u64 ((rdL T_sqe_field.z G_sqe_fieldsOf x561).f2)] [.int .i64 ((rdL T_sqe_field.z G_sqe_fieldsOf x561).f0), .int .i64 ((rdL T_sqe_field.z G_sqe_fieldsOf x561).f1), .int .u64 ((rdL T_sqe_field.z G_sqe_fieldsOf x561).f2)] (by decide) (by kernel_rfl) (by kernel_rfl) (by kernel_rfl) (by kernel_rfl) ?_; clear ha HW a; intro b578 a W579 HW ha
          replace HW : Wd w W579 [(b575, .cells #[.int .i64 ((rdL T_sqe_field.z G_sqe_fieldsOf x561).f0), .int .i64 ((rdL T_sqe_field.z G_sqe_fieldsOf x561).f1), .int .u64 ((rdL T_sqe_field.z G_sqe_fieldsOf x561).f2)] 118 (0, 0))] [⟨118, 3, .slice (some ⟨b578, 0, none⟩) ([(⟨(rdL T_sqe_field.z G_sqe_fieldsOf x561).f0, (rdL T_sqe_field.z G_sqe_fieldsOf x561).f1, (rdL T_sqe_field.z G_sqe_fieldsOf x561).f2⟩ : T_sqe_field)] : List T_sqe_field).length 1, ([(⟨(rdL T_sqe_field.z G_sqe_fieldsOf x561).f0, (rdL T_sqe_field.z G_sqe_fieldsOf x561).f1, (rdL T_sqe_field.z G_sqe_fieldsOf x561).f2⟩ : T_sqe_field)] : List T_sqe_field).length, encs T_sqe_field.enc ([(⟨(rdL T_sqe_field.z G_sqe_fieldsOf x561).f0, (rdL T_sqe_field.z G_sqe_fieldsOf x561).f1, (rdL T_sqe_field.z G_sqe_fieldsOf x561).f2⟩ : T_sqe_field)] : List T_sqe_field)⟩, ⟨118, 3, .slice A558 x557.length c559, x557.length, encs T_sqe_field.enc x557⟩] := HW
          replace ha := ha.turn 25 (v := .slice (some ⟨b578, 0, none⟩) ([(⟨(rdL T_sqe_field.z G_sqe_fieldsOf x561).f0, (rdL T_sqe_field.z G_sqe_fieldsOf x561).f1, (rdL T_sqe_field.z G_sqe_fieldsOf x561).f2⟩ : T_sqe_field)] : List T_sqe_field).length 1) (by kernel_rfl) rfl
          obtain ⟨hA581, h_⟩ := asrt_some h; clear h; have h := h_; clear h_
          refine stepape T_sqe_field.enc ha HW 26 1 86 118 (.tmp 23) (.tmp 25) (.agg #[.int .i64 0, .int .i64 0, .int .u64 0]) 3 24 (.slice A558 x557.length c559) x557 (.slice (some ⟨b578, 0, none⟩) ([(⟨(rdL T_sqe_field.z G_sqe_fieldsOf x561).f0, (rdL T_sqe_field.z G_sqe_fieldsOf x561).f1, (rdL T_sqe_field.z G_sqe_fieldsOf x561).f2⟩ : T_sqe_field)] : List T_sqe_field).length 1) ([(⟨(rdL T_sqe_field.z G_sqe_fieldsOf x561).f0, (rdL T_sqe_field.z G_sqe_fieldsOf x561).f1, (rdL T_sqe_field.z G_sqe_fieldsOf x561).f2⟩ : T_sqe_field)] : List T_sqe_field) (by kernel_rfl) rfl (by kernel_rfl) (by kernel_rfl) (HW.rdo (i := 0) (q := ⟨118, 3, .slice (some ⟨b578, 0, none⟩) ([(⟨(rdL T_sqe_field.z G_sqe_fieldsOf x561).f0, (rdL T_sqe_field.z G_sqe_fieldsOf x561).f1, (rdL T_sqe_field.z G_sqe_fieldsOf x561).f2⟩ : T_sqe_field)] : List T_sqe_field).length 1, ([(⟨(rdL T_sqe_field.z G_sqe_fieldsOf x561).f0, (rdL T_sqe_field.z G_sqe_fieldsOf x561).f1, (rdL T_sqe_field.z G_sqe_fieldsOf x561).f2⟩ : T_sqe_field)] : List T_sqe_field).length, encs T_sqe_field.enc ([(⟨(rdL T_sqe_field.z G_sqe_fieldsOf x561).f0, (rdL T_sqe_field.z G_sqe_fieldsOf x561).f1, (rdL T_sqe_field.z G_sqe_fieldsOf x561).f2⟩ : T_sqe_field)] : List T_sqe_field)⟩) (by kernel_rfl)) (fun _ => rfl) (by kernel_rfl) (by kernel_rfl) (by kernel_rfl) (by decide) (by have := hA581; unfold maxLen; omega) (by have := hA581; omega) (by kernel_rfl) ?_; clear ha HW a; intro A582 c583 a W584 HW ha
          refine stepp ha 3 (.slice A582 (x557 ++ ([(⟨(rdL T_sqe_field.z G_sqe_fieldsOf x561).f0, (rdL T_sqe_field.z G_sqe_fieldsOf x561).f1, (rdL T_sqe_field.z G_sqe_fieldsOf x561).f2⟩ : T_sqe_field)] : List T_sqe_field)).length c583) (by kernel_rfl) (by kernel_rfl) ?_; clear ha a; intro a ha
          refine endl ?_
          refine blkN ?_
          refine thenN (hK571 _ _ ?_); clear hK571
          refine wp_region_lit ?_
          refine stepp ha 27 (.int .i64 (IntKind.wrap .i64 (x561 + 1))) (by kernel_rfl) (by kernel_rfl) ?_; clear ha a; intro a ha
          refine stepp ha 20 (.int .i64 (IntKind.wrap .i64 (x561 + 1))) (by kernel_rfl) (by kernel_rfl) ?_; clear ha a; intro a ha
          refine endl ?_
          exact thenN ⟨k563, Nat.lt_succ_self k563, x557 ++ ([(⟨(rdL T_sqe_field.z G_sqe_fieldsOf x561).f0, (rdL T_sqe_field.z G_sqe_fieldsOf x561).f1, (rdL T_sqe_field.z G_sqe_fieldsOf x561).f2⟩ : T_sqe_field)] : List T_sqe_field), A582, c583, IntKind.wrap .i64 (x561 + 1), (by rw [← hag564]; exact h), ha.sub (subs_cons (by kernel_rfl) (subs_cons (by kernel_rfl) (subs_cons (by kernel_rfl) (subs_nil _)))), HW.pick [] [1] (by decide) (by decide) (by kernel_rfl) (by kernel_rfl)⟩
        · skip
          replace h := ite_neg' h hp569
          refine condF ha (by kernel_rfl) (by kernel_rfl) (t := decide (x561 < 11)) (decide_eq_false hp569) ?_
          refine wp_exit ?_
          refine thenE ?_
          refine thenE ?_
          refine inBlk ?_
          refine thenN (hK503 _ _ ?_); clear hK503
          refine wp_seq_k (fun K587 hK588 => ?_)
          refine wp_region_lit ?_
          refine stepp ha 28 (.slice A558 x557.length c559) (by kernel_rfl) (by kernel_rfl) ?_; clear ha a; intro a ha
          refine stepp ha 2 (.slice A558 x557.length c559) (by kernel_rfl) (by kernel_rfl) ?_; clear ha a; intro a ha
          refine endl ?_
          refine thenN (hK588 _ _ ?_); clear hK588
          refine wp_ret ?_
          obtain rfl := Option.some.inj h
          exact finv ha _ _ rfl (.tmp (v := .slice A558 x557.length c559) (by kernel_rfl) .nil) (.slice A558 x557.length c559) rfl ⟨A558, c559, rfl, HW.pick [] [0] (by decide) (by decide) rfl (by kernel_rfl)⟩
end Go.Proofs.YtceagilmillgfaaDoor.F
