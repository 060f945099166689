/- headgate/nresv.Words, headgate/headgatekeep.Ranges: plain functions, and that the calls come to what they say. No condition. -/
import Derived.Test.YthjjbkgifelooaaDoorFT
import Derived.Test.YthjjbkgifelooaaDoorF23
import Derived.Test.YthjjbkgifelooaaDoorF48
import Derived.Test.YthjjbkgifelooaaDoorF77
namespace Go.Proofs.YthjjbkgifelooaaDoor.F
open Go Go.RowKit Go.Proofs.YthjjbkgifelooaaDoor.X
set_option linter.unusedVariables false
set_option linter.unusedSimpArgs false
/-! ### headgate/nresv.Words: function 26 -/
def nresv_Words.j1 (K : Nat) (x3573 : Int) (x3609 : Int) (t3613 : ByteArray) (t3617 : ByteArray) (t3622 : Int) (x3650 : Bool) : Option (Int × Int × ByteArray × Int) :=
  if x3650 = true then (some ((rdL T_nresv_action.z G_nresv_actions x3573).f0, x3609, (t3613 ++ t3617).extract 0 (t3622 : Int).toNat, 0)) else (some (0, 0, (⟨#[]⟩ : ByteArray), 180))
def nresv_Words.j0 (K : Nat) (a0 : T_api_Cmd) (x3573 : Int) (x3609 : Int) : Option (Int × Int × ByteArray × Int) :=
  (fields_PutLittle.f K a0.f8 8).bind fun t3613 => ((fields_PutLittle.f K (bor .u64 a0.f9 a0.f10) 8).bind fun t3617 => (asrt (t3613.size + t3617.size ≤ 9223372036854775807) ((nresv_Size.f ((rdL T_nresv_action.z G_nresv_actions x3573).f0)).bind fun t3622 => (asrt (0 ≤ t3622) (asrt (t3622 ≤ ((t3613 ++ t3617).size : Int)) ((nresv_Change.f K ((rdL T_nresv_action.z G_nresv_actions x3573).f0) x3609 ((t3613 ++ t3617).extract 0 (t3622 : Int).toNat)).bind fun t3633 => (if t3633.2 = 0 then ((nresv_same.f (⟨t3633.1.f0, t3633.1.f1, t3633.1.f2, t3633.1.f3, t3633.1.f4, t3633.1.f5, t3633.1.f6, t3633.1.f7, t3633.1.f8, t3633.1.f9, t3633.1.f10, t3633.1.f11, t3633.1.f12, t3633.1.f13⟩ : T_api_Cmd) a0).bind fun t3646 => (nresv_Words.j1 K x3573 x3609 t3613 t3617 t3622 t3646)) else (nresv_Words.j1 K x3573 x3609 t3613 t3617 t3622 false))))))))
def nresv_Words.b0 (K : Nat) (a0 : T_api_Cmd) (again3572 : Int → Option (Int × Int × ByteArray × Int)) (x3573 : Int) : Option (Int × Int × ByteArray × Int) :=
  if x3573 < 7 then (asrt (0 ≤ x3573) (if ((rdL T_nresv_action.z G_nresv_actions x3573).f2) = a0.f0 then (if ((rdL T_nresv_action.z G_nresv_actions x3573).f0) = 13 then ((nresv_registerWord.f K a0).bind fun t3602 => (nresv_Words.j0 K a0 x3573 t3602)) else (if a0.f0 = 11 then (nresv_Words.j0 K a0 x3573 (IntKind.wrap .u32 ((rdL T_nresv_action.z G_nresv_actions x3573).f1))) else (nresv_Words.j0 K a0 x3573 (bor .u32 (IntKind.wrap .u32 ((rdL T_nresv_action.z G_nresv_actions x3573).f1)) (IntKind.wrap .u32 ((IntKind.wrap .u32 (band .i64 a0.f11 255)) * 256)))))) else (again3572 (IntKind.wrap .i64 (x3573 + 1))))) else (some (0, 0, (⟨#[]⟩ : ByteArray), 180))
def nresv_Words.l0 (K : Nat) (a0 : T_api_Cmd) : Nat → Int → Option (Int × Int × ByteArray × Int)
  | 0, _ => none
  | k_ + 1, x3573 => nresv_Words.b0 K a0 (nresv_Words.l0 K a0 k_) x3573
def nresv_Words.f (K : Nat) (a0 : T_api_Cmd) : Option (Int × Int × ByteArray × Int) :=
  nresv_Words.l0 K a0 K 0
set_option maxRecDepth 100000 in
set_option maxHeartbeats 4000000 in
theorem nresv_Words.calls (K : Nat) (a0 : T_api_Cmd) (A0_0 : Option Addr) (c0_0 : Nat) (r : Int × Int × ByteArray × Int) (w : World) (hG1 : CA w 1 0 (encs T_nresv_action.enc G_nresv_actions).toArray) (hG2 : CA w 2 0 (encs (encI .i64) G_nresv_aptpls).toArray) (hr0_0 : Rd 2 w (.slice A0_0 a0.f7.length c0_0) a0.f7.length (encs T_api_Range.enc a0.f7)) (h : nresv_Words.f K a0 = some r) :
    Calls Tryd.prog 26 #[.agg #[.int .i64 a0.f0, .int .i64 a0.f1, .string a0.f2, .int .i64 a0.f3, .int .i64 a0.f4, .string a0.f5, .bool a0.f6, .slice A0_0 a0.f7.length c0_0, .int .u64 a0.f8, .int .u64 a0.f9, .int .u64 a0.f10, .int .i64 a0.f11, .bool a0.f12, .int .i64 a0.f13]] w (fun e W' => e = .returned (.tuple #[.int .i64 r.1, .int .u32 r.2.1, .string r.2.2.1, .int .i64 r.2.2.2]) ∧ Wd w W' [] [] ) := by
  refine sxstart (n := 71) (l := [(0, .agg #[.int .i64 a0.f0, .int .i64 a0.f1, .string a0.f2, .int .i64 a0.f3, .int .i64 a0.f4, .string a0.f5, .bool a0.f6, .slice A0_0 a0.f7.length c0_0, .int .u64 a0.f8, .int .u64 a0.f9, .int .u64 a0.f10, .int .i64 a0.f11, .bool a0.f12, .int .i64 a0.f13])]) Tryd.func26 rfl rfl (Nat.le_of_ble_eq_true KR) (subsA_cons rfl (subsA_nil _)) ?_
  intro a ha
  have HW := Wd.refl w
  unfold nresv_Words.f at h
  refine wp_seq_k (fun K3407 hK3408 => ?_)
  refine wp_region_lit ?_
  refine stepnew ha HW 1 #[.int .i64 a0.f0, .int .i64 a0.f1, .string a0.f2, .int .i64 a0.f3, .int .i64 a0.f4, .string a0.f5, .bool a0.f6, .slice A0_0 a0.f7.length c0_0, .int .u64 a0.f8, .int .u64 a0.f9, .int .u64 a0.f10, .int .i64 a0.f11, .bool a0.f12, .int .i64 a0.f13] 49 KR KR ?_; clear ha HW a; intro b3409 a W3410 HW ha
  refine stepp ha 2 (.int .i64 0) KR KR ?_; clear ha a; intro a ha
  refine stepp ha 3 (.int .u32 0) KR KR ?_; clear ha a; intro a ha
  refine stepp ha 4 (.string (⟨#[]⟩ : ByteArray)) KR KR ?_; clear ha a; intro a ha
  refine stepp ha 5 (.int .i64 0) KR KR ?_; clear ha a; intro a ha
  refine endl ?_
  refine thenN (hK3408 _ _ ?_); clear hK3408
  refine wp_seq_k (fun K3411 hK3412 => ?_)
  refine wp_seq_k (fun K3413 hK3414 => ?_)
  refine wp_region_lit ?_
  refine stepl ha 10 (HW.ca0 hG1) 105 0 (.global 1) (.agg (encs T_nresv_action.enc G_nresv_actions).toArray) rfl KR KR KR ?_; clear ha a; intro a ha
  refine stepp ha 11 (.int .i64 0) KR KR ?_; clear ha a; intro a ha
  refine endl ?_
  refine thenN (hK3414 _ _ ?_); clear hK3414
  refine wp_block ?_
  refine loopk (fun k => fun a W3574 => ∃ (x3573 : Int), nresv_Words.l0 K a0 k x3573 = some r ∧ Has 71 [(1, .pointer (some ⟨b3409, 0, none⟩)), (10, .agg (encs T_nresv_action.enc G_nresv_actions).toArray), (11, .int .i64 x3573)] a ∧ Wd w W3574 [(b3409, .cells #[.int .i64 a0.f0, .int .i64 a0.f1, .string a0.f2, .int .i64 a0.f3, .int .i64 a0.f4, .string a0.f5, .bool a0.f6, .slice A0_0 a0.f7.length c0_0, .int .u64 a0.f8, .int .u64 a0.f9, .int .u64 a0.f10, .int .i64 a0.f11, .bool a0.f12, .int .i64 a0.f13] 49 (0, 0))] []) K ?_ ?_
  · skip
    exact ⟨0, h, ha.sub (subs_cons KR (subs_cons KR (subs_cons KR (subs_nil _)))), HW.pick [0] [] (by decide) (by decide) KR KR⟩
  · skip
    intro k a W3574 hI
    obtain ⟨x3573, h, ha, HW⟩ := hI
    cases k with
    | zero => exact (none_some (show none = some r from h)).elim
    | succ k3575 =>
      replace h : nresv_Words.b0 K a0 (nresv_Words.l0 K a0 k3575) x3573 = some r := h
      obtain ⟨again3572, hag3576⟩ : ∃ g_, g_ = nresv_Words.l0 K a0 k3575 := ⟨_, rfl⟩
      rw [← hag3576] at h
      unfold nresv_Words.b0 at h
      refine wp_seq_k (fun K3577 hK3578 => ?_)
      refine wp_region_lit ?_
      refine stepp ha 12 (.bool (decide (x3573 < 7))) KR KR ?_; clear ha a; intro a ha
      refine endl ?_
      refine thenN (hK3578 _ _ ?_); clear hK3578
      refine wp_seq_k (fun K3579 hK3580 => ?_)
      by_cases hp3581 : x3573 < 7
      · skip
        replace h := ite_pos' h hp3581
        refine condT ha KR KR (t := decide (x3573 < 7)) (decide_eq_true hp3581) ?_
        refine wp_skip ?_
        refine thenN (hK3580 _ _ ?_); clear hK3580
        refine wp_seq_k (fun K3582 hK3583 => ?_)
        refine wp_block ?_
        refine wp_seq_k (fun K3584 hK3585 => ?_)
        refine wp_region_lit ?_
        obtain ⟨hA3586, h_⟩ := asrt_some h; clear h; have h := h_; clear h_
        refine stepag T_nresv_action.enc T_nresv_action.z ha 13 105 7 104 (.tmp 10) (.tmp 11) .i64 x3573 G_nresv_actions (.agg #[.int .i64 ((rdL T_nresv_action.z G_nresv_actions x3573).f0), .int .i64 ((rdL T_nresv_action.z G_nresv_actions x3573).f1), .int .i64 ((rdL T_nresv_action.z G_nresv_actions x3573).f2)]) rfl KR KR KR KR (fun _ => rfl) hA3586 hp3581 KR rfl ?_; clear ha a; intro a ha
        refine stepnew ha HW 7 #[.int .i64 0, .int .i64 0, .int .i64 0] 104 KR KR ?_; clear ha HW a; intro b3587 a W3588 HW ha
        refine stepst ha HW 0 (b := b3587) (C := #[.int .i64 0, .int .i64 0, .int .i64 0]) (T := 104) KR 104 0 (.tmp 7) (.tmp 13) (.agg #[.int .i64 ((rdL T_nresv_action.z G_nresv_actions x3573).f0), .int .i64 ((rdL T_nresv_action.z G_nresv_actions x3573).f1), .int .i64 ((rdL T_nresv_action.z G_nresv_actions x3573).f2)]) #[.int .i64 ((rdL T_nresv_action.z G_nresv_actions x3573).f0), .int .i64 ((rdL T_nresv_action.z G_nresv_actions x3573).f1), .int .i64 ((rdL T_nresv_action.z G_nresv_actions x3573).f2)] rfl KR KR KR KR KR KR KR ?_; clear ha HW a; intro a W3589 HW ha
        refine endl ?_
        refine thenN (hK3585 _ _ ?_); clear hK3585
        refine wp_seq_k (fun K3590 hK3591 => ?_)
        refine wp_seq_k (fun K3592 hK3593 => ?_)
        refine wp_region_lit ?_
        refine stepp ha 14 (.pointer (some ⟨b3587, 2, none⟩)) KR KR ?_; clear ha a; intro a ha
        refine stepl ha 15 (HW.ca (i := 0) (b := b3587) (C := #[.int .i64 ((rdL T_nresv_action.z G_nresv_actions x3573).f0), .int .i64 ((rdL T_nresv_action.z G_nresv_actions x3573).f1), .int .i64 ((rdL T_nresv_action.z G_nresv_actions x3573).f2)]) (T := 104) (fr := (0, 0)) KR) 3 2 (.tmp 14) (.int .i64 ((rdL T_nresv_action.z G_nresv_actions x3573).f2)) rfl KR KR KR ?_; clear ha a; intro a ha
        refine stepp ha 16 (.pointer (some ⟨b3409, 0, none⟩)) KR KR ?_; clear ha a; intro a ha
        refine stepl ha 17 (HW.ca (i := 1) (b := b3409) (C := #[.int .i64 a0.f0, .int .i64 a0.f1, .string a0.f2, .int .i64 a0.f3, .int .i64 a0.f4, .string a0.f5, .bool a0.f6, .slice A0_0 a0.f7.length c0_0, .int .u64 a0.f8, .int .u64 a0.f9, .int .u64 a0.f10, .int .i64 a0.f11, .bool a0.f12, .int .i64 a0.f13]) (T := 49) (fr := (0, 0)) KR) 3 0 (.tmp 16) (.int .i64 a0.f0) rfl KR KR KR ?_; clear ha a; intro a ha
        refine stepp ha 18 (.bool (((rdL T_nresv_action.z G_nresv_actions x3573).f2) != a0.f0)) KR KR ?_; clear ha a; intro a ha
        refine endl ?_
        refine thenN (hK3593 _ _ ?_); clear hK3593
        by_cases hp3594 : ((rdL T_nresv_action.z G_nresv_actions x3573).f2) = a0.f0
        · skip
          replace h := ite_pos' h hp3594
          refine condF ha KR KR (t := (((rdL T_nresv_action.z G_nresv_actions x3573).f2) != a0.f0)) (ineq_f hp3594) ?_
          refine wp_skip ?_
          refine thenN (hK3591 _ _ ?_); clear hK3591
          refine wp_seq_k (fun K3595 hK3596 => ?_)
          refine wp_region_lit ?_
          refine stepp ha 19 (.pointer (some ⟨b3587, 1, none⟩)) KR KR ?_; clear ha a; intro a ha
          refine stepl ha 20 (HW.ca (i := 0) (b := b3587) (C := #[.int .i64 ((rdL T_nresv_action.z G_nresv_actions x3573).f0), .int .i64 ((rdL T_nresv_action.z G_nresv_actions x3573).f1), .int .i64 ((rdL T_nresv_action.z G_nresv_actions x3573).f2)]) (T := 104) (fr := (0, 0)) KR) 3 1 (.tmp 19) (.int .i64 ((rdL T_nresv_action.z G_nresv_actions x3573).f1)) rfl KR KR KR ?_; clear ha a; intro a ha
          refine stepp ha 21 (.int .u32 (IntKind.wrap .u32 ((rdL T_nresv_action.z G_nresv_actions x3573).f1))) KR KR ?_; clear ha a; intro a ha
          refine stepp ha 3 (.int .u32 (IntKind.wrap .u32 ((rdL T_nresv_action.z G_nresv_actions x3573).f1))) KR KR ?_; clear ha a; intro a ha
          refine endl ?_
          refine thenN (hK3596 _ _ ?_); clear hK3596
          refine wp_seq_k (fun K3597 hK3598 => ?_)
          refine cutn (fun a W3610 => ∃ (x3609 : Int), nresv_Words.j0 K a0 x3573 x3609 = some r ∧ Has 71 [(1, .pointer (some ⟨b3409, 0, none⟩)), (3, .int .u32 x3609), (7, .pointer (some ⟨b3587, 0, none⟩))] a ∧ Wd w W3610 [(b3409, .cells #[.int .i64 a0.f0, .int .i64 a0.f1, .string a0.f2, .int .i64 a0.f3, .int .i64 a0.f4, .string a0.f5, .bool a0.f6, .slice A0_0 a0.f7.length c0_0, .int .u64 a0.f8, .int .u64 a0.f9, .int .u64 a0.f10, .int .i64 a0.f11, .bool a0.f12, .int .i64 a0.f13] 49 (0, 0)), (b3587, .cells #[.int .i64 ((rdL T_nresv_action.z G_nresv_actions x3573).f0), .int .i64 ((rdL T_nresv_action.z G_nresv_actions x3573).f1), .int .i64 ((rdL T_nresv_action.z G_nresv_actions x3573).f2)] 104 (0, 0))] []) ?_ ?_
          · skip
            refine wp_seq_k (fun K3599 hK3600 => ?_)
            refine wp_region_lit ?_
            refine stepp ha 22 (.pointer (some ⟨b3587, 0, none⟩)) KR KR ?_; clear ha a; intro a ha
            refine stepl ha 23 (HW.ca (i := 0) (b := b3587) (C := #[.int .i64 ((rdL T_nresv_action.z G_nresv_actions x3573).f0), .int .i64 ((rdL T_nresv_action.z G_nresv_actions x3573).f1), .int .i64 ((rdL T_nresv_action.z G_nresv_actions x3573).f2)]) (T := 104) (fr := (0, 0)) KR) 3 0 (.tmp 22) (.int .i64 ((rdL T_nresv_action.z G_nresv_actions x3573).f0)) rfl KR KR KR ?_; clear ha a; intro a ha
            refine stepp ha 24 (.bool (((rdL T_nresv_action.z G_nresv_actions x3573).f0) == 13)) KR KR ?_; clear ha a; intro a ha
            refine endl ?_
            refine thenN (hK3600 _ _ ?_); clear hK3600
            by_cases hp3601 : ((rdL T_nresv_action.z G_nresv_actions x3573).f0) = 13
            · skip
              replace h := ite_pos' h hp3601
              refine condT ha KR KR (t := (((rdL T_nresv_action.z G_nresv_actions x3573).f0) == 13)) (ieq_t hp3601) ?_
              refine wp_region_lit ?_
              refine stepl ha 25 (HW.ca (i := 1) (b := b3409) (C := #[.int .i64 a0.f0, .int .i64 a0.f1, .string a0.f2, .int .i64 a0.f3, .int .i64 a0.f4, .string a0.f5, .bool a0.f6, .slice A0_0 a0.f7.length c0_0, .int .u64 a0.f8, .int .u64 a0.f9, .int .u64 a0.f10, .int .i64 a0.f11, .bool a0.f12, .int .i64 a0.f13]) (T := 49) (fr := (0, 0)) KR) 49 0 (.tmp 1) (.agg #[.int .i64 a0.f0, .int .i64 a0.f1, .string a0.f2, .int .i64 a0.f3, .int .i64 a0.f4, .string a0.f5, .bool a0.f6, .slice A0_0 a0.f7.length c0_0, .int .u64 a0.f8, .int .u64 a0.f9, .int .u64 a0.f10, .int .i64 a0.f11, .bool a0.f12, .int .i64 a0.f13]) rfl KR KR KR ?_; clear ha a; intro a ha
              obtain ⟨t3602, ht3603, h_⟩ := bind_some' h; clear h; have h := h_; clear h_
              refine stepc ha 26 KR KR (nresv_registerWord.calls K a0 A0_0 c0_0 t3602 _ (HW.ca0 hG2) ((HW.rd0 hr0_0)) ht3603) ?_; clear ha a; rintro e W3604 ⟨rfl, HX3605⟩
              refine ⟨_, rfl, ?_⟩; intro a ha; replace HW := HW.callw HX3605; clear HX3605
              refine stepp ha 3 (.int .u32 t3602) KR KR ?_; clear ha a; intro a ha
              refine endl ?_
              exact thenN ⟨t3602, h, ha.sub (subs_cons KR (subs_cons KR (subs_cons KR (subs_nil _)))), HW.pick [1, 0] [] (by decide) (by decide) KR KR⟩
            · skip
              replace h := ite_neg' h hp3601
              refine condF ha KR KR (t := (((rdL T_nresv_action.z G_nresv_actions x3573).f0) == 13)) (ieq_f hp3601) ?_
              refine wp_seq_k (fun K3606 hK3607 => ?_)
              refine wp_region_lit ?_
              refine stepp ha 27 (.pointer (some ⟨b3409, 0, none⟩)) KR KR ?_; clear ha a; intro a ha
              refine stepl ha 28 (HW.ca (i := 1) (b := b3409) (C := #[.int .i64 a0.f0, .int .i64 a0.f1, .string a0.f2, .int .i64 a0.f3, .int .i64 a0.f4, .string a0.f5, .bool a0.f6, .slice A0_0 a0.f7.length c0_0, .int .u64 a0.f8, .int .u64 a0.f9, .int .u64 a0.f10, .int .i64 a0.f11, .bool a0.f12, .int .i64 a0.f13]) (T := 49) (fr := (0, 0)) KR) 3 0 (.tmp 27) (.int .i64 a0.f0) rfl KR KR KR ?_; clear ha a; intro a ha
              refine stepp ha 29 (.bool (a0.f0 != 11)) KR KR ?_; clear ha a; intro a ha
              refine endl ?_
              refine thenN (hK3607 _ _ ?_); clear hK3607
              by_cases hp3608 : a0.f0 = 11
              · skip
                replace h := ite_pos' h hp3608
                refine condF ha KR KR (t := (a0.f0 != 11)) (ineq_f hp3608) ?_
                refine wp_skip ?_
                exact thenN ⟨IntKind.wrap .u32 ((rdL T_nresv_action.z G_nresv_actions x3573).f1), h, ha.sub (subs_cons KR (subs_cons KR (subs_cons KR (subs_nil _)))), HW.pick [1, 0] [] (by decide) (by decide) KR KR⟩
              · skip
                replace h := ite_neg' h hp3608
                refine condT ha KR KR (t := (a0.f0 != 11)) (ineq_t hp3608) ?_
                refine wp_region_lit ?_
                refine stepp ha 30 (.int .u32 (IntKind.wrap .u32 ((rdL T_nresv_action.z G_nresv_actions x3573).f1))) KR KR ?_; clear ha a; intro a ha
                refine stepp ha 31 (.pointer (some ⟨b3409, 11, none⟩)) KR KR ?_; clear ha a; intro a ha
                refine stepl ha 32 (HW.ca (i := 1) (b := b3409) (C := #[.int .i64 a0.f0, .int .i64 a0.f1, .string a0.f2, .int .i64 a0.f3, .int .i64 a0.f4, .string a0.f5, .bool a0.f6, .slice A0_0 a0.f7.length c0_0, .int .u64 a0.f8, .int .u64 a0.f9, .int .u64 a0.f10, .int .i64 a0.f11, .bool a0.f12, .int .i64 a0.f13]) (T := 49) (fr := (0, 0)) KR) 3 11 (.tmp 31) (.int .i64 a0.f11) rfl KR KR KR ?_; clear ha a; intro a ha
                refine stepp ha 33 (.int .i64 (band .i64 a0.f11 255)) KR KR ?_; clear ha a; intro a ha
                refine stepp ha 34 (.int .u32 (IntKind.wrap .u32 (band .i64 a0.f11 255))) KR KR ?_; clear ha a; intro a ha
                refine stepp ha 35 (.int .u32 (IntKind.wrap .u32 ((IntKind.wrap .u32 (band .i64 a0.f11 255)) * 256))) KR KR ?_; clear ha a; intro a ha
                refine stepp ha 36 (.int .u32 (bor .u32 (IntKind.wrap .u32 ((rdL T_nresv_action.z G_nresv_actions x3573).f1)) (IntKind.wrap .u32 ((IntKind.wrap .u32 (band .i64 a0.f11 255)) * 256)))) KR KR ?_; clear ha a; intro a ha
                refine stepp ha 3 (.int .u32 (bor .u32 (IntKind.wrap .u32 ((rdL T_nresv_action.z G_nresv_actions x3573).f1)) (IntKind.wrap .u32 ((IntKind.wrap .u32 (band .i64 a0.f11 255)) * 256)))) KR KR ?_; clear ha a; intro a ha
                refine endl ?_
                exact thenN ⟨bor .u32 (IntKind.wrap .u32 ((rdL T_nresv_action.z G_nresv_actions x3573).f1)) (IntKind.wrap .u32 ((IntKind.wrap .u32 (band .i64 a0.f11 255)) * 256)), h, ha.sub (subs_cons KR (subs_cons KR (subs_cons KR (subs_nil _)))), HW.pick [1, 0] [] (by decide) (by decide) KR KR⟩
          · skip
            intro a W3610 hJ
            obtain ⟨x3609, h, ha, HW⟩ := hJ
            replace h : nresv_Words.j0 K a0 x3573 x3609 = some r := h
            unfold nresv_Words.j0 at h
            refine hK3598 _ _ ?_; clear hK3598
            refine wp_seq_k (fun K3611 hK3612 => ?_)
            obtain ⟨t3613, ht3614, h_⟩ := bind_some' h; clear h; have h := h_; clear h_
            obtain ⟨t3617, ht3618, h_⟩ := bind_some' h; clear h; have h := h_; clear h_
            obtain ⟨hA3621, h_⟩ := asrt_some h; clear h; have h := h_; clear h_
            obtain ⟨t3622, ht3623, h_⟩ := bind_some' h; clear h; have h := h_; clear h_
            obtain ⟨hA3626, h_⟩ := asrt_some h; clear h; have h := h_; clear h_
            obtain ⟨hA3627, h_⟩ := asrt_some h; clear h; have h := h_; clear h_
            refine regionG 14 KR KR ha HW [.fix (.pointer (some ⟨b3409, 8, none⟩)), .fix (.int .u64 a0.f8), .fix (.string t3613), .fix (.pointer (some ⟨b3409, 9, none⟩)), .fix (.int .u64 a0.f9), .fix (.pointer (some ⟨b3409, 10, none⟩)), .fix (.int .u64 a0.f10), .fix (.int .u64 (bor .u64 a0.f9 a0.f10)), .fix (.string t3617), .fix (.string (t3613 ++ t3617)), .fix (.pointer (some ⟨b3587, 0, none⟩)), .fix (.int .i64 ((rdL T_nresv_action.z G_nresv_actions x3573).f0)), .fix (.int .i64 t3622), .fix (.string ((t3613 ++ t3617).extract 0 (t3622 : Int).toNat))] ?_ ?_
            · skip
              refine ⟨?_, ?_, ?_, ?_, ?_, ?_, ?_, ?_, ?_, ?_, ?_, ?_, ?_, ?_, trivial⟩
              · skip
                intro a wr hn hd HW hs; have ha := hasNil hn hd
                have ha := ha.add (seeE hs 1 (.pointer (some ⟨b3409, 0, none⟩)) KR KR)
                refine yStep ha 37 KR ?_; intro l_ ha HK
                refine stepp ha 37 (.pointer (some ⟨b3409, 8, none⟩)) KR KR ?_; intro ax hax; exact HK _ _ _ hax rfl (Below.refl _ _)
              · skip
                intro a wr hn hd HW hs; have ha := hasNil hn hd
                have ha := ha.add (seeF hs 37 0 (.pointer (some ⟨b3409, 8, none⟩)) KR KR)
                refine yStep ha 38 KR ?_; intro l_ ha HK
                refine stepl ha 38 (HW.ca (i := 0) (b := b3409) (C := #[.int .i64 a0.f0, .int .i64 a0.f1, .string a0.f2, .int .i64 a0.f3, .int .i64 a0.f4, .string a0.f5, .bool a0.f6, .slice A0_0 a0.f7.length c0_0, .int .u64 a0.f8, .int .u64 a0.f9, .int .u64 a0.f10, .int .i64 a0.f11, .bool a0.f12, .int .i64 a0.f13]) (T := 49) (fr := (0, 0)) KR) 42 8 (.tmp 37) (.int .u64 a0.f8) rfl KR KR KR ?_; intro ax hax; exact HK _ _ _ hax rfl (Below.refl _ _)
              · skip
                intro a wr hn hd HW hs; have ha := hasNil hn hd
                have ha := ha.add (seeF hs 38 1 (.int .u64 a0.f8) KR KR)
                refine yStep ha 39 KR ?_; intro l_ ha HK
                refine stepc ha 39 KR KR (fields_PutLittle.calls K a0.f8 8 t3613 _ ht3614) ?_; rintro e W3615 ⟨rfl, HX3616⟩
                refine ⟨_, rfl, ?_⟩; intro ax hax; exact HK _ _ _ hax rfl HX3616.below
              · skip
                intro a wr hn hd HW hs; have ha := hasNil hn hd
                have ha := ha.add (seeE hs 1 (.pointer (some ⟨b3409, 0, none⟩)) KR KR)
                refine yStep ha 40 KR ?_; intro l_ ha HK
                refine stepp ha 40 (.pointer (some ⟨b3409, 9, none⟩)) KR KR ?_; intro ax hax; exact HK _ _ _ hax rfl (Below.refl _ _)
              · skip
                intro a wr hn hd HW hs; have ha := hasNil hn hd
                have ha := ha.add (seeF hs 40 3 (.pointer (some ⟨b3409, 9, none⟩)) KR KR)
                refine yStep ha 41 KR ?_; intro l_ ha HK
                refine stepl ha 41 (HW.ca (i := 0) (b := b3409) (C := #[.int .i64 a0.f0, .int .i64 a0.f1, .string a0.f2, .int .i64 a0.f3, .int .i64 a0.f4, .string a0.f5, .bool a0.f6, .slice A0_0 a0.f7.length c0_0, .int .u64 a0.f8, .int .u64 a0.f9, .int .u64 a0.f10, .int .i64 a0.f11, .bool a0.f12, .int .i64 a0.f13]) (T := 49) (fr := (0, 0)) KR) 42 9 (.tmp 40) (.int .u64 a0.f9) rfl KR KR KR ?_; intro ax hax; exact HK _ _ _ hax rfl (Below.refl _ _)
              · skip
                intro a wr hn hd HW hs; have ha := hasNil hn hd
                have ha := ha.add (seeE hs 1 (.pointer (some ⟨b3409, 0, none⟩)) KR KR)
                refine yStep ha 42 KR ?_; intro l_ ha HK
                refine stepp ha 42 (.pointer (some ⟨b3409, 10, none⟩)) KR KR ?_; intro ax hax; exact HK _ _ _ hax rfl (Below.refl _ _)
              · skip
                intro a wr hn hd HW hs; have ha := hasNil hn hd
                have ha := ha.add (seeF hs 42 5 (.pointer (some ⟨b3409, 10, none⟩)) KR KR)
                refine yStep ha 43 KR ?_; intro l_ ha HK
                refine stepl ha 43 (HW.ca (i := 0) (b := b3409) (C := #[.int .i64 a0.f0, .int .i64 a0.f1, .string a0.f2, .int .i64 a0.f3, .int .i64 a0.f4, .string a0.f5, .bool a0.f6, .slice A0_0 a0.f7.length c0_0, .int .u64 a0.f8, .int .u64 a0.f9, .int .u64 a0.f10, .int .i64 a0.f11, .bool a0.f12, .int .i64 a0.f13]) (T := 49) (fr := (0, 0)) KR) 42 10 (.tmp 42) (.int .u64 a0.f10) rfl KR KR KR ?_; intro ax hax; exact HK _ _ _ hax rfl (Below.refl _ _)
              · skip
                intro a wr hn hd HW hs; have ha := hasNil hn hd
                have ha := ha.add (seeF hs 41 4 (.int .u64 a0.f9) KR KR)
                have ha := ha.add (seeF hs 43 6 (.int .u64 a0.f10) KR KR)
                refine yStep ha 44 KR ?_; intro l_ ha HK
                refine stepp ha 44 (.int .u64 (bor .u64 a0.f9 a0.f10)) KR KR ?_; intro ax hax; exact HK _ _ _ hax rfl (Below.refl _ _)
              · skip
                intro a wr hn hd HW hs; have ha := hasNil hn hd
                have ha := ha.add (seeF hs 44 7 (.int .u64 (bor .u64 a0.f9 a0.f10)) KR KR)
                refine yStep ha 45 KR ?_; intro l_ ha HK
                refine stepc ha 45 KR KR (fields_PutLittle.calls K (bor .u64 a0.f9 a0.f10) 8 t3617 _ ht3618) ?_; rintro e W3619 ⟨rfl, HX3620⟩
                refine ⟨_, rfl, ?_⟩; intro ax hax; exact HK _ _ _ hax rfl HX3620.below
              · skip
                intro a wr hn hd HW hs; have ha := hasNil hn hd
                have ha := ha.add (seeF hs 39 2 (.string t3613) KR KR)
                have ha := ha.add (seeF hs 45 8 (.string t3617) KR KR)
                refine yStep ha 46 KR ?_; intro l_ ha HK
                refine stepsa ha 46 9 9 (.tmp 39) (.tmp 45) t3613 t3617 rfl KR KR (show (t3613).size + (t3617).size ≤ 9223372036854775807 from hA3621) KR ?_; intro ax hax; exact HK _ _ _ hax rfl (Below.refl _ _)
              · skip
                intro a wr hn hd HW hs; have ha := hasNil hn hd
                have ha := ha.add (seeE hs 7 (.pointer (some ⟨b3587, 0, none⟩)) KR KR)
                refine yStep ha 47 KR ?_; intro l_ ha HK
                refine stepp ha 47 (.pointer (some ⟨b3587, 0, none⟩)) KR KR ?_; intro ax hax; exact HK _ _ _ hax rfl (Below.refl _ _)
              · skip
                intro a wr hn hd HW hs; have ha := hasNil hn hd
                have ha := ha.add (seeF hs 47 10 (.pointer (some ⟨b3587, 0, none⟩)) KR KR)
                refine yStep ha 48 KR ?_; intro l_ ha HK
                refine stepl ha 48 (HW.ca (i := 1) (b := b3587) (C := #[.int .i64 ((rdL T_nresv_action.z G_nresv_actions x3573).f0), .int .i64 ((rdL T_nresv_action.z G_nresv_actions x3573).f1), .int .i64 ((rdL T_nresv_action.z G_nresv_actions x3573).f2)]) (T := 104) (fr := (0, 0)) KR) 3 0 (.tmp 47) (.int .i64 ((rdL T_nresv_action.z G_nresv_actions x3573).f0)) rfl KR KR KR ?_; intro ax hax; exact HK _ _ _ hax rfl (Below.refl _ _)
              · skip
                intro a wr hn hd HW hs; have ha := hasNil hn hd
                have ha := ha.add (seeF hs 48 11 (.int .i64 ((rdL T_nresv_action.z G_nresv_actions x3573).f0)) KR KR)
                refine yStep ha 49 KR ?_; intro l_ ha HK
                refine stepc ha 49 KR KR (nresv_Size.calls ((rdL T_nresv_action.z G_nresv_actions x3573).f0) t3622 _ ht3623) ?_; rintro e W3624 ⟨rfl, HX3625⟩
                refine ⟨_, rfl, ?_⟩; intro ax hax; exact HK _ _ _ hax rfl HX3625.below
              · skip
                intro a wr hn hd HW hs; have ha := hasNil hn hd
                have ha := ha.add (seeF hs 46 9 (.string (t3613 ++ t3617)) KR KR)
                have ha := ha.add (seeF hs 49 12 (.int .i64 t3622) KR KR)
                refine yStep ha 50 KR ?_; intro l_ ha HK
                refine stepssh ha 50 9 (.tmp 46) (.tmp 49) (t3613 ++ t3617) .i64 t3622 rfl KR KR KR hA3626 (show (t3622 : Int) ≤ ((t3613 ++ t3617).size : Int) from hA3627) KR ?_; intro ax hax; exact HK _ _ _ hax rfl (Below.refl _ _)
            · skip
              intro a W3628 ha HW he hf
              replace ha := ha.add (he 1 (.pointer (some ⟨b3409, 0, none⟩)) KR KR)
              replace ha := ha.add (he 3 (.int .u32 x3609) KR KR)
              replace ha := ha.add (he 7 (.pointer (some ⟨b3587, 0, none⟩)) KR KR)
              replace ha := ha.add (gotF (m := 14) (j := 13) (d := 50) (v := .string ((t3613 ++ t3617).extract 0 (t3622 : Int).toNat)) hf KR KR KR)
              clear he hf
              refine stepp ha 4 (.string ((t3613 ++ t3617).extract 0 (t3622 : Int).toNat)) KR KR ?_; clear ha a; intro a ha
              refine endl ?_
              refine thenN (hK3612 _ _ ?_); clear hK3612
              refine wp_seq_k (fun K3629 hK3630 => ?_)
              refine wp_seq_k (fun K3631 hK3632 => ?_)
              refine wp_region_lit ?_
              refine stepp ha 52 (.pointer (some ⟨b3587, 0, none⟩)) KR KR ?_; clear ha a; intro a ha
              refine stepl ha 53 (HW.ca (i := 1) (b := b3587) (C := #[.int .i64 ((rdL T_nresv_action.z G_nresv_actions x3573).f0), .int .i64 ((rdL T_nresv_action.z G_nresv_actions x3573).f1), .int .i64 ((rdL T_nresv_action.z G_nresv_actions x3573).f2)]) (T := 104) (fr := (0, 0)) KR) 3 0 (.tmp 52) (.int .i64 ((rdL T_nresv_action.z G_nresv_actions x3573).f0)) rfl KR KR KR ?_; clear ha a; intro a ha
              refine stepp ha 54 (.int .u32 x3609) KR KR ?_; clear ha a; intro a ha
              refine stepp ha 55 (.string ((t3613 ++ t3617).extract 0 (t3622 : Int).toNat)) KR KR ?_; clear ha a; intro a ha
              obtain ⟨t3633, ht3634, h_⟩ := bind_some' h; clear h; have h := h_; clear h_
              refine stepc ha 56 KR KR (nresv_Change.calls K ((rdL T_nresv_action.z G_nresv_actions x3573).f0) x3609 ((t3613 ++ t3617).extract 0 (t3622 : Int).toNat) t3633 _ (HW.ca0 hG1) (HW.ca0 hG2) ht3634) ?_; clear ha a; rintro e W3638 ⟨A3635, c3636, rfl, HX3639⟩
              refine ⟨_, rfl, ?_⟩; intro a ha; replace HW := HW.callw HX3639; clear HX3639
              refine stepp ha 51 (.tuple #[.agg #[.int .i64 t3633.1.f0, .int .i64 t3633.1.f1, .string t3633.1.f2, .int .i64 t3633.1.f3, .int .i64 t3633.1.f4, .string t3633.1.f5, .bool t3633.1.f6, .slice A3635 t3633.1.f7.length c3636, .int .u64 t3633.1.f8, .int .u64 t3633.1.f9, .int .u64 t3633.1.f10, .int .i64 t3633.1.f11, .bool t3633.1.f12, .int .i64 t3633.1.f13], .int .i64 t3633.2]) KR KR ?_; clear ha a; intro a ha
              refine stepp ha 57 (.agg #[.int .i64 t3633.1.f0, .int .i64 t3633.1.f1, .string t3633.1.f2, .int .i64 t3633.1.f3, .int .i64 t3633.1.f4, .string t3633.1.f5, .bool t3633.1.f6, .slice A3635 t3633.1.f7.length c3636, .int .u64 t3633.1.f8, .int .u64 t3633.1.f9, .int .u64 t3633.1.f10, .int .i64 t3633.1.f11, .bool t3633.1.f12, .int .i64 t3633.1.f13]) KR KR ?_; clear ha a; intro a ha
              refine stepp ha 58 (.int .i64 t3633.2) KR KR ?_; clear ha a; intro a ha
              refine stepnew ha HW 8 #[.int .i64 0, .int .i64 0, .string (⟨#[]⟩ : ByteArray), .int .i64 0, .int .i64 0, .string (⟨#[]⟩ : ByteArray), .bool false, .slice none 0 0, .int .u64 0, .int .u64 0, .int .u64 0, .int .i64 0, .bool false, .int .i64 0] 49 KR KR ?_; clear ha HW a; intro b3640 a W3641 HW ha
              refine stepst ha HW 0 (b := b3640) (C := #[.int .i64 0, .int .i64 0, .string (⟨#[]⟩ : ByteArray), .int .i64 0, .int .i64 0, .string (⟨#[]⟩ : ByteArray), .bool false, .slice none 0 0, .int .u64 0, .int .u64 0, .int .u64 0, .int .i64 0, .bool false, .int .i64 0]) (T := 49) KR 49 0 (.tmp 8) (.tmp 57) (.agg #[.int .i64 t3633.1.f0, .int .i64 t3633.1.f1, .string t3633.1.f2, .int .i64 t3633.1.f3, .int .i64 t3633.1.f4, .string t3633.1.f5, .bool t3633.1.f6, .slice A3635 t3633.1.f7.length c3636, .int .u64 t3633.1.f8, .int .u64 t3633.1.f9, .int .u64 t3633.1.f10, .int .i64 t3633.1.f11, .bool t3633.1.f12, .int .i64 t3633.1.f13]) #[.int .i64 t3633.1.f0, .int .i64 t3633.1.f1, .string t3633.1.f2, .int .i64 t3633.1.f3, .int .i64 t3633.1.f4, .string t3633.1.f5, .bool t3633.1.f6, .slice A3635 t3633.1.f7.length c3636, .int .u64 t3633.1.f8, .int .u64 t3633.1.f9, .int .u64 t3633.1.f10, .int .i64 t3633.1.f11, .bool t3633.1.f12, .int .i64 t3633.1.f13] rfl KR KR KR KR KR KR KR ?_; clear ha HW a; intro a W3642 HW ha
              refine stepp ha 9 (.int .i64 t3633.2) KR KR ?_; clear ha a; intro a ha
              refine endl ?_
              refine thenN (hK3632 _ _ ?_); clear hK3632
              refine wp_seq_k (fun K3643 hK3644 => ?_)
              refine cutn (fun a W3651 => ∃ (x3650 : Bool), nresv_Words.j1 K x3573 x3609 t3613 t3617 t3622 x3650 = some r ∧ Has 71 [(3, .int .u32 x3609), (4, .string ((t3613 ++ t3617).extract 0 (t3622 : Int).toNat)), (7, .pointer (some ⟨b3587, 0, none⟩)), (65, .bool x3650)] a ∧ Wd w W3651 [(b3587, .cells #[.int .i64 ((rdL T_nresv_action.z G_nresv_actions x3573).f0), .int .i64 ((rdL T_nresv_action.z G_nresv_actions x3573).f1), .int .i64 ((rdL T_nresv_action.z G_nresv_actions x3573).f2)] 104 (0, 0))] []) ?_ ?_
              · skip
                refine wp_region_lit ?_
                refine stepp ha 59 (.int .i64 t3633.2) KR KR ?_; clear ha a; intro a ha
                refine stepp ha 60 (.bool (t3633.2 == 0)) KR KR ?_; clear ha a; intro a ha
                refine stepp ha 61 (.bool (t3633.2 == 0)) KR KR ?_; clear ha a; intro a ha
                by_cases hp3645 : t3633.2 = 0
                · skip
                  replace h := ite_pos' h hp3645
                  replace ha := ha.bool 61 KR (ieq_t hp3645)
                  refine stepl ha 62 (HW.ca (i := 0) (b := b3640) (C := #[.int .i64 t3633.1.f0, .int .i64 t3633.1.f1, .string t3633.1.f2, .int .i64 t3633.1.f3, .int .i64 t3633.1.f4, .string t3633.1.f5, .bool t3633.1.f6, .slice A3635 t3633.1.f7.length c3636, .int .u64 t3633.1.f8, .int .u64 t3633.1.f9, .int .u64 t3633.1.f10, .int .i64 t3633.1.f11, .bool t3633.1.f12, .int .i64 t3633.1.f13]) (T := 49) (fr := (0, 0)) KR) 49 0 (.tmp 8) (.agg #[.int .i64 t3633.1.f0, .int .i64 t3633.1.f1, .string t3633.1.f2, .int .i64 t3633.1.f3, .int .i64 t3633.1.f4, .string t3633.1.f5, .bool t3633.1.f6, .slice A3635 t3633.1.f7.length c3636, .int .u64 t3633.1.f8, .int .u64 t3633.1.f9, .int .u64 t3633.1.f10, .int .i64 t3633.1.f11, .bool t3633.1.f12, .int .i64 t3633.1.f13]) rfl KR KR KR ?_; clear ha a; intro a ha
                  refine stepl ha 63 (HW.ca (i := 1) (b := b3409) (C := #[.int .i64 a0.f0, .int .i64 a0.f1, .string a0.f2, .int .i64 a0.f3, .int .i64 a0.f4, .string a0.f5, .bool a0.f6, .slice A0_0 a0.f7.length c0_0, .int .u64 a0.f8, .int .u64 a0.f9, .int .u64 a0.f10, .int .i64 a0.f11, .bool a0.f12, .int .i64 a0.f13]) (T := 49) (fr := (0, 0)) KR) 49 0 (.tmp 1) (.agg #[.int .i64 a0.f0, .int .i64 a0.f1, .string a0.f2, .int .i64 a0.f3, .int .i64 a0.f4, .string a0.f5, .bool a0.f6, .slice A0_0 a0.f7.length c0_0, .int .u64 a0.f8, .int .u64 a0.f9, .int .u64 a0.f10, .int .i64 a0.f11, .bool a0.f12, .int .i64 a0.f13]) rfl KR KR KR ?_; clear ha a; intro a ha
                  obtain ⟨t3646, ht3647, h_⟩ := bind_some' h; clear h; have h := h_; clear h_
                  refine stepc ha 64 KR KR (nresv_same.calls (⟨t3633.1.f0, t3633.1.f1, t3633.1.f2, t3633.1.f3, t3633.1.f4, t3633.1.f5, t3633.1.f6, t3633.1.f7, t3633.1.f8, t3633.1.f9, t3633.1.f10, t3633.1.f11, t3633.1.f12, t3633.1.f13⟩ : T_api_Cmd) a0 A3635 c3636 A0_0 c0_0 t3646 _ (HW.rdo (i := 0) (q := ⟨128, 2, .slice A3635 t3633.1.f7.length c3636, t3633.1.f7.length, encs T_api_Range.enc t3633.1.f7⟩) KR) ((HW.rd0 hr0_0)) ht3647) ?_; clear ha a; rintro e W3648 ⟨rfl, HX3649⟩
                  refine ⟨_, rfl, ?_⟩; intro a ha; replace HW := HW.callw HX3649; clear HX3649
                  refine stepp ha 65 (.bool t3646) KR KR ?_; clear ha a; intro a ha
                  refine endl ?_
                  exact thenN ⟨t3646, h, ha.sub (subs_cons KR (subs_cons KR (subs_cons KR (subs_cons KR (subs_nil _))))), HW.pick [2] [] (by decide) (by decide) KR KR⟩
                · skip
                  replace h := ite_neg' h hp3645
                  replace ha := ha.bool 61 KR (ieq_f hp3645)
                  refine stepo ha 62 KR ?_; clear ha a; intro a ha
                  refine stepo ha 63 KR ?_; clear ha a; intro a ha
                  refine stepo ha 64 KR ?_; clear ha a; intro a ha
                  refine stepp ha 65 (.bool false) KR KR ?_; clear ha a; intro a ha
                  refine endl ?_
                  exact thenN ⟨false, h, ha.sub (subs_cons KR (subs_cons KR (subs_cons KR (subs_cons KR (subs_nil _))))), HW.pick [2] [] (by decide) (by decide) KR KR⟩
              · skip
                intro a W3651 hJ
                obtain ⟨x3650, h, ha, HW⟩ := hJ
                replace h : nresv_Words.j1 K x3573 x3609 t3613 t3617 t3622 x3650 = some r := h
                unfold nresv_Words.j1 at h
                refine hK3644 _ _ ?_; clear hK3644
                by_cases hp3652 : x3650 = true
                · skip
                  replace h := ite_pos' h hp3652
                  refine condT ha KR KR (t := x3650) (hp3652) ?_
                  refine wp_seq_k (fun K3653 hK3654 => ?_)
                  refine wp_region_lit ?_
                  refine stepp ha 66 (.pointer (some ⟨b3587, 0, none⟩)) KR KR ?_; clear ha a; intro a ha
                  refine stepl ha 67 (HW.ca (i := 0) (b := b3587) (C := #[.int .i64 ((rdL T_nresv_action.z G_nresv_actions x3573).f0), .int .i64 ((rdL T_nresv_action.z G_nresv_actions x3573).f1), .int .i64 ((rdL T_nresv_action.z G_nresv_actions x3573).f2)]) (T := 104) (fr := (0, 0)) KR) 3 0 (.tmp 66) (.int .i64 ((rdL T_nresv_action.z G_nresv_actions x3573).f0)) rfl KR KR KR ?_; clear ha a; intro a ha
                  refine stepp ha 68 (.int .u32 x3609) KR KR ?_; clear ha a; intro a ha
                  refine stepp ha 69 (.string ((t3613 ++ t3617).extract 0 (t3622 : Int).toNat)) KR KR ?_; clear ha a; intro a ha
                  refine stepp ha 2 (.int .i64 ((rdL T_nresv_action.z G_nresv_actions x3573).f0)) KR KR ?_; clear ha a; intro a ha
                  refine stepp ha 3 (.int .u32 x3609) KR KR ?_; clear ha a; intro a ha
                  refine stepp ha 4 (.string ((t3613 ++ t3617).extract 0 (t3622 : Int).toNat)) KR KR ?_; clear ha a; intro a ha
                  refine stepp ha 5 (.int .i64 0) KR KR ?_; clear ha a; intro a ha
                  refine endl ?_
                  refine thenN (hK3654 _ _ ?_); clear hK3654
                  refine wp_ret ?_
                  refine thenR ?_
                  refine blkR ?_
                  refine thenR ?_
                  refine thenR ?_
                  refine blkR ?_
                  refine thenR ?_
                  obtain rfl := Option.some.inj h
                  exact finv ha _ _ rfl (.tmp (v := .int .i64 ((rdL T_nresv_action.z G_nresv_actions x3573).f0)) KR (.tmp (v := .int .u32 x3609) KR (.tmp (v := .string ((t3613 ++ t3617).extract 0 (t3622 : Int).toNat)) KR (.tmp (v := .int .i64 0) KR .nil)))) (.tuple #[.int .i64 ((rdL T_nresv_action.z G_nresv_actions x3573).f0), .int .u32 x3609, .string ((t3613 ++ t3617).extract 0 (t3622 : Int).toNat), .int .i64 0]) rfl ⟨rfl, HW.pick [] [] (by decide) (by decide) rfl KR⟩
                · skip
                  replace h := ite_neg' h hp3652
                  refine condF ha KR KR (t := x3650) (bool_f hp3652) ?_
                  refine wp_skip ?_
                  refine thenN (hK3630 _ _ ?_); clear hK3630
                  refine wp_exit ?_
                  refine inBlkNe rfl ?_
                  refine thenE ?_
                  refine thenE ?_
                  refine inBlk ?_
                  refine thenN (hK3412 _ _ ?_); clear hK3412
                  refine wp_seq_k (fun K3657 hK3658 => ?_)
                  refine wp_region_lit ?_
                  refine stepp ha 2 (.int .i64 0) KR KR ?_; clear ha a; intro a ha
                  refine stepp ha 3 (.int .u32 0) KR KR ?_; clear ha a; intro a ha
                  refine stepp ha 4 (.string (⟨#[]⟩ : ByteArray)) KR KR ?_; clear ha a; intro a ha
                  refine stepp ha 5 (.int .i64 180) KR KR ?_; clear ha a; intro a ha
                  refine endl ?_
                  refine thenN (hK3658 _ _ ?_); clear hK3658
                  refine wp_ret ?_
                  obtain rfl := Option.some.inj h
                  exact finv ha _ _ rfl (.tmp (v := .int .i64 0) KR (.tmp (v := .int .u32 0) KR (.tmp (v := .string (⟨#[]⟩ : ByteArray)) KR (.tmp (v := .int .i64 180) KR .nil)))) (.tuple #[.int .i64 0, .int .u32 0, .string (⟨#[]⟩ : ByteArray), .int .i64 180]) rfl ⟨rfl, HW.pick [] [] (by decide) (by decide) rfl KR⟩
        · skip
          replace h := ite_neg' h hp3594
          refine condT ha KR KR (t := (((rdL T_nresv_action.z G_nresv_actions x3573).f2) != a0.f0)) (ineq_t hp3594) ?_
          refine wp_exit ?_
          refine thenE ?_
          refine inBlk ?_
          refine thenN (hK3583 _ _ ?_); clear hK3583
          refine wp_region_lit ?_
          refine stepp ha 70 (.int .i64 (IntKind.wrap .i64 (x3573 + 1))) KR KR ?_; clear ha a; intro a ha
          refine stepp ha 11 (.int .i64 (IntKind.wrap .i64 (x3573 + 1))) KR KR ?_; clear ha a; intro a ha
          refine endl ?_
          exact thenN ⟨k3575, Nat.lt_succ_self k3575, IntKind.wrap .i64 (x3573 + 1), (by rw [← hag3576]; exact h), ha.sub (subs_cons KR (subs_cons KR (subs_cons KR (subs_nil _)))), HW.pick [1] [] (by decide) (by decide) KR KR⟩
      · skip
        replace h := ite_neg' h hp3581
        refine condF ha KR KR (t := decide (x3573 < 7)) (decide_eq_false hp3581) ?_
        refine wp_exit ?_
        refine thenE ?_
        refine thenE ?_
        refine inBlk ?_
        refine thenN (hK3412 _ _ ?_); clear hK3412
        refine wp_seq_k (fun K3655 hK3656 => ?_)
        refine wp_region_lit ?_
        refine stepp ha 2 (.int .i64 0) KR KR ?_; clear ha a; intro a ha
        refine stepp ha 3 (.int .u32 0) KR KR ?_; clear ha a; intro a ha
        refine stepp ha 4 (.string (⟨#[]⟩ : ByteArray)) KR KR ?_; clear ha a; intro a ha
        refine stepp ha 5 (.int .i64 180) KR KR ?_; clear ha a; intro a ha
        refine endl ?_
        refine thenN (hK3656 _ _ ?_); clear hK3656
        refine wp_ret ?_
        obtain rfl := Option.some.inj h
        exact finv ha _ _ rfl (.tmp (v := .int .i64 0) KR (.tmp (v := .int .u32 0) KR (.tmp (v := .string (⟨#[]⟩ : ByteArray)) KR (.tmp (v := .int .i64 180) KR .nil)))) (.tuple #[.int .i64 0, .int .u32 0, .string (⟨#[]⟩ : ByteArray), .int .i64 180]) rfl ⟨rfl, HW.pick [] [] (by decide) (by decide) rfl KR⟩
/-! ### headgate/headgatekeep.Ranges: function 63 -/
def headgatekeep_Ranges.b0 (K : Nat) (a0 : List T_api_Range) (a1 : List T_api_Range) (again3733 : Int → Option Bool) (x3734 : Int) : Option Bool :=
  if x3734 < (a0.length : Int) then (asrt (0 ≤ x3734) (asrt (x3734 < (a1.length : Int)) (if ((rdL T_api_Range.z a0 x3734).f0) = ((rdL T_api_Range.z a1 x3734).f0) then (if ((rdL T_api_Range.z a0 x3734).f1) = ((rdL T_api_Range.z a1 x3734).f1) then (again3733 (IntKind.wrap .i64 (x3734 + 1))) else (some false)) else (some false)))) else (some true)
def headgatekeep_Ranges.l0 (K : Nat) (a0 : List T_api_Range) (a1 : List T_api_Range) : Nat → Int → Option Bool
  | 0, _ => none
  | k_ + 1, x3734 => headgatekeep_Ranges.b0 K a0 a1 (headgatekeep_Ranges.l0 K a0 a1 k_) x3734
def headgatekeep_Ranges.f (K : Nat) (a0 : List T_api_Range) (a1 : List T_api_Range) : Option Bool :=
  if (a0.length : Int) = (a1.length : Int) then (headgatekeep_Ranges.l0 K a0 a1 K 0) else (some false)
set_option maxRecDepth 100000 in
set_option maxHeartbeats 4000000 in
theorem headgatekeep_Ranges.calls (K : Nat) (a0 : List T_api_Range) (a1 : List T_api_Range) (A0_0 : Option Addr) (c0_0 : Nat) (A1_1 : Option Addr) (c1_1 : Nat) (r : Bool) (w : World) (hr0_0 : Rd 2 w (.slice A0_0 a0.length c0_0) a0.length (encs T_api_Range.enc a0)) (hr1_1 : Rd 2 w (.slice A1_1 a1.length c1_1) a1.length (encs T_api_Range.enc a1)) (h : headgatekeep_Ranges.f K a0 a1 = some r) :
    Calls Tryd.prog 63 #[.slice A0_0 a0.length c0_0, .slice A1_1 a1.length c1_1] w (fun e W' => e = .returned (.bool r) ∧ Wd w W' [] [] ) := by
  refine sxstart (n := 41) (l := [(0, .slice A0_0 a0.length c0_0), (1, .slice A1_1 a1.length c1_1)]) Tryd.func63 rfl rfl (Nat.le_of_ble_eq_true KR) (subsA_cons rfl (subsA_cons rfl (subsA_nil _))) ?_
  intro a ha
  have HW := Wd.refl w
  unfold headgatekeep_Ranges.f at h
  refine wp_seq_k (fun K3659 hK3660 => ?_)
  refine wp_region_lit ?_
  refine stepp ha 4 (.bool false) KR KR ?_; clear ha a; intro a ha
  refine endl ?_
  refine thenN (hK3660 _ _ ?_); clear hK3660
  refine wp_seq_k (fun K3661 hK3662 => ?_)
  refine wp_seq_k (fun K3663 hK3664 => ?_)
  refine wp_region_lit ?_
  refine stepp ha 6 (.slice A0_0 a0.length c0_0) KR KR ?_; clear ha a; intro a ha
  refine stepp ha 7 (.int .i64 (a0.length : Int)) KR KR ?_; clear ha a; intro a ha
  refine stepp ha 8 (.slice A1_1 a1.length c1_1) KR KR ?_; clear ha a; intro a ha
  refine stepp ha 9 (.int .i64 (a1.length : Int)) KR KR ?_; clear ha a; intro a ha
  refine stepp ha 10 (.bool ((a0.length : Int) != (a1.length : Int))) KR KR ?_; clear ha a; intro a ha
  refine endl ?_
  refine thenN (hK3664 _ _ ?_); clear hK3664
  by_cases hp3665 : (a0.length : Int) = (a1.length : Int)
  · skip
    replace h := ite_pos' h hp3665
    refine condF ha KR KR (t := ((a0.length : Int) != (a1.length : Int))) (ineq_f hp3665) ?_
    refine wp_skip ?_
    refine thenN (hK3662 _ _ ?_); clear hK3662
    refine wp_seq_k (fun K3668 hK3669 => ?_)
    refine wp_seq_k (fun K3670 hK3671 => ?_)
    refine wp_region_lit ?_
    refine stepp ha 5 (.int .i64 0) KR KR ?_; clear ha a; intro a ha
    refine endl ?_
    refine thenN (hK3671 _ _ ?_); clear hK3671
    refine wp_block ?_
    refine loopk (fun k => fun a W3735 => ∃ (x3734 : Int), headgatekeep_Ranges.l0 K a0 a1 k x3734 = some r ∧ Has 41 [(0, .slice A0_0 a0.length c0_0), (1, .slice A1_1 a1.length c1_1), (5, .int .i64 x3734)] a ∧ Wd w W3735 [] []) K ?_ ?_
    · skip
      exact ⟨0, h, ha.sub (subs_cons KR (subs_cons KR (subs_cons KR (subs_nil _)))), HW.pick [] [] (by decide) (by decide) KR KR⟩
    · skip
      intro k a W3735 hI
      obtain ⟨x3734, h, ha, HW⟩ := hI
      cases k with
      | zero => exact (none_some (show none = some r from h)).elim
      | succ k3736 =>
        replace h : headgatekeep_Ranges.b0 K a0 a1 (headgatekeep_Ranges.l0 K a0 a1 k3736) x3734 = some r := h
        obtain ⟨again3733, hag3737⟩ : ∃ g_, g_ = headgatekeep_Ranges.l0 K a0 a1 k3736 := ⟨_, rfl⟩
        rw [← hag3737] at h
        unfold headgatekeep_Ranges.b0 at h
        refine wp_seq_k (fun K3738 hK3739 => ?_)
        refine wp_seq_k (fun K3740 hK3741 => ?_)
        refine wp_region_lit ?_
        refine stepp ha 11 (.int .i64 x3734) KR KR ?_; clear ha a; intro a ha
        refine stepp ha 12 (.slice A0_0 a0.length c0_0) KR KR ?_; clear ha a; intro a ha
        refine stepp ha 13 (.int .i64 (a0.length : Int)) KR KR ?_; clear ha a; intro a ha
        refine stepp ha 14 (.bool (decide (x3734 < (a0.length : Int)))) KR KR ?_; clear ha a; intro a ha
        refine endl ?_
        refine thenN (hK3741 _ _ ?_); clear hK3741
        by_cases hp3742 : x3734 < (a0.length : Int)
        · skip
          replace h := ite_pos' h hp3742
          refine condT ha KR KR (t := decide (x3734 < (a0.length : Int))) (decide_eq_true hp3742) ?_
          refine wp_skip ?_
          refine thenN (hK3739 _ _ ?_); clear hK3739
          refine wp_seq_k (fun K3743 hK3744 => ?_)
          refine wp_block ?_
          refine wp_seq_k (fun K3745 hK3746 => ?_)
          obtain ⟨hA3747, h_⟩ := asrt_some h; clear h; have h := h_; clear h_
          obtain ⟨b3749, off3750, hA3751⟩ := Rd.addr ((HW.rd0 hr0_0)) hA3747 (show (x3734 : Int) < ((a0).length : Int) from hp3742)
          obtain ⟨hA3752, h_⟩ := asrt_some h; clear h; have h := h_; clear h_
          obtain ⟨b3754, off3755, hA3756⟩ := Rd.addr ((HW.rd0 hr1_1)) hA3747 (show (x3734 : Int) < ((a1).length : Int) from hA3752)
          by_cases hp3757 : ((rdL T_api_Range.z a0 x3734).f0) = ((rdL T_api_Range.z a1 x3734).f0)
          · skip
            replace h := ite_pos' h hp3757
            refine regionG 24 KR KR ha HW [.fix (.slice A0_0 a0.length c0_0), .fix (.int .i64 x3734), .fix (.pointer (some ⟨b3749, off3750 + (x3734 : Int).toNat * 2, none⟩)), .fix (.pointer (some ⟨b3749, off3750 + (x3734 : Int).toNat * 2, none⟩)), .fix (.int .i64 ((rdL T_api_Range.z a0 x3734).f0)), .fix (.slice A1_1 a1.length c1_1), .fix (.int .i64 x3734), .fix (.pointer (some ⟨b3754, off3755 + (x3734 : Int).toNat * 2, none⟩)), .fix (.pointer (some ⟨b3754, off3755 + (x3734 : Int).toNat * 2, none⟩)), .fix (.int .i64 ((rdL T_api_Range.z a1 x3734).f0)), .fix (.bool (((rdL T_api_Range.z a0 x3734).f0) != ((rdL T_api_Range.z a1 x3734).f0))), .fix (.bool (((rdL T_api_Range.z a0 x3734).f0) != ((rdL T_api_Range.z a1 x3734).f0))), .fix (.slice A0_0 a0.length c0_0), .fix (.int .i64 x3734), .fix (.pointer (some ⟨b3749, off3750 + (x3734 : Int).toNat * 2, none⟩)), .fix (.pointer (some ⟨b3749, off3750 + (x3734 : Int).toNat * 2 + 1, none⟩)), .fix (.int .i64 ((rdL T_api_Range.z a0 x3734).f1)), .fix (.slice A1_1 a1.length c1_1), .fix (.int .i64 x3734), .fix (.pointer (some ⟨b3754, off3755 + (x3734 : Int).toNat * 2, none⟩)), .fix (.pointer (some ⟨b3754, off3755 + (x3734 : Int).toNat * 2 + 1, none⟩)), .fix (.int .i64 ((rdL T_api_Range.z a1 x3734).f1)), .fix (.bool (((rdL T_api_Range.z a0 x3734).f1) != ((rdL T_api_Range.z a1 x3734).f1))), .fix (.bool (((rdL T_api_Range.z a0 x3734).f1) != ((rdL T_api_Range.z a1 x3734).f1)))] ?_ ?_
            · skip
              refine ⟨?_, ?_, ?_, ?_, ?_, ?_, ?_, ?_, ?_, ?_, ?_, ?_, ?_, ?_, ?_, ?_, ?_, ?_, ?_, ?_, ?_, ?_, ?_, ?_, trivial⟩
              · skip
                intro a wr hn hd HW hs; have ha := hasNil hn hd
                have ha := ha.add (seeE hs 0 (.slice A0_0 a0.length c0_0) KR KR)
                refine yStep ha 17 KR ?_; intro l_ ha HK
                refine stepp ha 17 (.slice A0_0 a0.length c0_0) KR KR ?_; intro ax hax; exact HK _ _ _ hax rfl (Below.refl _ _)
              · skip
                intro a wr hn hd HW hs; have ha := hasNil hn hd
                have ha := ha.add (seeE hs 5 (.int .i64 x3734) KR KR)
                refine yStep ha 18 KR ?_; intro l_ ha HK
                refine stepp ha 18 (.int .i64 x3734) KR KR ?_; intro ax hax; exact HK _ _ _ hax rfl (Below.refl _ _)
              · skip
                intro a wr hn hd HW hs; have ha := hasNil hn hd
                have ha := ha.add (seeF hs 17 0 (.slice A0_0 a0.length c0_0) KR KR)
                have ha := ha.add (seeF hs 18 1 (.int .i64 x3734) KR KR)
                replace ha := ha.turn 17 (u := .slice A0_0 a0.length c0_0) (v := .slice (some ⟨b3749, off3750, none⟩) a0.length c0_0) KR (by rw [hA3751])
                refine yStep ha 19 KR ?_; intro l_ ha HK
                refine stepif ha 19 (sz := 2) (len := a0.length) (b := b3749) (off := off3750) (c := c0_0) 47 128 (.tmp 17) (.tmp 18) .i64 x3734 rfl KR KR KR KR hA3747 (show (x3734 : Int) < ((a0).length : Int) from hp3742) KR ?_; intro ax hax; exact HK _ _ _ hax rfl (Below.refl _ _)
              · skip
                intro a wr hn hd HW hs; have ha := hasNil hn hd
                have ha := ha.add (seeF hs 19 2 (.pointer (some ⟨b3749, off3750 + (x3734 : Int).toNat * 2, none⟩)) KR KR)
                refine yStep ha 20 KR ?_; intro l_ ha HK
                refine stepp ha 20 (.pointer (some ⟨b3749, off3750 + (x3734 : Int).toNat * 2, none⟩)) KR KR ?_; intro ax hax; exact HK _ _ _ hax rfl (Below.refl _ _)
              · skip
                intro a wr hn hd HW hs; have ha := hasNil hn hd
                have ha := ha.add (seeF hs 20 3 (.pointer (some ⟨b3749, off3750 + (x3734 : Int).toNat * 2, none⟩)) KR KR)
                refine yStep ha 21 KR ?_; intro l_ ha HK
                refine stepl ha 21 (Rd.ca T_api_Range.enc T_api_Range.z (fun _ => rfl) (by have h_ := ((HW.rd0 hr0_0)); rw [hA3751] at h_; exact h_) hA3747 (show (x3734 : Int) < ((a0).length : Int) from hp3742)) 3 0 (.tmp 20) (.int .i64 ((rdL T_api_Range.z a0 x3734).f0)) rfl KR KR KR ?_; intro ax hax; exact HK _ _ _ hax rfl (Below.refl _ _)
              · skip
                intro a wr hn hd HW hs; have ha := hasNil hn hd
                have ha := ha.add (seeE hs 1 (.slice A1_1 a1.length c1_1) KR KR)
                refine yStep ha 22 KR ?_; intro l_ ha HK
                refine stepp ha 22 (.slice A1_1 a1.length c1_1) KR KR ?_; intro ax hax; exact HK _ _ _ hax rfl (Below.refl _ _)
              · skip
                intro a wr hn hd HW hs; have ha := hasNil hn hd
                have ha := ha.add (seeE hs 5 (.int .i64 x3734) KR KR)
                refine yStep ha 23 KR ?_; intro l_ ha HK
                refine stepp ha 23 (.int .i64 x3734) KR KR ?_; intro ax hax; exact HK _ _ _ hax rfl (Below.refl _ _)
              · skip
                intro a wr hn hd HW hs; have ha := hasNil hn hd
                have ha := ha.add (seeF hs 22 5 (.slice A1_1 a1.length c1_1) KR KR)
                have ha := ha.add (seeF hs 23 6 (.int .i64 x3734) KR KR)
                replace ha := ha.turn 22 (u := .slice A1_1 a1.length c1_1) (v := .slice (some ⟨b3754, off3755, none⟩) a1.length c1_1) KR (by rw [hA3756])
                refine yStep ha 24 KR ?_; intro l_ ha HK
                refine stepif ha 24 (sz := 2) (len := a1.length) (b := b3754) (off := off3755) (c := c1_1) 47 128 (.tmp 22) (.tmp 23) .i64 x3734 rfl KR KR KR KR hA3747 (show (x3734 : Int) < ((a1).length : Int) from hA3752) KR ?_; intro ax hax; exact HK _ _ _ hax rfl (Below.refl _ _)
              · skip
                intro a wr hn hd HW hs; have ha := hasNil hn hd
                have ha := ha.add (seeF hs 24 7 (.pointer (some ⟨b3754, off3755 + (x3734 : Int).toNat * 2, none⟩)) KR KR)
                refine yStep ha 25 KR ?_; intro l_ ha HK
                refine stepp ha 25 (.pointer (some ⟨b3754, off3755 + (x3734 : Int).toNat * 2, none⟩)) KR KR ?_; intro ax hax; exact HK _ _ _ hax rfl (Below.refl _ _)
              · skip
                intro a wr hn hd HW hs; have ha := hasNil hn hd
                have ha := ha.add (seeF hs 25 8 (.pointer (some ⟨b3754, off3755 + (x3734 : Int).toNat * 2, none⟩)) KR KR)
                refine yStep ha 26 KR ?_; intro l_ ha HK
                refine stepl ha 26 (Rd.ca T_api_Range.enc T_api_Range.z (fun _ => rfl) (by have h_ := ((HW.rd0 hr1_1)); rw [hA3756] at h_; exact h_) hA3747 (show (x3734 : Int) < ((a1).length : Int) from hA3752)) 3 0 (.tmp 25) (.int .i64 ((rdL T_api_Range.z a1 x3734).f0)) rfl KR KR KR ?_; intro ax hax; exact HK _ _ _ hax rfl (Below.refl _ _)
              · skip
                intro a wr hn hd HW hs; have ha := hasNil hn hd
                have ha := ha.add (seeF hs 21 4 (.int .i64 ((rdL T_api_Range.z a0 x3734).f0)) KR KR)
                have ha := ha.add (seeF hs 26 9 (.int .i64 ((rdL T_api_Range.z a1 x3734).f0)) KR KR)
                refine yStep ha 27 KR ?_; intro l_ ha HK
                refine stepp ha 27 (.bool (((rdL T_api_Range.z a0 x3734).f0) != ((rdL T_api_Range.z a1 x3734).f0))) KR KR ?_; intro ax hax; exact HK _ _ _ hax rfl (Below.refl _ _)
              · skip
                intro a wr hn hd HW hs; have ha := hasNil hn hd
                have ha := ha.add (seeF hs 27 10 (.bool (((rdL T_api_Range.z a0 x3734).f0) != ((rdL T_api_Range.z a1 x3734).f0))) KR KR)
                refine yStep ha 28 KR ?_; intro l_ ha HK
                refine stepp ha 28 (.bool (((rdL T_api_Range.z a0 x3734).f0) != ((rdL T_api_Range.z a1 x3734).f0))) KR KR ?_; intro ax hax; exact HK _ _ _ hax rfl (Below.refl _ _)
              · skip
                intro a wr hn hd HW hs; have ha := hasNil hn hd
                have ha := ha.add (seeE hs 0 (.slice A0_0 a0.length c0_0) KR KR)
                have ha := ha.add (seeF hs 28 11 (.bool (((rdL T_api_Range.z a0 x3734).f0) != ((rdL T_api_Range.z a1 x3734).f0))) KR KR)
                have ha := ha.bool 28 KR (ineq_f hp3757)
                refine yStep ha 29 KR ?_; intro l_ ha HK
                refine stepp ha 29 (.slice A0_0 a0.length c0_0) KR KR ?_; intro ax hax; exact HK _ _ _ hax rfl (Below.refl _ _)
              · skip
                intro a wr hn hd HW hs; have ha := hasNil hn hd
                have ha := ha.add (seeE hs 5 (.int .i64 x3734) KR KR)
                have ha := ha.add (seeF hs 28 11 (.bool (((rdL T_api_Range.z a0 x3734).f0) != ((rdL T_api_Range.z a1 x3734).f0))) KR KR)
                have ha := ha.bool 28 KR (ineq_f hp3757)
                refine yStep ha 30 KR ?_; intro l_ ha HK
                refine stepp ha 30 (.int .i64 x3734) KR KR ?_; intro ax hax; exact HK _ _ _ hax rfl (Below.refl _ _)
              · skip
                intro a wr hn hd HW hs; have ha := hasNil hn hd
                have ha := ha.add (seeF hs 29 12 (.slice A0_0 a0.length c0_0) KR KR)
                have ha := ha.add (seeF hs 30 13 (.int .i64 x3734) KR KR)
                have ha := ha.add (seeF hs 28 11 (.bool (((rdL T_api_Range.z a0 x3734).f0) != ((rdL T_api_Range.z a1 x3734).f0))) KR KR)
                have ha := ha.bool 28 KR (ineq_f hp3757)
                replace ha := ha.turn 29 (u := .slice A0_0 a0.length c0_0) (v := .slice (some ⟨b3749, off3750, none⟩) a0.length c0_0) KR (by rw [hA3751])
                refine yStep ha 31 KR ?_; intro l_ ha HK
                refine stepif ha 31 (sz := 2) (len := a0.length) (b := b3749) (off := off3750) (c := c0_0) 47 128 (.tmp 29) (.tmp 30) .i64 x3734 rfl KR KR KR KR hA3747 (show (x3734 : Int) < ((a0).length : Int) from hp3742) KR ?_; intro ax hax; exact HK _ _ _ hax rfl (Below.refl _ _)
              · skip
                intro a wr hn hd HW hs; have ha := hasNil hn hd
                have ha := ha.add (seeF hs 31 14 (.pointer (some ⟨b3749, off3750 + (x3734 : Int).toNat * 2, none⟩)) KR KR)
                have ha := ha.add (seeF hs 28 11 (.bool (((rdL T_api_Range.z a0 x3734).f0) != ((rdL T_api_Range.z a1 x3734).f0))) KR KR)
                have ha := ha.bool 28 KR (ineq_f hp3757)
                refine yStep ha 32 KR ?_; intro l_ ha HK
                refine stepp ha 32 (.pointer (some ⟨b3749, off3750 + (x3734 : Int).toNat * 2 + 1, none⟩)) KR KR ?_; intro ax hax; exact HK _ _ _ hax rfl (Below.refl _ _)
              · skip
                intro a wr hn hd HW hs; have ha := hasNil hn hd
                have ha := ha.add (seeF hs 32 15 (.pointer (some ⟨b3749, off3750 + (x3734 : Int).toNat * 2 + 1, none⟩)) KR KR)
                have ha := ha.add (seeF hs 28 11 (.bool (((rdL T_api_Range.z a0 x3734).f0) != ((rdL T_api_Range.z a1 x3734).f0))) KR KR)
                have ha := ha.bool 28 KR (ineq_f hp3757)
                refine yStep ha 33 KR ?_; intro l_ ha HK
                refine stepl ha 33 (Rd.ca T_api_Range.enc T_api_Range.z (fun _ => rfl) (by have h_ := ((HW.rd0 hr0_0)); rw [hA3751] at h_; exact h_) hA3747 (show (x3734 : Int) < ((a0).length : Int) from hp3742)) 3 1 (.tmp 32) (.int .i64 ((rdL T_api_Range.z a0 x3734).f1)) rfl KR KR KR ?_; intro ax hax; exact HK _ _ _ hax rfl (Below.refl _ _)
              · skip
                intro a wr hn hd HW hs; have ha := hasNil hn hd
                have ha := ha.add (seeE hs 1 (.slice A1_1 a1.length c1_1) KR KR)
                have ha := ha.add (seeF hs 28 11 (.bool (((rdL T_api_Range.z a0 x3734).f0) != ((rdL T_api_Range.z a1 x3734).f0))) KR KR)
                have ha := ha.bool 28 KR (ineq_f hp3757)
                refine yStep ha 34 KR ?_; intro l_ ha HK
                refine stepp ha 34 (.slice A1_1 a1.length c1_1) KR KR ?_; intro ax hax; exact HK _ _ _ hax rfl (Below.refl _ _)
              · skip
                intro a wr hn hd HW hs; have ha := hasNil hn hd
                have ha := ha.add (seeE hs 5 (.int .i64 x3734) KR KR)
                have ha := ha.add (seeF hs 28 11 (.bool (((rdL T_api_Range.z a0 x3734).f0) != ((rdL T_api_Range.z a1 x3734).f0))) KR KR)
                have ha := ha.bool 28 KR (ineq_f hp3757)
                refine yStep ha 35 KR ?_; intro l_ ha HK
                refine stepp ha 35 (.int .i64 x3734) KR KR ?_; intro ax hax; exact HK _ _ _ hax rfl (Below.refl _ _)
              · skip
                intro a wr hn hd HW hs; have ha := hasNil hn hd
                have ha := ha.add (seeF hs 34 17 (.slice A1_1 a1.length c1_1) KR KR)
                have ha := ha.add (seeF hs 35 18 (.int .i64 x3734) KR KR)
                have ha := ha.add (seeF hs 28 11 (.bool (((rdL T_api_Range.z a0 x3734).f0) != ((rdL T_api_Range.z a1 x3734).f0))) KR KR)
                have ha := ha.bool 28 KR (ineq_f hp3757)
                replace ha := ha.turn 34 (u := .slice A1_1 a1.length c1_1) (v := .slice (some ⟨b3754, off3755, none⟩) a1.length c1_1) KR (by rw [hA3756])
                refine yStep ha 36 KR ?_; intro l_ ha HK
                refine stepif ha 36 (sz := 2) (len := a1.length) (b := b3754) (off := off3755) (c := c1_1) 47 128 (.tmp 34) (.tmp 35) .i64 x3734 rfl KR KR KR KR hA3747 (show (x3734 : Int) < ((a1).length : Int) from hA3752) KR ?_; intro ax hax; exact HK _ _ _ hax rfl (Below.refl _ _)
              · skip
                intro a wr hn hd HW hs; have ha := hasNil hn hd
                have ha := ha.add (seeF hs 36 19 (.pointer (some ⟨b3754, off3755 + (x3734 : Int).toNat * 2, none⟩)) KR KR)
                have ha := ha.add (seeF hs 28 11 (.bool (((rdL T_api_Range.z a0 x3734).f0) != ((rdL T_api_Range.z a1 x3734).f0))) KR KR)
                have ha := ha.bool 28 KR (ineq_f hp3757)
                refine yStep ha 37 KR ?_; intro l_ ha HK
                refine stepp ha 37 (.pointer (some ⟨b3754, off3755 + (x3734 : Int).toNat * 2 + 1, none⟩)) KR KR ?_; intro ax hax; exact HK _ _ _ hax rfl (Below.refl _ _)
              · skip
                intro a wr hn hd HW hs; have ha := hasNil hn hd
                have ha := ha.add (seeF hs 37 20 (.pointer (some ⟨b3754, off3755 + (x3734 : Int).toNat * 2 + 1, none⟩)) KR KR)
                have ha := ha.add (seeF hs 28 11 (.bool (((rdL T_api_Range.z a0 x3734).f0) != ((rdL T_api_Range.z a1 x3734).f0))) KR KR)
                have ha := ha.bool 28 KR (ineq_f hp3757)
                refine yStep ha 38 KR ?_; intro l_ ha HK
                refine stepl ha 38 (Rd.ca T_api_Range.enc T_api_Range.z (fun _ => rfl) (by have h_ := ((HW.rd0 hr1_1)); rw [hA3756] at h_; exact h_) hA3747 (show (x3734 : Int) < ((a1).length : Int) from hA3752)) 3 1 (.tmp 37) (.int .i64 ((rdL T_api_Range.z a1 x3734).f1)) rfl KR KR KR ?_; intro ax hax; exact HK _ _ _ hax rfl (Below.refl _ _)
              · skip
                intro a wr hn hd HW hs; have ha := hasNil hn hd
                have ha := ha.add (seeF hs 33 16 (.int .i64 ((rdL T_api_Range.z a0 x3734).f1)) KR KR)
                have ha := ha.add (seeF hs 38 21 (.int .i64 ((rdL T_api_Range.z a1 x3734).f1)) KR KR)
                have ha := ha.add (seeF hs 28 11 (.bool (((rdL T_api_Range.z a0 x3734).f0) != ((rdL T_api_Range.z a1 x3734).f0))) KR KR)
                have ha := ha.bool 28 KR (ineq_f hp3757)
                refine yStep ha 39 KR ?_; intro l_ ha HK
                refine stepp ha 39 (.bool (((rdL T_api_Range.z a0 x3734).f1) != ((rdL T_api_Range.z a1 x3734).f1))) KR KR ?_; intro ax hax; exact HK _ _ _ hax rfl (Below.refl _ _)
              · skip
                intro a wr hn hd HW hs; have ha := hasNil hn hd
                have ha := ha.add (seeF hs 28 11 (.bool (((rdL T_api_Range.z a0 x3734).f0) != ((rdL T_api_Range.z a1 x3734).f0))) KR KR)
                have ha := ha.bool 28 KR (ineq_f hp3757)
                have ha := ha.add (seeF hs 39 22 (.bool (((rdL T_api_Range.z a0 x3734).f1) != ((rdL T_api_Range.z a1 x3734).f1))) KR KR)
                refine yStep ha 40 KR ?_; intro l_ ha HK
                refine stepp ha 40 (.bool (((rdL T_api_Range.z a0 x3734).f1) != ((rdL T_api_Range.z a1 x3734).f1))) KR KR ?_; intro ax hax; exact HK _ _ _ hax rfl (Below.refl _ _)
            · skip
              intro a W3760 ha HW he hf
              replace ha := ha.add (he 0 (.slice A0_0 a0.length c0_0) KR KR)
              replace ha := ha.add (he 1 (.slice A1_1 a1.length c1_1) KR KR)
              replace ha := ha.add (he 5 (.int .i64 x3734) KR KR)
              replace ha := ha.add (gotF (m := 24) (j := 12) (d := 29) (v := .slice A0_0 a0.length c0_0) hf KR KR KR)
              replace ha := ha.add (gotF (m := 24) (j := 13) (d := 30) (v := .int .i64 x3734) hf KR KR KR)
              replace ha := ha.add (gotF (m := 24) (j := 16) (d := 33) (v := .int .i64 ((rdL T_api_Range.z a0 x3734).f1)) hf KR KR KR)
              replace ha := ha.add (gotF (m := 24) (j := 17) (d := 34) (v := .slice A1_1 a1.length c1_1) hf KR KR KR)
              replace ha := ha.add (gotF (m := 24) (j := 18) (d := 35) (v := .int .i64 x3734) hf KR KR KR)
              replace ha := ha.add (gotF (m := 24) (j := 21) (d := 38) (v := .int .i64 ((rdL T_api_Range.z a1 x3734).f1)) hf KR KR KR)
              replace ha := ha.add (gotF (m := 24) (j := 22) (d := 39) (v := .bool (((rdL T_api_Range.z a0 x3734).f1) != ((rdL T_api_Range.z a1 x3734).f1))) hf KR KR KR)
              replace ha := ha.add (gotF (m := 24) (j := 23) (d := 40) (v := .bool (((rdL T_api_Range.z a0 x3734).f1) != ((rdL T_api_Range.z a1 x3734).f1))) hf KR KR KR)
              clear he hf
              refine endl ?_
              refine thenN (hK3746 _ _ ?_); clear hK3746
              by_cases hp3762 : ((rdL T_api_Range.z a0 x3734).f1) = ((rdL T_api_Range.z a1 x3734).f1)
              · skip
                replace h := ite_pos' h hp3762
                refine condF ha KR KR (t := (((rdL T_api_Range.z a0 x3734).f1) != ((rdL T_api_Range.z a1 x3734).f1))) (ineq_f hp3762) ?_
                refine wp_skip ?_
                refine blkN ?_
                refine thenN (hK3744 _ _ ?_); clear hK3744
                refine wp_region_lit ?_
                refine stepp ha 15 (.int .i64 x3734) KR KR ?_; clear ha a; intro a ha
                refine stepp ha 16 (.int .i64 (IntKind.wrap .i64 (x3734 + 1))) KR KR ?_; clear ha a; intro a ha
                refine stepp ha 5 (.int .i64 (IntKind.wrap .i64 (x3734 + 1))) KR KR ?_; clear ha a; intro a ha
                refine endl ?_
                exact thenN ⟨k3736, Nat.lt_succ_self k3736, IntKind.wrap .i64 (x3734 + 1), (by rw [← hag3737]; exact h), ha.sub (subs_cons KR (subs_cons KR (subs_cons KR (subs_nil _)))), HW.pick [] [] (by decide) (by decide) KR KR⟩
              · skip
                replace h := ite_neg' h hp3762
                refine condT ha KR KR (t := (((rdL T_api_Range.z a0 x3734).f1) != ((rdL T_api_Range.z a1 x3734).f1))) (ineq_t hp3762) ?_
                refine wp_seq_k (fun K3763 hK3764 => ?_)
                refine wp_region_lit ?_
                refine stepp ha 4 (.bool false) KR KR ?_; clear ha a; intro a ha
                refine endl ?_
                refine thenN (hK3764 _ _ ?_); clear hK3764
                refine wp_ret ?_
                refine blkR ?_
                refine thenR ?_
                refine thenR ?_
                refine blkR ?_
                refine thenR ?_
                obtain rfl := Option.some.inj h
                exact finv ha _ _ rfl (.tmp (v := .bool false) KR .nil) (.bool false) rfl ⟨rfl, HW.pick [] [] (by decide) (by decide) rfl KR⟩
          · skip
            replace h := ite_neg' h hp3757
            refine regionG 24 KR KR ha HW [.fix (.slice A0_0 a0.length c0_0), .fix (.int .i64 x3734), .fix (.pointer (some ⟨b3749, off3750 + (x3734 : Int).toNat * 2, none⟩)), .fix (.pointer (some ⟨b3749, off3750 + (x3734 : Int).toNat * 2, none⟩)), .fix (.int .i64 ((rdL T_api_Range.z a0 x3734).f0)), .fix (.slice A1_1 a1.length c1_1), .fix (.int .i64 x3734), .fix (.pointer (some ⟨b3754, off3755 + (x3734 : Int).toNat * 2, none⟩)), .fix (.pointer (some ⟨b3754, off3755 + (x3734 : Int).toNat * 2, none⟩)), .fix (.int .i64 ((rdL T_api_Range.z a1 x3734).f0)), .fix (.bool (((rdL T_api_Range.z a0 x3734).f0) != ((rdL T_api_Range.z a1 x3734).f0))), .fix (.bool (((rdL T_api_Range.z a0 x3734).f0) != ((rdL T_api_Range.z a1 x3734).f0))), .fix undef, .fix undef, .fix undef, .fix undef, .fix undef, .fix undef, .fix undef, .fix undef, .fix undef, .fix undef, .fix undef, .fix (.bool true)] ?_ ?_
            · skip
              refine ⟨?_, ?_, ?_, ?_, ?_, ?_, ?_, ?_, ?_, ?_, ?_, ?_, ?_, ?_, ?_, ?_, ?_, ?_, ?_, ?_, ?_, ?_, ?_, ?_, trivial⟩
              · skip
                intro a wr hn hd HW hs; have ha := hasNil hn hd
                have ha := ha.add (seeE hs 0 (.slice A0_0 a0.length c0_0) KR KR)
                refine yStep ha 17 KR ?_; intro l_ ha HK
                refine stepp ha 17 (.slice A0_0 a0.length c0_0) KR KR ?_; intro ax hax; exact HK _ _ _ hax rfl (Below.refl _ _)
              · skip
                intro a wr hn hd HW hs; have ha := hasNil hn hd
                have ha := ha.add (seeE hs 5 (.int .i64 x3734) KR KR)
                refine yStep ha 18 KR ?_; intro l_ ha HK
                refine stepp ha 18 (.int .i64 x3734) KR KR ?_; intro ax hax; exact HK _ _ _ hax rfl (Below.refl _ _)
              · skip
                intro a wr hn hd HW hs; have ha := hasNil hn hd
                have ha := ha.add (seeF hs 17 0 (.slice A0_0 a0.length c0_0) KR KR)
                have ha := ha.add (seeF hs 18 1 (.int .i64 x3734) KR KR)
                replace ha := ha.turn 17 (u := .slice A0_0 a0.length c0_0) (v := .slice (some ⟨b3749, off3750, none⟩) a0.length c0_0) KR (by rw [hA3751])
                refine yStep ha 19 KR ?_; intro l_ ha HK
                refine stepif ha 19 (sz := 2) (len := a0.length) (b := b3749) (off := off3750) (c := c0_0) 47 128 (.tmp 17) (.tmp 18) .i64 x3734 rfl KR KR KR KR hA3747 (show (x3734 : Int) < ((a0).length : Int) from hp3742) KR ?_; intro ax hax; exact HK _ _ _ hax rfl (Below.refl _ _)
              · skip
                intro a wr hn hd HW hs; have ha := hasNil hn hd
                have ha := ha.add (seeF hs 19 2 (.pointer (some ⟨b3749, off3750 + (x3734 : Int).toNat * 2, none⟩)) KR KR)
                refine yStep ha 20 KR ?_; intro l_ ha HK
                refine stepp ha 20 (.pointer (some ⟨b3749, off3750 + (x3734 : Int).toNat * 2, none⟩)) KR KR ?_; intro ax hax; exact HK _ _ _ hax rfl (Below.refl _ _)
              · skip
                intro a wr hn hd HW hs; have ha := hasNil hn hd
                have ha := ha.add (seeF hs 20 3 (.pointer (some ⟨b3749, off3750 + (x3734 : Int).toNat * 2, none⟩)) KR KR)
                refine yStep ha 21 KR ?_; intro l_ ha HK
                refine stepl ha 21 (Rd.ca T_api_Range.enc T_api_Range.z (fun _ => rfl) (by have h_ := ((HW.rd0 hr0_0)); rw [hA3751] at h_; exact h_) hA3747 (show (x3734 : Int) < ((a0).length : Int) from hp3742)) 3 0 (.tmp 20) (.int .i64 ((rdL T_api_Range.z a0 x3734).f0)) rfl KR KR KR ?_; intro ax hax; exact HK _ _ _ hax rfl (Below.refl _ _)
              · skip
                intro a wr hn hd HW hs; have ha := hasNil hn hd
                have ha := ha.add (seeE hs 1 (.slice A1_1 a1.length c1_1) KR KR)
                refine yStep ha 22 KR ?_; intro l_ ha HK
                refine stepp ha 22 (.slice A1_1 a1.length c1_1) KR KR ?_; intro ax hax; exact HK _ _ _ hax rfl (Below.refl _ _)
              · skip
                intro a wr hn hd HW hs; have ha := hasNil hn hd
                have ha := ha.add (seeE hs 5 (.int .i64 x3734) KR KR)
                refine yStep ha 23 KR ?_; intro l_ ha HK
                refine stepp ha 23 (.int .i64 x3734) KR KR ?_; intro ax hax; exact HK _ _ _ hax rfl (Below.refl _ _)
              · skip
                intro a wr hn hd HW hs; have ha := hasNil hn hd
                have ha := ha.add (seeF hs 22 5 (.slice A1_1 a1.length c1_1) KR KR)
                have ha := ha.add (seeF hs 23 6 (.int .i64 x3734) KR KR)
                replace ha := ha.turn 22 (u := .slice A1_1 a1.length c1_1) (v := .slice (some ⟨b3754, off3755, none⟩) a1.length c1_1) KR (by rw [hA3756])
                refine yStep ha 24 KR ?_; intro l_ ha HK
                refine stepif ha 24 (sz := 2) (len := a1.length) (b := b3754) (off := off3755) (c := c1_1) 47 128 (.tmp 22) (.tmp 23) .i64 x3734 rfl KR KR KR KR hA3747 (show (x3734 : Int) < ((a1).length : Int) from hA3752) KR ?_; intro ax hax; exact HK _ _ _ hax rfl (Below.refl _ _)
              · skip
                intro a wr hn hd HW hs; have ha := hasNil hn hd
                have ha := ha.add (seeF hs 24 7 (.pointer (some ⟨b3754, off3755 + (x3734 : Int).toNat * 2, none⟩)) KR KR)
                refine yStep ha 25 KR ?_; intro l_ ha HK
                refine stepp ha 25 (.pointer (some ⟨b3754, off3755 + (x3734 : Int).toNat * 2, none⟩)) KR KR ?_; intro ax hax; exact HK _ _ _ hax rfl (Below.refl _ _)
              · skip
                intro a wr hn hd HW hs; have ha := hasNil hn hd
                have ha := ha.add (seeF hs 25 8 (.pointer (some ⟨b3754, off3755 + (x3734 : Int).toNat * 2, none⟩)) KR KR)
                refine yStep ha 26 KR ?_; intro l_ ha HK
                refine stepl ha 26 (Rd.ca T_api_Range.enc T_api_Range.z (fun _ => rfl) (by have h_ := ((HW.rd0 hr1_1)); rw [hA3756] at h_; exact h_) hA3747 (show (x3734 : Int) < ((a1).length : Int) from hA3752)) 3 0 (.tmp 25) (.int .i64 ((rdL T_api_Range.z a1 x3734).f0)) rfl KR KR KR ?_; intro ax hax; exact HK _ _ _ hax rfl (Below.refl _ _)
              · skip
                intro a wr hn hd HW hs; have ha := hasNil hn hd
                have ha := ha.add (seeF hs 21 4 (.int .i64 ((rdL T_api_Range.z a0 x3734).f0)) KR KR)
                have ha := ha.add (seeF hs 26 9 (.int .i64 ((rdL T_api_Range.z a1 x3734).f0)) KR KR)
                refine yStep ha 27 KR ?_; intro l_ ha HK
                refine stepp ha 27 (.bool (((rdL T_api_Range.z a0 x3734).f0) != ((rdL T_api_Range.z a1 x3734).f0))) KR KR ?_; intro ax hax; exact HK _ _ _ hax rfl (Below.refl _ _)
              · skip
                intro a wr hn hd HW hs; have ha := hasNil hn hd
                have ha := ha.add (seeF hs 27 10 (.bool (((rdL T_api_Range.z a0 x3734).f0) != ((rdL T_api_Range.z a1 x3734).f0))) KR KR)
                refine yStep ha 28 KR ?_; intro l_ ha HK
                refine stepp ha 28 (.bool (((rdL T_api_Range.z a0 x3734).f0) != ((rdL T_api_Range.z a1 x3734).f0))) KR KR ?_; intro ax hax; exact HK _ _ _ hax rfl (Below.refl _ _)
              · skip
                intro a wr hn hd HW hs; have ha := hasNil hn hd
                have ha := ha.add (seeE hs 0 (.slice A0_0 a0.length c0_0) KR KR)
                have ha := ha.add (seeF hs 28 11 (.bool (((rdL T_api_Range.z a0 x3734).f0) != ((rdL T_api_Range.z a1 x3734).f0))) KR KR)
                have ha := ha.bool 28 KR (ineq_t hp3757)
                exact yo ha KR rfl
              · skip
                intro a wr hn hd HW hs; have ha := hasNil hn hd
                have ha := ha.add (seeE hs 5 (.int .i64 x3734) KR KR)
                have ha := ha.add (seeF hs 28 11 (.bool (((rdL T_api_Range.z a0 x3734).f0) != ((rdL T_api_Range.z a1 x3734).f0))) KR KR)
                have ha := ha.bool 28 KR (ineq_t hp3757)
                exact yo ha KR rfl
              · skip
                intro a wr hn hd HW hs; have ha := hasNil hn hd
                have ha := ha.add (seeF hs 29 12 (undef) KR KR)
                have ha := ha.add (seeF hs 30 13 (undef) KR KR)
                have ha := ha.add (seeF hs 28 11 (.bool (((rdL T_api_Range.z a0 x3734).f0) != ((rdL T_api_Range.z a1 x3734).f0))) KR KR)
                have ha := ha.bool 28 KR (ineq_t hp3757)
                exact yo ha KR rfl
              · skip
                intro a wr hn hd HW hs; have ha := hasNil hn hd
                have ha := ha.add (seeF hs 31 14 (undef) KR KR)
                have ha := ha.add (seeF hs 28 11 (.bool (((rdL T_api_Range.z a0 x3734).f0) != ((rdL T_api_Range.z a1 x3734).f0))) KR KR)
                have ha := ha.bool 28 KR (ineq_t hp3757)
                exact yo ha KR rfl
              · skip
                intro a wr hn hd HW hs; have ha := hasNil hn hd
                have ha := ha.add (seeF hs 32 15 (undef) KR KR)
                have ha := ha.add (seeF hs 28 11 (.bool (((rdL T_api_Range.z a0 x3734).f0) != ((rdL T_api_Range.z a1 x3734).f0))) KR KR)
                have ha := ha.bool 28 KR (ineq_t hp3757)
                exact yo ha KR rfl
              · skip
                intro a wr hn hd HW hs; have ha := hasNil hn hd
                have ha := ha.add (seeE hs 1 (.slice A1_1 a1.length c1_1) KR KR)
                have ha := ha.add (seeF hs 28 11 (.bool (((rdL T_api_Range.z a0 x3734).f0) != ((rdL T_api_Range.z a1 x3734).f0))) KR KR)
                have ha := ha.bool 28 KR (ineq_t hp3757)
                exact yo ha KR rfl
              · skip
                intro a wr hn hd HW hs; have ha := hasNil hn hd
                have ha := ha.add (seeE hs 5 (.int .i64 x3734) KR KR)
                have ha := ha.add (seeF hs 28 11 (.bool (((rdL T_api_Range.z a0 x3734).f0) != ((rdL T_api_Range.z a1 x3734).f0))) KR KR)
                have ha := ha.bool 28 KR (ineq_t hp3757)
                exact yo ha KR rfl
              · skip
                intro a wr hn hd HW hs; have ha := hasNil hn hd
                have ha := ha.add (seeF hs 34 17 (undef) KR KR)
                have ha := ha.add (seeF hs 35 18 (undef) KR KR)
                have ha := ha.add (seeF hs 28 11 (.bool (((rdL T_api_Range.z a0 x3734).f0) != ((rdL T_api_Range.z a1 x3734).f0))) KR KR)
                have ha := ha.bool 28 KR (ineq_t hp3757)
                exact yo ha KR rfl
              · skip
                intro a wr hn hd HW hs; have ha := hasNil hn hd
                have ha := ha.add (seeF hs 36 19 (undef) KR KR)
                have ha := ha.add (seeF hs 28 11 (.bool (((rdL T_api_Range.z a0 x3734).f0) != ((rdL T_api_Range.z a1 x3734).f0))) KR KR)
                have ha := ha.bool 28 KR (ineq_t hp3757)
                exact yo ha KR rfl
              · skip
                intro a wr hn hd HW hs; have ha := hasNil hn hd
                have ha := ha.add (seeF hs 37 20 (undef) KR KR)
                have ha := ha.add (seeF hs 28 11 (.bool (((rdL T_api_Range.z a0 x3734).f0) != ((rdL T_api_Range.z a1 x3734).f0))) KR KR)
                have ha := ha.bool 28 KR (ineq_t hp3757)
                exact yo ha KR rfl
              · skip
                intro a wr hn hd HW hs; have ha := hasNil hn hd
                have ha := ha.add (seeF hs 33 16 (undef) KR KR)
                have ha := ha.add (seeF hs 38 21 (undef) KR KR)
                have ha := ha.add (seeF hs 28 11 (.bool (((rdL T_api_Range.z a0 x3734).f0) != ((rdL T_api_Range.z a1 x3734).f0))) KR KR)
                have ha := ha.bool 28 KR (ineq_t hp3757)
                exact yo ha KR rfl
              · skip
                intro a wr hn hd HW hs; have ha := hasNil hn hd
                have ha := ha.add (seeF hs 28 11 (.bool (((rdL T_api_Range.z a0 x3734).f0) != ((rdL T_api_Range.z a1 x3734).f0))) KR KR)
                have ha := ha.bool 28 KR (ineq_t hp3757)
                have ha := ha.add (seeF hs 39 22 (undef) KR KR)
                refine yStep ha 40 KR ?_; intro l_ ha HK
                refine stepp ha 40 (.bool true) KR KR ?_; intro ax hax; exact HK _ _ _ hax rfl (Below.refl _ _)
            · skip
              intro a W3761 ha HW he hf
              replace ha := ha.add (he 0 (.slice A0_0 a0.length c0_0) KR KR)
              replace ha := ha.add (he 1 (.slice A1_1 a1.length c1_1) KR KR)
              replace ha := ha.add (he 5 (.int .i64 x3734) KR KR)
              replace ha := ha.add (gotF (m := 24) (j := 23) (d := 40) (v := .bool true) hf KR KR KR)
              clear he hf
              refine endl ?_
              refine thenN (hK3746 _ _ ?_); clear hK3746
              refine condT ha KR KR (t := true) (rfl) ?_
              refine wp_seq_k (fun K3765 hK3766 => ?_)
              refine wp_region_lit ?_
              refine stepp ha 4 (.bool false) KR KR ?_; clear ha a; intro a ha
              refine endl ?_
              refine thenN (hK3766 _ _ ?_); clear hK3766
              refine wp_ret ?_
              refine blkR ?_
              refine thenR ?_
              refine thenR ?_
              refine blkR ?_
              refine thenR ?_
              obtain rfl := Option.some.inj h
              exact finv ha _ _ rfl (.tmp (v := .bool false) KR .nil) (.bool false) rfl ⟨rfl, HW.pick [] [] (by decide) (by decide) rfl KR⟩
        · skip
          replace h := ite_neg' h hp3742
          refine condF ha KR KR (t := decide (x3734 < (a0.length : Int))) (decide_eq_false hp3742) ?_
          refine wp_exit ?_
          refine thenE ?_
          refine thenE ?_
          refine inBlk ?_
          refine thenN (hK3669 _ _ ?_); clear hK3669
          refine wp_seq_k (fun K3767 hK3768 => ?_)
          refine wp_region_lit ?_
          refine stepp ha 4 (.bool true) KR KR ?_; clear ha a; intro a ha
          refine endl ?_
          refine thenN (hK3768 _ _ ?_); clear hK3768
          refine wp_ret ?_
          obtain rfl := Option.some.inj h
          exact finv ha _ _ rfl (.tmp (v := .bool true) KR .nil) (.bool true) rfl ⟨rfl, HW.pick [] [] (by decide) (by decide) rfl KR⟩
  · skip
    replace h := ite_neg' h hp3665
    refine condT ha KR KR (t := ((a0.length : Int) != (a1.length : Int))) (ineq_t hp3665) ?_
    refine wp_seq_k (fun K3666 hK3667 => ?_)
    refine wp_region_lit ?_
    refine stepp ha 4 (.bool false) KR KR ?_; clear ha a; intro a ha
    refine endl ?_
    refine thenN (hK3667 _ _ ?_); clear hK3667
    refine wp_ret ?_
    refine thenR ?_
    obtain rfl := Option.some.inj h
    exact finv ha _ _ rfl (.tmp (v := .bool false) KR .nil) (.bool false) rfl ⟨rfl, HW.pick [] [] (by decide) (by decide) rfl KR⟩
end Go.Proofs.YthjjbkgifelooaaDoor.F
