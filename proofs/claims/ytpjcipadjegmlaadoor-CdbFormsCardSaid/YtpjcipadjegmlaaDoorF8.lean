/- headgate/headgatelaw15.CdbForms: plain functions, and that the calls come to what they say. No condition. -/
import Derived.Test.YtpjcipadjegmlaaDoorFT
import Derived.Test.YtpjcipadjegmlaaDoorF15
import Derived.Test.YtpjcipadjegmlaaDoorF16
import Derived.Test.YtpjcipadjegmlaaDoorF22
namespace Go.Proofs.YtpjcipadjegmlaaDoor.F
open Go Go.RowKit Go.Proofs.YtpjcipadjegmlaaDoor.X
set_option linter.unusedVariables false
set_option linter.unusedSimpArgs false
/-! ### headgate/headgatelaw15.CdbForms: function 8 -/
def headgatelaw15_CdbForms.j0 (K : Nat) (a0 : Int) (a1 : Int) (again3470 : Int → Option Bool) (x3471 : Int) (x3497 : Int) (x3498 : Bool) (x3499 : Int) (x3500 : Bool) : Option Bool :=
  (cdb_Build.f K (⟨x3497, IntKind.wrap .i64 (Int.tmod a0 2147483648), IntKind.wrap .i64 (Int.tmod a1 65536), x3498, 0, 0, 0⟩ : T_cdb_Ask)).bind fun t3504 => ((cdb_Build.f K (⟨x3499, IntKind.wrap .i64 (Int.tmod a0 2147483648), IntKind.wrap .i64 (Int.tmod a1 65536), x3500, 0, 0, 0⟩ : T_cdb_Ask)).bind fun t3510 => ((cdb_Parse.f K t3504.1).bind fun t3516 => ((cdb_Parse.f K t3510.1).bind fun t3525 => (if t3504.2 = 0 then (if t3510.2 = 0 then (if t3516.2 = 0 then (if t3525.2 = 0 then (if (t3504.1.size : Int) = 10 then (if (t3510.1.size : Int) = 16 then (if t3516.1.f1 = t3525.1.f1 then (if t3516.1.f2 = t3525.1.f2 then (if t3516.1.f3 = t3525.1.f3 then (if t3516.1.f1 = (IntKind.wrap .i64 (Int.tmod a0 2147483648)) then (if t3516.1.f2 = (IntKind.wrap .i64 (Int.tmod a1 65536)) then (again3470 (IntKind.wrap .i64 (x3471 + 1))) else (some false)) else (some false)) else (some false)) else (some false)) else (some false)) else (some false)) else (some false)) else (some false)) else (some false)) else (some false)) else (some false)))))
def headgatelaw15_CdbForms.b0 (K : Nat) (a0 : Int) (a1 : Int) (a2 : Bool) (again3470 : Int → Option Bool) (x3471 : Int) : Option Bool :=
  if x3471 < 2 then (if x3471 = 1 then (headgatelaw15_CdbForms.j0 K a0 a1 again3470 x3471 42 a2 138 a2) else (headgatelaw15_CdbForms.j0 K a0 a1 again3470 x3471 40 false 136 false)) else ((headgatelaw15_wakes.f K).bind fun t3569 => (some t3569))
def headgatelaw15_CdbForms.l0 (K : Nat) (a0 : Int) (a1 : Int) (a2 : Bool) : Nat → Int → Option Bool
  | 0, _ => none
  | k_ + 1, x3471 => headgatelaw15_CdbForms.b0 K a0 a1 a2 (headgatelaw15_CdbForms.l0 K a0 a1 a2 k_) x3471
def headgatelaw15_CdbForms.f (K : Nat) (a0 : Int) (a1 : Int) (a2 : Bool) : Option Bool :=
  headgatelaw15_CdbForms.l0 K a0 a1 a2 K 0
set_option maxRecDepth 100000 in
set_option maxHeartbeats 4000000 in
theorem headgatelaw15_CdbForms.calls (K : Nat) (a0 : Int) (a1 : Int) (a2 : Bool)  (r : Bool) (w : World) (hG0 : CA w 0 0 (encs (encI .i64) G_cdb_numbers).toArray) (hG1 : CA w 1 0 (encs T_cdb_form.enc G_cdb_forms).toArray) (h : headgatelaw15_CdbForms.f K a0 a1 a2 = some r) :
    Calls Tryd.prog 8 #[.int .u32 a0, .int .u32 a1, .bool a2] w (fun e W' => e = .returned (.bool r) ∧ Wd w W' [] [] ) := by
  refine sxstart (n := 124) (l := [(0, .int .u32 a0), (1, .int .u32 a1), (2, .bool a2)]) Tryd.func8 rfl rfl (Nat.le_of_ble_eq_true KR) (subsA_cons rfl (subsA_cons rfl (subsA_cons rfl (subsA_nil _)))) ?_
  intro a ha
  have HW := Wd.refl w
  unfold headgatelaw15_CdbForms.f at h
  refine wp_seq_k (fun K3284 hK3285 => ?_)
  refine wp_region_lit ?_
  refine stepp ha 6 (.bool false) KR KR ?_; clear ha a; intro a ha
  refine endl ?_
  refine thenN (hK3285 _ _ ?_); clear hK3285
  refine wp_seq_k (fun K3286 hK3287 => ?_)
  refine wp_region_lit ?_
  refine stepp ha 20 (.int .u32 a0) KR KR ?_; clear ha a; intro a ha
  refine stepp ha 21 (.int .u32 (Int.tmod a0 2147483648)) KR KR ?_; clear ha a; intro a ha
  refine stepp ha 22 (.int .i64 (IntKind.wrap .i64 (Int.tmod a0 2147483648))) KR KR ?_; clear ha a; intro a ha
  refine stepp ha 23 (.int .u32 a1) KR KR ?_; clear ha a; intro a ha
  refine stepp ha 24 (.int .u32 (Int.tmod a1 65536)) KR KR ?_; clear ha a; intro a ha
  refine stepp ha 25 (.int .i64 (IntKind.wrap .i64 (Int.tmod a1 65536))) KR KR ?_; clear ha a; intro a ha
  refine stepp ha 7 (.int .i64 (IntKind.wrap .i64 (Int.tmod a0 2147483648))) KR KR ?_; clear ha a; intro a ha
  refine stepp ha 8 (.int .i64 (IntKind.wrap .i64 (Int.tmod a1 65536))) KR KR ?_; clear ha a; intro a ha
  refine endl ?_
  refine thenN (hK3287 _ _ ?_); clear hK3287
  refine wp_seq_k (fun K3288 hK3289 => ?_)
  refine wp_seq_k (fun K3290 hK3291 => ?_)
  refine wp_region_lit ?_
  refine stepp ha 9 (.int .i64 0) KR KR ?_; clear ha a; intro a ha
  refine endl ?_
  refine thenN (hK3291 _ _ ?_); clear hK3291
  refine wp_block ?_
  refine loopk (fun k => fun a W3472 => ∃ (x3471 : Int), headgatelaw15_CdbForms.l0 K a0 a1 a2 k x3471 = some r ∧ Has 124 [(2, .bool a2), (7, .int .i64 (IntKind.wrap .i64 (Int.tmod a0 2147483648))), (8, .int .i64 (IntKind.wrap .i64 (Int.tmod a1 65536))), (9, .int .i64 x3471)] a ∧ Wd w W3472 [] []) K ?_ ?_
  · skip
    exact ⟨0, h, ha.sub (subs_cons KR (subs_cons KR (subs_cons KR (subs_cons KR (subs_nil _))))), HW.pick [] [] (by decide) (by decide) KR KR⟩
  · skip
    intro k a W3472 hI
    obtain ⟨x3471, h, ha, HW⟩ := hI
    cases k with
    | zero => exact (none_some (show none = some r from h)).elim
    | succ k3473 =>
      replace h : headgatelaw15_CdbForms.b0 K a0 a1 a2 (headgatelaw15_CdbForms.l0 K a0 a1 a2 k3473) x3471 = some r := h
      obtain ⟨again3470, hag3474⟩ : ∃ g_, g_ = headgatelaw15_CdbForms.l0 K a0 a1 a2 k3473 := ⟨_, rfl⟩
      rw [← hag3474] at h
      unfold headgatelaw15_CdbForms.b0 at h
      refine wp_seq_k (fun K3475 hK3476 => ?_)
      refine wp_seq_k (fun K3477 hK3478 => ?_)
      refine wp_region_lit ?_
      refine stepp ha 26 (.int .i64 x3471) KR KR ?_; clear ha a; intro a ha
      refine stepp ha 27 (.bool (decide (x3471 < 2))) KR KR ?_; clear ha a; intro a ha
      refine endl ?_
      refine thenN (hK3478 _ _ ?_); clear hK3478
      by_cases hp3479 : x3471 < 2
      · skip
        replace h := ite_pos' h hp3479
        refine condT ha KR KR (t := decide (x3471 < 2)) (decide_eq_true hp3479) ?_
        refine wp_skip ?_
        refine thenN (hK3476 _ _ ?_); clear hK3476
        refine wp_seq_k (fun K3480 hK3481 => ?_)
        refine wp_block ?_
        refine wp_seq_k (fun K3482 hK3483 => ?_)
        refine wp_region_lit ?_
        refine stepp ha 30 (.int .i64 (IntKind.wrap .i64 (Int.tmod a0 2147483648))) KR KR ?_; clear ha a; intro a ha
        refine stepp ha 31 (.int .i64 (IntKind.wrap .i64 (Int.tmod a1 65536))) KR KR ?_; clear ha a; intro a ha
        refine stepp ha 32 (.agg #[.int .i64 40, .int .i64 (IntKind.wrap .i64 (Int.tmod a0 2147483648)), .int .i64 (IntKind.wrap .i64 (Int.tmod a1 65536)), .bool false, .int .i64 0, .int .i64 0, .int .i64 0]) KR KR ?_; clear ha a; intro a ha
        refine stepp ha 33 (.int .i64 (IntKind.wrap .i64 (Int.tmod a0 2147483648))) KR KR ?_; clear ha a; intro a ha
        refine stepp ha 34 (.int .i64 (IntKind.wrap .i64 (Int.tmod a1 65536))) KR KR ?_; clear ha a; intro a ha
        refine stepp ha 35 (.agg #[.int .i64 136, .int .i64 (IntKind.wrap .i64 (Int.tmod a0 2147483648)), .int .i64 (IntKind.wrap .i64 (Int.tmod a1 65536)), .bool false, .int .i64 0, .int .i64 0, .int .i64 0]) KR KR ?_; clear ha a; intro a ha
        refine stepnew ha HW 10 #[.int .i64 0, .int .i64 0, .int .i64 0, .bool false, .int .i64 0, .int .i64 0, .int .i64 0] 39 KR KR ?_; clear ha HW a; intro b3484 a W3485 HW ha
        refine stepnew ha HW 11 #[.int .i64 0, .int .i64 0, .int .i64 0, .bool false, .int .i64 0, .int .i64 0, .int .i64 0] 39 KR KR ?_; clear ha HW a; intro b3486 a W3487 HW ha
        refine stepst ha HW 1 (b := b3484) (C := #[.int .i64 0, .int .i64 0, .int .i64 0, .bool false, .int .i64 0, .int .i64 0, .int .i64 0]) (T := 39) KR 39 0 (.tmp 10) (.tmp 32) (.agg #[.int .i64 40, .int .i64 (IntKind.wrap .i64 (Int.tmod a0 2147483648)), .int .i64 (IntKind.wrap .i64 (Int.tmod a1 65536)), .bool false, .int .i64 0, .int .i64 0, .int .i64 0]) #[.int .i64 40, .int .i64 (IntKind.wrap .i64 (Int.tmod a0 2147483648)), .int .i64 (IntKind.wrap .i64 (Int.tmod a1 65536)), .bool false, .int .i64 0, .int .i64 0, .int .i64 0] rfl KR KR KR KR KR KR KR ?_; clear ha HW a; intro a W3488 HW ha
        refine stepst ha HW 0 (b := b3486) (C := #[.int .i64 0, .int .i64 0, .int .i64 0, .bool false, .int .i64 0, .int .i64 0, .int .i64 0]) (T := 39) KR 39 0 (.tmp 11) (.tmp 35) (.agg #[.int .i64 136, .int .i64 (IntKind.wrap .i64 (Int.tmod a0 2147483648)), .int .i64 (IntKind.wrap .i64 (Int.tmod a1 65536)), .bool false, .int .i64 0, .int .i64 0, .int .i64 0]) #[.int .i64 136, .int .i64 (IntKind.wrap .i64 (Int.tmod a0 2147483648)), .int .i64 (IntKind.wrap .i64 (Int.tmod a1 65536)), .bool false, .int .i64 0, .int .i64 0, .int .i64 0] rfl KR KR KR KR KR KR KR ?_; clear ha HW a; intro a W3489 HW ha
        refine endl ?_
        refine thenN (hK3483 _ _ ?_); clear hK3483
        refine wp_seq_k (fun K3490 hK3491 => ?_)
        refine cutn (fun a W3501 => ∃ (x3497 : Int), ∃ (x3498 : Bool), ∃ (x3499 : Int), ∃ (x3500 : Bool), headgatelaw15_CdbForms.j0 K a0 a1 again3470 x3471 x3497 x3498 x3499 x3500 = some r ∧ Has 124 [(2, .bool a2), (7, .int .i64 (IntKind.wrap .i64 (Int.tmod a0 2147483648))), (8, .int .i64 (IntKind.wrap .i64 (Int.tmod a1 65536))), (9, .int .i64 x3471), (10, .pointer (some ⟨b3484, 0, none⟩)), (11, .pointer (some ⟨b3486, 0, none⟩))] a ∧ Wd w W3501 [(b3484, .cells #[.int .i64 x3497, .int .i64 (IntKind.wrap .i64 (Int.tmod a0 2147483648)), .int .i64 (IntKind.wrap .i64 (Int.tmod a1 65536)), .bool x3498, .int .i64 0, .int .i64 0, .int .i64 0] 39 (0, 0)), (b3486, .cells #[.int .i64 x3499, .int .i64 (IntKind.wrap .i64 (Int.tmod a0 2147483648)), .int .i64 (IntKind.wrap .i64 (Int.tmod a1 65536)), .bool x3500, .int .i64 0, .int .i64 0, .int .i64 0] 39 (0, 0))] []) ?_ ?_
        · skip
          refine wp_seq_k (fun K3492 hK3493 => ?_)
          refine wp_region_lit ?_
          refine stepp ha 36 (.int .i64 x3471) KR KR ?_; clear ha a; intro a ha
          refine stepp ha 37 (.bool (x3471 == 1)) KR KR ?_; clear ha a; intro a ha
          refine endl ?_
          refine thenN (hK3493 _ _ ?_); clear hK3493
          by_cases hp3494 : x3471 = 1
          · skip
            replace h := ite_pos' h hp3494
            refine condT ha KR KR (t := (x3471 == 1)) (ieq_t hp3494) ?_
            refine wp_region_lit ?_
            refine stepp ha 38 (.int .i64 (IntKind.wrap .i64 (Int.tmod a0 2147483648))) KR KR ?_; clear ha a; intro a ha
            refine stepp ha 39 (.int .i64 (IntKind.wrap .i64 (Int.tmod a1 65536))) KR KR ?_; clear ha a; intro a ha
            refine stepp ha 40 (.bool a2) KR KR ?_; clear ha a; intro a ha
            refine stepp ha 41 (.agg #[.int .i64 42, .int .i64 (IntKind.wrap .i64 (Int.tmod a0 2147483648)), .int .i64 (IntKind.wrap .i64 (Int.tmod a1 65536)), .bool a2, .int .i64 0, .int .i64 0, .int .i64 0]) KR KR ?_; clear ha a; intro a ha
            refine stepp ha 42 (.int .i64 (IntKind.wrap .i64 (Int.tmod a0 2147483648))) KR KR ?_; clear ha a; intro a ha
            refine stepp ha 43 (.int .i64 (IntKind.wrap .i64 (Int.tmod a1 65536))) KR KR ?_; clear ha a; intro a ha
            refine stepp ha 44 (.bool a2) KR KR ?_; clear ha a; intro a ha
            refine stepp ha 45 (.agg #[.int .i64 138, .int .i64 (IntKind.wrap .i64 (Int.tmod a0 2147483648)), .int .i64 (IntKind.wrap .i64 (Int.tmod a1 65536)), .bool a2, .int .i64 0, .int .i64 0, .int .i64 0]) KR KR ?_; clear ha a; intro a ha
            refine stepst ha HW 1 (b := b3484) (C := #[.int .i64 40, .int .i64 (IntKind.wrap .i64 (Int.tmod a0 2147483648)), .int .i64 (IntKind.wrap .i64 (Int.tmod a1 65536)), .bool false, .int .i64 0, .int .i64 0, .int .i64 0]) (T := 39) KR 39 0 (.tmp 10) (.tmp 41) (.agg #[.int .i64 42, .int .i64 (IntKind.wrap .i64 (Int.tmod a0 2147483648)), .int .i64 (IntKind.wrap .i64 (Int.tmod a1 65536)), .bool a2, .int .i64 0, .int .i64 0, .int .i64 0]) #[.int .i64 42, .int .i64 (IntKind.wrap .i64 (Int.tmod a0 2147483648)), .int .i64 (IntKind.wrap .i64 (Int.tmod a1 65536)), .bool a2, .int .i64 0, .int .i64 0, .int .i64 0] rfl KR KR KR KR KR KR KR ?_; clear ha HW a; intro a W3495 HW ha
            refine stepst ha HW 0 (b := b3486) (C := #[.int .i64 136, .int .i64 (IntKind.wrap .i64 (Int.tmod a0 2147483648)), .int .i64 (IntKind.wrap .i64 (Int.tmod a1 65536)), .bool false, .int .i64 0, .int .i64 0, .int .i64 0]) (T := 39) KR 39 0 (.tmp 11) (.tmp 45) (.agg #[.int .i64 138, .int .i64 (IntKind.wrap .i64 (Int.tmod a0 2147483648)), .int .i64 (IntKind.wrap .i64 (Int.tmod a1 65536)), .bool a2, .int .i64 0, .int .i64 0, .int .i64 0]) #[.int .i64 138, .int .i64 (IntKind.wrap .i64 (Int.tmod a0 2147483648)), .int .i64 (IntKind.wrap .i64 (Int.tmod a1 65536)), .bool a2, .int .i64 0, .int .i64 0, .int .i64 0] rfl KR KR KR KR KR KR KR ?_; clear ha HW a; intro a W3496 HW ha
            refine endl ?_
            exact thenN ⟨42, a2, 138, a2, h, ha.sub (subs_cons KR (subs_cons KR (subs_cons KR (subs_cons KR (subs_cons KR (subs_cons KR (subs_nil _))))))), HW.pick [1, 0] [] (by decide) (by decide) KR KR⟩
          · skip
            replace h := ite_neg' h hp3494
            refine condF ha KR KR (t := (x3471 == 1)) (ieq_f hp3494) ?_
            refine wp_skip ?_
            exact thenN ⟨40, false, 136, false, h, ha.sub (subs_cons KR (subs_cons KR (subs_cons KR (subs_cons KR (subs_cons KR (subs_cons KR (subs_nil _))))))), HW.pick [1, 0] [] (by decide) (by decide) KR KR⟩
        · skip
          intro a W3501 hJ
          obtain ⟨x3497, x3498, x3499, x3500, h, ha, HW⟩ := hJ
          replace h : headgatelaw15_CdbForms.j0 K a0 a1 again3470 x3471 x3497 x3498 x3499 x3500 = some r := h
          unfold headgatelaw15_CdbForms.j0 at h
          refine hK3491 _ _ ?_; clear hK3491
          refine wp_seq_k (fun K3502 hK3503 => ?_)
          refine wp_region_lit ?_
          refine stepl ha 47 (HW.ca (i := 0) (b := b3484) (C := #[.int .i64 x3497, .int .i64 (IntKind.wrap .i64 (Int.tmod a0 2147483648)), .int .i64 (IntKind.wrap .i64 (Int.tmod a1 65536)), .bool x3498, .int .i64 0, .int .i64 0, .int .i64 0]) (T := 39) (fr := (0, 0)) KR) 39 0 (.tmp 10) (.agg #[.int .i64 x3497, .int .i64 (IntKind.wrap .i64 (Int.tmod a0 2147483648)), .int .i64 (IntKind.wrap .i64 (Int.tmod a1 65536)), .bool x3498, .int .i64 0, .int .i64 0, .int .i64 0]) rfl KR KR KR ?_; clear ha a; intro a ha
          obtain ⟨t3504, ht3505, h_⟩ := bind_some' h; clear h; have h := h_; clear h_
          refine stepc ha 48 KR KR (cdb_Build.calls K (⟨x3497, IntKind.wrap .i64 (Int.tmod a0 2147483648), IntKind.wrap .i64 (Int.tmod a1 65536), x3498, 0, 0, 0⟩ : T_cdb_Ask) t3504 _ (HW.ca0 hG0) (HW.ca0 hG1) ht3505) ?_; clear ha a; rintro e W3506 ⟨rfl, HX3507⟩
          refine ⟨_, rfl, ?_⟩; intro a ha; replace HW := HW.callw HX3507; clear HX3507
          refine stepp ha 46 (.tuple #[.string t3504.1, .int .i64 t3504.2]) KR KR ?_; clear ha a; intro a ha
          refine stepp ha 49 (.string t3504.1) KR KR ?_; clear ha a; intro a ha
          refine stepp ha 50 (.int .i64 t3504.2) KR KR ?_; clear ha a; intro a ha
          refine stepp ha 12 (.string t3504.1) KR KR ?_; clear ha a; intro a ha
          refine stepp ha 13 (.int .i64 t3504.2) KR KR ?_; clear ha a; intro a ha
          refine endl ?_
          refine thenN (hK3503 _ _ ?_); clear hK3503
          refine wp_seq_k (fun K3508 hK3509 => ?_)
          refine wp_region_lit ?_
          refine stepl ha 52 (HW.ca (i := 1) (b := b3486) (C := #[.int .i64 x3499, .int .i64 (IntKind.wrap .i64 (Int.tmod a0 2147483648)), .int .i64 (IntKind.wrap .i64 (Int.tmod a1 65536)), .bool x3500, .int .i64 0, .int .i64 0, .int .i64 0]) (T := 39) (fr := (0, 0)) KR) 39 0 (.tmp 11) (.agg #[.int .i64 x3499, .int .i64 (IntKind.wrap .i64 (Int.tmod a0 2147483648)), .int .i64 (IntKind.wrap .i64 (Int.tmod a1 65536)), .bool x3500, .int .i64 0, .int .i64 0, .int .i64 0]) rfl KR KR KR ?_; clear ha a; intro a ha
          obtain ⟨t3510, ht3511, h_⟩ := bind_some' h; clear h; have h := h_; clear h_
          refine stepc ha 53 KR KR (cdb_Build.calls K (⟨x3499, IntKind.wrap .i64 (Int.tmod a0 2147483648), IntKind.wrap .i64 (Int.tmod a1 65536), x3500, 0, 0, 0⟩ : T_cdb_Ask) t3510 _ (HW.ca0 hG0) (HW.ca0 hG1) ht3511) ?_; clear ha a; rintro e W3512 ⟨rfl, HX3513⟩
          refine ⟨_, rfl, ?_⟩; intro a ha; replace HW := HW.callw HX3513; clear HX3513
          refine stepp ha 51 (.tuple #[.string t3510.1, .int .i64 t3510.2]) KR KR ?_; clear ha a; intro a ha
          refine stepp ha 54 (.string t3510.1) KR KR ?_; clear ha a; intro a ha
          refine stepp ha 55 (.int .i64 t3510.2) KR KR ?_; clear ha a; intro a ha
          refine stepp ha 14 (.string t3510.1) KR KR ?_; clear ha a; intro a ha
          refine stepp ha 15 (.int .i64 t3510.2) KR KR ?_; clear ha a; intro a ha
          refine endl ?_
          refine thenN (hK3509 _ _ ?_); clear hK3509
          refine wp_seq_k (fun K3514 hK3515 => ?_)
          refine wp_region_lit ?_
          refine stepp ha 57 (.string t3504.1) KR KR ?_; clear ha a; intro a ha
          obtain ⟨t3516, ht3517, h_⟩ := bind_some' h; clear h; have h := h_; clear h_
          refine stepc ha 58 KR KR (cdb_Parse.calls K t3504.1 t3516 _ (HW.ca0 hG0) (HW.ca0 hG1) ht3517) ?_; clear ha a; rintro e W3518 ⟨rfl, HX3519⟩
          refine ⟨_, rfl, ?_⟩; intro a ha; replace HW := HW.callw HX3519; clear HX3519
          refine stepp ha 56 (.tuple #[.agg #[.int .i64 t3516.1.f0, .int .i64 t3516.1.f1, .int .i64 t3516.1.f2, .bool t3516.1.f3, .int .i64 t3516.1.f4, .int .i64 t3516.1.f5, .int .i64 t3516.1.f6], .int .i64 t3516.2]) KR KR ?_; clear ha a; intro a ha
          refine stepp ha 59 (.agg #[.int .i64 t3516.1.f0, .int .i64 t3516.1.f1, .int .i64 t3516.1.f2, .bool t3516.1.f3, .int .i64 t3516.1.f4, .int .i64 t3516.1.f5, .int .i64 t3516.1.f6]) KR KR ?_; clear ha a; intro a ha
          refine stepp ha 60 (.int .i64 t3516.2) KR KR ?_; clear ha a; intro a ha
          refine stepnew ha HW 16 #[.int .i64 0, .int .i64 0, .int .i64 0, .bool false, .int .i64 0, .int .i64 0, .int .i64 0] 39 KR KR ?_; clear ha HW a; intro b3520 a W3521 HW ha
          refine stepst ha HW 0 (b := b3520) (C := #[.int .i64 0, .int .i64 0, .int .i64 0, .bool false, .int .i64 0, .int .i64 0, .int .i64 0]) (T := 39) KR 39 0 (.tmp 16) (.tmp 59) (.agg #[.int .i64 t3516.1.f0, .int .i64 t3516.1.f1, .int .i64 t3516.1.f2, .bool t3516.1.f3, .int .i64 t3516.1.f4, .int .i64 t3516.1.f5, .int .i64 t3516.1.f6]) #[.int .i64 t3516.1.f0, .int .i64 t3516.1.f1, .int .i64 t3516.1.f2, .bool t3516.1.f3, .int .i64 t3516.1.f4, .int .i64 t3516.1.f5, .int .i64 t3516.1.f6] rfl KR KR KR KR KR KR KR ?_; clear ha HW a; intro a W3522 HW ha
          refine stepp ha 17 (.int .i64 t3516.2) KR KR ?_; clear ha a; intro a ha
          refine endl ?_
          refine thenN (hK3515 _ _ ?_); clear hK3515
          refine wp_seq_k (fun K3523 hK3524 => ?_)
          refine wp_region_lit ?_
          refine stepp ha 62 (.string t3510.1) KR KR ?_; clear ha a; intro a ha
          obtain ⟨t3525, ht3526, h_⟩ := bind_some' h; clear h; have h := h_; clear h_
          refine stepc ha 63 KR KR (cdb_Parse.calls K t3510.1 t3525 _ (HW.ca0 hG0) (HW.ca0 hG1) ht3526) ?_; clear ha a; rintro e W3527 ⟨rfl, HX3528⟩
          refine ⟨_, rfl, ?_⟩; intro a ha; replace HW := HW.callw HX3528; clear HX3528
          refine stepp ha 61 (.tuple #[.agg #[.int .i64 t3525.1.f0, .int .i64 t3525.1.f1, .int .i64 t3525.1.f2, .bool t3525.1.f3, .int .i64 t3525.1.f4, .int .i64 t3525.1.f5, .int .i64 t3525.1.f6], .int .i64 t3525.2]) KR KR ?_; clear ha a; intro a ha
          refine stepp ha 64 (.agg #[.int .i64 t3525.1.f0, .int .i64 t3525.1.f1, .int .i64 t3525.1.f2, .bool t3525.1.f3, .int .i64 t3525.1.f4, .int .i64 t3525.1.f5, .int .i64 t3525.1.f6]) KR KR ?_; clear ha a; intro a ha
          refine stepp ha 65 (.int .i64 t3525.2) KR KR ?_; clear ha a; intro a ha
          refine stepnew ha HW 18 #[.int .i64 0, .int .i64 0, .int .i64 0, .bool false, .int .i64 0, .int .i64 0, .int .i64 0] 39 KR KR ?_; clear ha HW a; intro b3529 a W3530 HW ha
          refine stepst ha HW 0 (b := b3529) (C := #[.int .i64 0, .int .i64 0, .int .i64 0, .bool false, .int .i64 0, .int .i64 0, .int .i64 0]) (T := 39) KR 39 0 (.tmp 18) (.tmp 64) (.agg #[.int .i64 t3525.1.f0, .int .i64 t3525.1.f1, .int .i64 t3525.1.f2, .bool t3525.1.f3, .int .i64 t3525.1.f4, .int .i64 t3525.1.f5, .int .i64 t3525.1.f6]) #[.int .i64 t3525.1.f0, .int .i64 t3525.1.f1, .int .i64 t3525.1.f2, .bool t3525.1.f3, .int .i64 t3525.1.f4, .int .i64 t3525.1.f5, .int .i64 t3525.1.f6] rfl KR KR KR KR KR KR KR ?_; clear ha HW a; intro a W3531 HW ha
          refine stepp ha 19 (.int .i64 t3525.2) KR KR ?_; clear ha a; intro a ha
          refine endl ?_
          refine thenN (hK3524 _ _ ?_); clear hK3524
          refine wp_seq_k (fun K3532 hK3533 => ?_)
          refine wp_region_lit ?_
          refine stepp ha 66 (.int .i64 t3504.2) KR KR ?_; clear ha a; intro a ha
          refine stepp ha 67 (.bool (t3504.2 != 0)) KR KR ?_; clear ha a; intro a ha
          refine stepp ha 68 (.bool (t3504.2 != 0)) KR KR ?_; clear ha a; intro a ha
          by_cases hp3534 : t3504.2 = 0
          · skip
            replace h := ite_pos' h hp3534
            replace ha := ha.bool 68 KR (ineq_f hp3534)
            refine stepp ha 69 (.int .i64 t3510.2) KR KR ?_; clear ha a; intro a ha
            refine stepp ha 70 (.bool (t3510.2 != 0)) KR KR ?_; clear ha a; intro a ha
            refine stepp ha 71 (.bool (t3510.2 != 0)) KR KR ?_; clear ha a; intro a ha
            refine stepp ha 72 (.bool (t3510.2 != 0)) KR KR ?_; clear ha a; intro a ha
            by_cases hp3535 : t3510.2 = 0
            · skip
              replace h := ite_pos' h hp3535
              replace ha := ha.bool 72 KR (ineq_f hp3535)
              refine stepp ha 73 (.int .i64 t3516.2) KR KR ?_; clear ha a; intro a ha
              refine stepp ha 74 (.bool (t3516.2 != 0)) KR KR ?_; clear ha a; intro a ha
              refine stepp ha 75 (.bool (t3516.2 != 0)) KR KR ?_; clear ha a; intro a ha
              refine stepp ha 76 (.bool (t3516.2 != 0)) KR KR ?_; clear ha a; intro a ha
              by_cases hp3536 : t3516.2 = 0
              · skip
                replace h := ite_pos' h hp3536
                replace ha := ha.bool 76 KR (ineq_f hp3536)
                refine stepp ha 77 (.int .i64 t3525.2) KR KR ?_; clear ha a; intro a ha
                refine stepp ha 78 (.bool (t3525.2 != 0)) KR KR ?_; clear ha a; intro a ha
                refine stepp ha 79 (.bool (t3525.2 != 0)) KR KR ?_; clear ha a; intro a ha
                refine stepp ha 80 (.bool (t3525.2 != 0)) KR KR ?_; clear ha a; intro a ha
                by_cases hp3537 : t3525.2 = 0
                · skip
                  replace h := ite_pos' h hp3537
                  replace ha := ha.bool 80 KR (ineq_f hp3537)
                  refine stepp ha 81 (.string t3504.1) KR KR ?_; clear ha a; intro a ha
                  refine stepp ha 82 (.int .i64 (t3504.1.size : Int)) KR KR ?_; clear ha a; intro a ha
                  refine stepp ha 83 (.bool ((t3504.1.size : Int) != 10)) KR KR ?_; clear ha a; intro a ha
                  refine stepp ha 84 (.bool ((t3504.1.size : Int) != 10)) KR KR ?_; clear ha a; intro a ha
                  refine stepp ha 85 (.bool ((t3504.1.size : Int) != 10)) KR KR ?_; clear ha a; intro a ha
                  by_cases hp3538 : (t3504.1.size : Int) = 10
                  · skip
                    replace h := ite_pos' h hp3538
                    replace ha := ha.bool 85 KR (ineq_f hp3538)
                    refine stepp ha 86 (.string t3510.1) KR KR ?_; clear ha a; intro a ha
                    refine stepp ha 87 (.int .i64 (t3510.1.size : Int)) KR KR ?_; clear ha a; intro a ha
                    refine stepp ha 88 (.bool ((t3510.1.size : Int) != 16)) KR KR ?_; clear ha a; intro a ha
                    refine stepp ha 89 (.bool ((t3510.1.size : Int) != 16)) KR KR ?_; clear ha a; intro a ha
                    refine stepp ha 90 (.bool ((t3510.1.size : Int) != 16)) KR KR ?_; clear ha a; intro a ha
                    by_cases hp3539 : (t3510.1.size : Int) = 16
                    · skip
                      replace h := ite_pos' h hp3539
                      replace ha := ha.bool 90 KR (ineq_f hp3539)
                      refine stepp ha 91 (.pointer (some ⟨b3520, 1, none⟩)) KR KR ?_; clear ha a; intro a ha
                      refine stepl ha 92 (HW.ca (i := 1) (b := b3520) (C := #[.int .i64 t3516.1.f0, .int .i64 t3516.1.f1, .int .i64 t3516.1.f2, .bool t3516.1.f3, .int .i64 t3516.1.f4, .int .i64 t3516.1.f5, .int .i64 t3516.1.f6]) (T := 39) (fr := (0, 0)) KR) 3 1 (.tmp 91) (.int .i64 t3516.1.f1) rfl KR KR KR ?_; clear ha a; intro a ha
                      refine stepp ha 93 (.pointer (some ⟨b3529, 1, none⟩)) KR KR ?_; clear ha a; intro a ha
                      refine stepl ha 94 (HW.ca (i := 0) (b := b3529) (C := #[.int .i64 t3525.1.f0, .int .i64 t3525.1.f1, .int .i64 t3525.1.f2, .bool t3525.1.f3, .int .i64 t3525.1.f4, .int .i64 t3525.1.f5, .int .i64 t3525.1.f6]) (T := 39) (fr := (0, 0)) KR) 3 1 (.tmp 93) (.int .i64 t3525.1.f1) rfl KR KR KR ?_; clear ha a; intro a ha
                      refine stepp ha 95 (.bool (t3516.1.f1 != t3525.1.f1)) KR KR ?_; clear ha a; intro a ha
                      refine stepp ha 96 (.bool (t3516.1.f1 != t3525.1.f1)) KR KR ?_; clear ha a; intro a ha
                      refine stepp ha 97 (.bool (t3516.1.f1 != t3525.1.f1)) KR KR ?_; clear ha a; intro a ha
                      by_cases hp3540 : t3516.1.f1 = t3525.1.f1
                      · skip
                        replace h := ite_pos' h hp3540
                        replace ha := ha.bool 97 KR (ineq_f hp3540)
                        refine stepp ha 98 (.pointer (some ⟨b3520, 2, none⟩)) KR KR ?_; clear ha a; intro a ha
                        refine stepl ha 99 (HW.ca (i := 1) (b := b3520) (C := #[.int .i64 t3516.1.f0, .int .i64 t3516.1.f1, .int .i64 t3516.1.f2, .bool t3516.1.f3, .int .i64 t3516.1.f4, .int .i64 t3516.1.f5, .int .i64 t3516.1.f6]) (T := 39) (fr := (0, 0)) KR) 3 2 (.tmp 98) (.int .i64 t3516.1.f2) rfl KR KR KR ?_; clear ha a; intro a ha
                        refine stepp ha 100 (.pointer (some ⟨b3529, 2, none⟩)) KR KR ?_; clear ha a; intro a ha
                        refine stepl ha 101 (HW.ca (i := 0) (b := b3529) (C := #[.int .i64 t3525.1.f0, .int .i64 t3525.1.f1, .int .i64 t3525.1.f2, .bool t3525.1.f3, .int .i64 t3525.1.f4, .int .i64 t3525.1.f5, .int .i64 t3525.1.f6]) (T := 39) (fr := (0, 0)) KR) 3 2 (.tmp 100) (.int .i64 t3525.1.f2) rfl KR KR KR ?_; clear ha a; intro a ha
                        refine stepp ha 102 (.bool (t3516.1.f2 != t3525.1.f2)) KR KR ?_; clear ha a; intro a ha
                        refine stepp ha 103 (.bool (t3516.1.f2 != t3525.1.f2)) KR KR ?_; clear ha a; intro a ha
                        refine stepp ha 104 (.bool (t3516.1.f2 != t3525.1.f2)) KR KR ?_; clear ha a; intro a ha
                        by_cases hp3541 : t3516.1.f2 = t3525.1.f2
                        · skip
                          replace h := ite_pos' h hp3541
                          replace ha := ha.bool 104 KR (ineq_f hp3541)
                          refine stepp ha 105 (.pointer (some ⟨b3520, 3, none⟩)) KR KR ?_; clear ha a; intro a ha
                          refine stepl ha 106 (HW.ca (i := 1) (b := b3520) (C := #[.int .i64 t3516.1.f0, .int .i64 t3516.1.f1, .int .i64 t3516.1.f2, .bool t3516.1.f3, .int .i64 t3516.1.f4, .int .i64 t3516.1.f5, .int .i64 t3516.1.f6]) (T := 39) (fr := (0, 0)) KR) 4 3 (.tmp 105) (.bool t3516.1.f3) rfl KR KR KR ?_; clear ha a; intro a ha
                          refine stepp ha 107 (.pointer (some ⟨b3529, 3, none⟩)) KR KR ?_; clear ha a; intro a ha
                          refine stepl ha 108 (HW.ca (i := 0) (b := b3529) (C := #[.int .i64 t3525.1.f0, .int .i64 t3525.1.f1, .int .i64 t3525.1.f2, .bool t3525.1.f3, .int .i64 t3525.1.f4, .int .i64 t3525.1.f5, .int .i64 t3525.1.f6]) (T := 39) (fr := (0, 0)) KR) 4 3 (.tmp 107) (.bool t3525.1.f3) rfl KR KR KR ?_; clear ha a; intro a ha
                          refine stepp ha 109 (.bool (t3516.1.f3 != t3525.1.f3)) KR KR ?_; clear ha a; intro a ha
                          refine stepp ha 110 (.bool (t3516.1.f3 != t3525.1.f3)) KR KR ?_; clear ha a; intro a ha
                          refine stepp ha 111 (.bool (t3516.1.f3 != t3525.1.f3)) KR KR ?_; clear ha a; intro a ha
                          by_cases hp3542 : t3516.1.f3 = t3525.1.f3
                          · skip
                            replace h := ite_pos' h hp3542
                            replace ha := ha.bool 111 KR (bne_f hp3542)
                            refine stepp ha 112 (.pointer (some ⟨b3520, 1, none⟩)) KR KR ?_; clear ha a; intro a ha
                            refine stepl ha 113 (HW.ca (i := 1) (b := b3520) (C := #[.int .i64 t3516.1.f0, .int .i64 t3516.1.f1, .int .i64 t3516.1.f2, .bool t3516.1.f3, .int .i64 t3516.1.f4, .int .i64 t3516.1.f5, .int .i64 t3516.1.f6]) (T := 39) (fr := (0, 0)) KR) 3 1 (.tmp 112) (.int .i64 t3516.1.f1) rfl KR KR KR ?_; clear ha a; intro a ha
                            refine stepp ha 114 (.int .i64 (IntKind.wrap .i64 (Int.tmod a0 2147483648))) KR KR ?_; clear ha a; intro a ha
                            refine stepp ha 115 (.bool (t3516.1.f1 != (IntKind.wrap .i64 (Int.tmod a0 2147483648)))) KR KR ?_; clear ha a; intro a ha
                            refine stepp ha 116 (.bool (t3516.1.f1 != (IntKind.wrap .i64 (Int.tmod a0 2147483648)))) KR KR ?_; clear ha a; intro a ha
                            refine stepp ha 117 (.bool (t3516.1.f1 != (IntKind.wrap .i64 (Int.tmod a0 2147483648)))) KR KR ?_; clear ha a; intro a ha
                            by_cases hp3543 : t3516.1.f1 = (IntKind.wrap .i64 (Int.tmod a0 2147483648))
                            · skip
                              replace h := ite_pos' h hp3543
                              replace ha := ha.bool 117 KR (ineq_f hp3543)
                              refine stepp ha 118 (.pointer (some ⟨b3520, 2, none⟩)) KR KR ?_; clear ha a; intro a ha
                              refine stepl ha 119 (HW.ca (i := 1) (b := b3520) (C := #[.int .i64 t3516.1.f0, .int .i64 t3516.1.f1, .int .i64 t3516.1.f2, .bool t3516.1.f3, .int .i64 t3516.1.f4, .int .i64 t3516.1.f5, .int .i64 t3516.1.f6]) (T := 39) (fr := (0, 0)) KR) 3 2 (.tmp 118) (.int .i64 t3516.1.f2) rfl KR KR KR ?_; clear ha a; intro a ha
                              refine stepp ha 120 (.int .i64 (IntKind.wrap .i64 (Int.tmod a1 65536))) KR KR ?_; clear ha a; intro a ha
                              refine stepp ha 121 (.bool (t3516.1.f2 != (IntKind.wrap .i64 (Int.tmod a1 65536)))) KR KR ?_; clear ha a; intro a ha
                              refine stepp ha 122 (.bool (t3516.1.f2 != (IntKind.wrap .i64 (Int.tmod a1 65536)))) KR KR ?_; clear ha a; intro a ha
                              refine endl ?_
                              refine thenN (hK3533 _ _ ?_); clear hK3533
                              by_cases hp3544 : t3516.1.f2 = (IntKind.wrap .i64 (Int.tmod a1 65536))
                              · skip
                                replace h := ite_pos' h hp3544
                                refine condF ha KR KR (t := (t3516.1.f2 != (IntKind.wrap .i64 (Int.tmod a1 65536)))) (ineq_f hp3544) ?_
                                refine wp_skip ?_
                                refine blkN ?_
                                refine thenN (hK3481 _ _ ?_); clear hK3481
                                refine wp_region_lit ?_
                                refine stepp ha 28 (.int .i64 x3471) KR KR ?_; clear ha a; intro a ha
                                refine stepp ha 29 (.int .i64 (IntKind.wrap .i64 (x3471 + 1))) KR KR ?_; clear ha a; intro a ha
                                refine stepp ha 9 (.int .i64 (IntKind.wrap .i64 (x3471 + 1))) KR KR ?_; clear ha a; intro a ha
                                refine endl ?_
                                exact thenN ⟨k3473, Nat.lt_succ_self k3473, IntKind.wrap .i64 (x3471 + 1), (by rw [← hag3474]; exact h), ha.sub (subs_cons KR (subs_cons KR (subs_cons KR (subs_cons KR (subs_nil _))))), HW.pick [] [] (by decide) (by decide) KR KR⟩
                              · skip
                                replace h := ite_neg' h hp3544
                                refine condT ha KR KR (t := (t3516.1.f2 != (IntKind.wrap .i64 (Int.tmod a1 65536)))) (ineq_t hp3544) ?_
                                refine wp_seq_k (fun K3545 hK3546 => ?_)
                                refine wp_region_lit ?_
                                refine stepp ha 6 (.bool false) KR KR ?_; clear ha a; intro a ha
                                refine endl ?_
                                refine thenN (hK3546 _ _ ?_); clear hK3546
                                refine wp_ret ?_
                                refine blkR ?_
                                refine thenR ?_
                                refine thenR ?_
                                refine blkR ?_
                                refine thenR ?_
                                obtain rfl := Option.some.inj h
                                exact finv ha _ _ rfl (.tmp (v := .bool false) KR .nil) (.bool false) rfl ⟨rfl, HW.pick [] [] (by decide) (by decide) rfl KR⟩
                            · skip
                              replace h := ite_neg' h hp3543
                              replace ha := ha.bool 117 KR (ineq_t hp3543)
                              refine stepo ha 118 KR ?_; clear ha a; intro a ha
                              refine stepo ha 119 KR ?_; clear ha a; intro a ha
                              refine stepo ha 120 KR ?_; clear ha a; intro a ha
                              refine stepo ha 121 KR ?_; clear ha a; intro a ha
                              refine stepp ha 122 (.bool true) KR KR ?_; clear ha a; intro a ha
                              refine endl ?_
                              refine thenN (hK3533 _ _ ?_); clear hK3533
                              refine condT ha KR KR (t := true) (rfl) ?_
                              refine wp_seq_k (fun K3547 hK3548 => ?_)
                              refine wp_region_lit ?_
                              refine stepp ha 6 (.bool false) KR KR ?_; clear ha a; intro a ha
                              refine endl ?_
                              refine thenN (hK3548 _ _ ?_); clear hK3548
                              refine wp_ret ?_
                              refine blkR ?_
                              refine thenR ?_
                              refine thenR ?_
                              refine blkR ?_
                              refine thenR ?_
                              obtain rfl := Option.some.inj h
                              exact finv ha _ _ rfl (.tmp (v := .bool false) KR .nil) (.bool false) rfl ⟨rfl, HW.pick [] [] (by decide) (by decide) rfl KR⟩
                          · skip
                            replace h := ite_neg' h hp3542
                            replace ha := ha.bool 111 KR (bne_t hp3542)
                            refine stepo ha 112 KR ?_; clear ha a; intro a ha
                            refine stepo ha 113 KR ?_; clear ha a; intro a ha
                            refine stepo ha 114 KR ?_; clear ha a; intro a ha
                            refine stepo ha 115 KR ?_; clear ha a; intro a ha
                            refine stepp ha 116 (.bool true) KR KR ?_; clear ha a; intro a ha
                            refine stepp ha 117 (.bool true) KR KR ?_; clear ha a; intro a ha
                            refine stepo ha 118 KR ?_; clear ha a; intro a ha
                            refine stepo ha 119 KR ?_; clear ha a; intro a ha
                            refine stepo ha 120 KR ?_; clear ha a; intro a ha
                            refine stepo ha 121 KR ?_; clear ha a; intro a ha
                            refine stepp ha 122 (.bool true) KR KR ?_; clear ha a; intro a ha
                            refine endl ?_
                            refine thenN (hK3533 _ _ ?_); clear hK3533
                            refine condT ha KR KR (t := true) (rfl) ?_
                            refine wp_seq_k (fun K3549 hK3550 => ?_)
                            refine wp_region_lit ?_
                            refine stepp ha 6 (.bool false) KR KR ?_; clear ha a; intro a ha
                            refine endl ?_
                            refine thenN (hK3550 _ _ ?_); clear hK3550
                            refine wp_ret ?_
                            refine blkR ?_
                            refine thenR ?_
                            refine thenR ?_
                            refine blkR ?_
                            refine thenR ?_
                            obtain rfl := Option.some.inj h
                            exact finv ha _ _ rfl (.tmp (v := .bool false) KR .nil) (.bool false) rfl ⟨rfl, HW.pick [] [] (by decide) (by decide) rfl KR⟩
                        · skip
                          replace h := ite_neg' h hp3541
                          replace ha := ha.bool 104 KR (ineq_t hp3541)
                          refine stepo ha 105 KR ?_; clear ha a; intro a ha
                          refine stepo ha 106 KR ?_; clear ha a; intro a ha
                          refine stepo ha 107 KR ?_; clear ha a; intro a ha
                          refine stepo ha 108 KR ?_; clear ha a; intro a ha
                          refine stepo ha 109 KR ?_; clear ha a; intro a ha
                          refine stepp ha 110 (.bool true) KR KR ?_; clear ha a; intro a ha
                          refine stepp ha 111 (.bool true) KR KR ?_; clear ha a; intro a ha
                          refine stepo ha 112 KR ?_; clear ha a; intro a ha
                          refine stepo ha 113 KR ?_; clear ha a; intro a ha
                          refine stepo ha 114 KR ?_; clear ha a; intro a ha
                          refine stepo ha 115 KR ?_; clear ha a; intro a ha
                          refine stepp ha 116 (.bool true) KR KR ?_; clear ha a; intro a ha
                          refine stepp ha 117 (.bool true) KR KR ?_; clear ha a; intro a ha
                          refine stepo ha 118 KR ?_; clear ha a; intro a ha
                          refine stepo ha 119 KR ?_; clear ha a; intro a ha
                          refine stepo ha 120 KR ?_; clear ha a; intro a ha
                          refine stepo ha 121 KR ?_; clear ha a; intro a ha
                          refine stepp ha 122 (.bool true) KR KR ?_; clear ha a; intro a ha
                          refine endl ?_
                          refine thenN (hK3533 _ _ ?_); clear hK3533
                          refine condT ha KR KR (t := true) (rfl) ?_
                          refine wp_seq_k (fun K3551 hK3552 => ?_)
                          refine wp_region_lit ?_
                          refine stepp ha 6 (.bool false) KR KR ?_; clear ha a; intro a ha
                          refine endl ?_
                          refine thenN (hK3552 _ _ ?_); clear hK3552
                          refine wp_ret ?_
                          refine blkR ?_
                          refine thenR ?_
                          refine thenR ?_
                          refine blkR ?_
                          refine thenR ?_
                          obtain rfl := Option.some.inj h
                          exact finv ha _ _ rfl (.tmp (v := .bool false) KR .nil) (.bool false) rfl ⟨rfl, HW.pick [] [] (by decide) (by decide) rfl KR⟩
                      · skip
                        replace h := ite_neg' h hp3540
                        replace ha := ha.bool 97 KR (ineq_t hp3540)
                        refine stepo ha 98 KR ?_; clear ha a; intro a ha
                        refine stepo ha 99 KR ?_; clear ha a; intro a ha
                        refine stepo ha 100 KR ?_; clear ha a; intro a ha
                        refine stepo ha 101 KR ?_; clear ha a; intro a ha
                        refine stepo ha 102 KR ?_; clear ha a; intro a ha
                        refine stepp ha 103 (.bool true) KR KR ?_; clear ha a; intro a ha
                        refine stepp ha 104 (.bool true) KR KR ?_; clear ha a; intro a ha
                        refine stepo ha 105 KR ?_; clear ha a; intro a ha
                        refine stepo ha 106 KR ?_; clear ha a; intro a ha
                        refine stepo ha 107 KR ?_; clear ha a; intro a ha
                        refine stepo ha 108 KR ?_; clear ha a; intro a ha
                        refine stepo ha 109 KR ?_; clear ha a; intro a ha
                        refine stepp ha 110 (.bool true) KR KR ?_; clear ha a; intro a ha
                        refine stepp ha 111 (.bool true) KR KR ?_; clear ha a; intro a ha
                        refine stepo ha 112 KR ?_; clear ha a; intro a ha
                        refine stepo ha 113 KR ?_; clear ha a; intro a ha
                        refine stepo ha 114 KR ?_; clear ha a; intro a ha
                        refine stepo ha 115 KR ?_; clear ha a; intro a ha
                        refine stepp ha 116 (.bool true) KR KR ?_; clear ha a; intro a ha
                        refine stepp ha 117 (.bool true) KR KR ?_; clear ha a; intro a ha
                        refine stepo ha 118 KR ?_; clear ha a; intro a ha
                        refine stepo ha 119 KR ?_; clear ha a; intro a ha
                        refine stepo ha 120 KR ?_; clear ha a; intro a ha
                        refine stepo ha 121 KR ?_; clear ha a; intro a ha
                        refine stepp ha 122 (.bool true) KR KR ?_; clear ha a; intro a ha
                        refine endl ?_
                        refine thenN (hK3533 _ _ ?_); clear hK3533
                        refine condT ha KR KR (t := true) (rfl) ?_
                        refine wp_seq_k (fun K3553 hK3554 => ?_)
                        refine wp_region_lit ?_
                        refine stepp ha 6 (.bool false) KR KR ?_; clear ha a; intro a ha
                        refine endl ?_
                        refine thenN (hK3554 _ _ ?_); clear hK3554
                        refine wp_ret ?_
                        refine blkR ?_
                        refine thenR ?_
                        refine thenR ?_
                        refine blkR ?_
                        refine thenR ?_
                        obtain rfl := Option.some.inj h
                        exact finv ha _ _ rfl (.tmp (v := .bool false) KR .nil) (.bool false) rfl ⟨rfl, HW.pick [] [] (by decide) (by decide) rfl KR⟩
                    · skip
                      replace h := ite_neg' h hp3539
                      replace ha := ha.bool 90 KR (ineq_t hp3539)
                      refine stepo ha 91 KR ?_; clear ha a; intro a ha
                      refine stepo ha 92 KR ?_; clear ha a; intro a ha
                      refine stepo ha 93 KR ?_; clear ha a; intro a ha
                      refine stepo ha 94 KR ?_; clear ha a; intro a ha
                      refine stepo ha 95 KR ?_; clear ha a; intro a ha
                      refine stepp ha 96 (.bool true) KR KR ?_; clear ha a; intro a ha
                      refine stepp ha 97 (.bool true) KR KR ?_; clear ha a; intro a ha
                      refine stepo ha 98 KR ?_; clear ha a; intro a ha
                      refine stepo ha 99 KR ?_; clear ha a; intro a ha
                      refine stepo ha 100 KR ?_; clear ha a; intro a ha
                      refine stepo ha 101 KR ?_; clear ha a; intro a ha
                      refine stepo ha 102 KR ?_; clear ha a; intro a ha
                      refine stepp ha 103 (.bool true) KR KR ?_; clear ha a; intro a ha
                      refine stepp ha 104 (.bool true) KR KR ?_; clear ha a; intro a ha
                      refine stepo ha 105 KR ?_; clear ha a; intro a ha
                      refine stepo ha 106 KR ?_; clear ha a; intro a ha
                      refine stepo ha 107 KR ?_; clear ha a; intro a ha
                      refine stepo ha 108 KR ?_; clear ha a; intro a ha
                      refine stepo ha 109 KR ?_; clear ha a; intro a ha
                      refine stepp ha 110 (.bool true) KR KR ?_; clear ha a; intro a ha
                      refine stepp ha 111 (.bool true) KR KR ?_; clear ha a; intro a ha
                      refine stepo ha 112 KR ?_; clear ha a; intro a ha
                      refine stepo ha 113 KR ?_; clear ha a; intro a ha
                      refine stepo ha 114 KR ?_; clear ha a; intro a ha
                      refine stepo ha 115 KR ?_; clear ha a; intro a ha
                      refine stepp ha 116 (.bool true) KR KR ?_; clear ha a; intro a ha
                      refine stepp ha 117 (.bool true) KR KR ?_; clear ha a; intro a ha
                      refine stepo ha 118 KR ?_; clear ha a; intro a ha
                      refine stepo ha 119 KR ?_; clear ha a; intro a ha
                      refine stepo ha 120 KR ?_; clear ha a; intro a ha
                      refine stepo ha 121 KR ?_; clear ha a; intro a ha
                      refine stepp ha 122 (.bool true) KR KR ?_; clear ha a; intro a ha
                      refine endl ?_
                      refine thenN (hK3533 _ _ ?_); clear hK3533
                      refine condT ha KR KR (t := true) (rfl) ?_
                      refine wp_seq_k (fun K3555 hK3556 => ?_)
                      refine wp_region_lit ?_
                      refine stepp ha 6 (.bool false) KR KR ?_; clear ha a; intro a ha
                      refine endl ?_
                      refine thenN (hK3556 _ _ ?_); clear hK3556
                      refine wp_ret ?_
                      refine blkR ?_
                      refine thenR ?_
                      refine thenR ?_
                      refine blkR ?_
                      refine thenR ?_
                      obtain rfl := Option.some.inj h
                      exact finv ha _ _ rfl (.tmp (v := .bool false) KR .nil) (.bool false) rfl ⟨rfl, HW.pick [] [] (by decide) (by decide) rfl KR⟩
                  · skip
                    replace h := ite_neg' h hp3538
                    replace ha := ha.bool 85 KR (ineq_t hp3538)
                    refine stepo ha 86 KR ?_; clear ha a; intro a ha
                    refine stepo ha 87 KR ?_; clear ha a; intro a ha
                    refine stepo ha 88 KR ?_; clear ha a; intro a ha
                    refine stepp ha 89 (.bool true) KR KR ?_; clear ha a; intro a ha
                    refine stepp ha 90 (.bool true) KR KR ?_; clear ha a; intro a ha
                    refine stepo ha 91 KR ?_; clear ha a; intro a ha
                    refine stepo ha 92 KR ?_; clear ha a; intro a ha
                    refine stepo ha 93 KR ?_; clear ha a; intro a ha
                    refine stepo ha 94 KR ?_; clear ha a; intro a ha
                    refine stepo ha 95 KR ?_; clear ha a; intro a ha
                    refine stepp ha 96 (.bool true) KR KR ?_; clear ha a; intro a ha
                    refine stepp ha 97 (.bool true) KR KR ?_; clear ha a; intro a ha
                    refine stepo ha 98 KR ?_; clear ha a; intro a ha
                    refine stepo ha 99 KR ?_; clear ha a; intro a ha
                    refine stepo ha 100 KR ?_; clear ha a; intro a ha
                    refine stepo ha 101 KR ?_; clear ha a; intro a ha
                    refine stepo ha 102 KR ?_; clear ha a; intro a ha
                    refine stepp ha 103 (.bool true) KR KR ?_; clear ha a; intro a ha
                    refine stepp ha 104 (.bool true) KR KR ?_; clear ha a; intro a ha
                    refine stepo ha 105 KR ?_; clear ha a; intro a ha
                    refine stepo ha 106 KR ?_; clear ha a; intro a ha
                    refine stepo ha 107 KR ?_; clear ha a; intro a ha
                    refine stepo ha 108 KR ?_; clear ha a; intro a ha
                    refine stepo ha 109 KR ?_; clear ha a; intro a ha
                    refine stepp ha 110 (.bool true) KR KR ?_; clear ha a; intro a ha
                    refine stepp ha 111 (.bool true) KR KR ?_; clear ha a; intro a ha
                    refine stepo ha 112 KR ?_; clear ha a; intro a ha
                    refine stepo ha 113 KR ?_; clear ha a; intro a ha
                    refine stepo ha 114 KR ?_; clear ha a; intro a ha
                    refine stepo ha 115 KR ?_; clear ha a; intro a ha
                    refine stepp ha 116 (.bool true) KR KR ?_; clear ha a; intro a ha
                    refine stepp ha 117 (.bool true) KR KR ?_; clear ha a; intro a ha
                    refine stepo ha 118 KR ?_; clear ha a; intro a ha
                    refine stepo ha 119 KR ?_; clear ha a; intro a ha
                    refine stepo ha 120 KR ?_; clear ha a; intro a ha
                    refine stepo ha 121 KR ?_; clear ha a; intro a ha
                    refine stepp ha 122 (.bool true) KR KR ?_; clear ha a; intro a ha
                    refine endl ?_
                    refine thenN (hK3533 _ _ ?_); clear hK3533
                    refine condT ha KR KR (t := true) (rfl) ?_
                    refine wp_seq_k (fun K3557 hK3558 => ?_)
                    refine wp_region_lit ?_
                    refine stepp ha 6 (.bool false) KR KR ?_; clear ha a; intro a ha
                    refine endl ?_
                    refine thenN (hK3558 _ _ ?_); clear hK3558
                    refine wp_ret ?_
                    refine blkR ?_
                    refine thenR ?_
                    refine thenR ?_
                    refine blkR ?_
                    refine thenR ?_
                    obtain rfl := Option.some.inj h
                    exact finv ha _ _ rfl (.tmp (v := .bool false) KR .nil) (.bool false) rfl ⟨rfl, HW.pick [] [] (by decide) (by decide) rfl KR⟩
                · skip
                  replace h := ite_neg' h hp3537
                  replace ha := ha.bool 80 KR (ineq_t hp3537)
                  refine stepo ha 81 KR ?_; clear ha a; intro a ha
                  refine stepo ha 82 KR ?_; clear ha a; intro a ha
                  refine stepo ha 83 KR ?_; clear ha a; intro a ha
                  refine stepp ha 84 (.bool true) KR KR ?_; clear ha a; intro a ha
                  refine stepp ha 85 (.bool true) KR KR ?_; clear ha a; intro a ha
                  refine stepo ha 86 KR ?_; clear ha a; intro a ha
                  refine stepo ha 87 KR ?_; clear ha a; intro a ha
                  refine stepo ha 88 KR ?_; clear ha a; intro a ha
                  refine stepp ha 89 (.bool true) KR KR ?_; clear ha a; intro a ha
                  refine stepp ha 90 (.bool true) KR KR ?_; clear ha a; intro a ha
                  refine stepo ha 91 KR ?_; clear ha a; intro a ha
                  refine stepo ha 92 KR ?_; clear ha a; intro a ha
                  refine stepo ha 93 KR ?_; clear ha a; intro a ha
                  refine stepo ha 94 KR ?_; clear ha a; intro a ha
                  refine stepo ha 95 KR ?_; clear ha a; intro a ha
                  refine stepp ha 96 (.bool true) KR KR ?_; clear ha a; intro a ha
                  refine stepp ha 97 (.bool true) KR KR ?_; clear ha a; intro a ha
                  refine stepo ha 98 KR ?_; clear ha a; intro a ha
                  refine stepo ha 99 KR ?_; clear ha a; intro a ha
                  refine stepo ha 100 KR ?_; clear ha a; intro a ha
                  refine stepo ha 101 KR ?_; clear ha a; intro a ha
                  refine stepo ha 102 KR ?_; clear ha a; intro a ha
                  refine stepp ha 103 (.bool true) KR KR ?_; clear ha a; intro a ha
                  refine stepp ha 104 (.bool true) KR KR ?_; clear ha a; intro a ha
                  refine stepo ha 105 KR ?_; clear ha a; intro a ha
                  refine stepo ha 106 KR ?_; clear ha a; intro a ha
                  refine stepo ha 107 KR ?_; clear ha a; intro a ha
                  refine stepo ha 108 KR ?_; clear ha a; intro a ha
                  refine stepo ha 109 KR ?_; clear ha a; intro a ha
                  refine stepp ha 110 (.bool true) KR KR ?_; clear ha a; intro a ha
                  refine stepp ha 111 (.bool true) KR KR ?_; clear ha a; intro a ha
                  refine stepo ha 112 KR ?_; clear ha a; intro a ha
                  refine stepo ha 113 KR ?_; clear ha a; intro a ha
                  refine stepo ha 114 KR ?_; clear ha a; intro a ha
                  refine stepo ha 115 KR ?_; clear ha a; intro a ha
                  refine stepp ha 116 (.bool true) KR KR ?_; clear ha a; intro a ha
                  refine stepp ha 117 (.bool true) KR KR ?_; clear ha a; intro a ha
                  refine stepo ha 118 KR ?_; clear ha a; intro a ha
                  refine stepo ha 119 KR ?_; clear ha a; intro a ha
                  refine stepo ha 120 KR ?_; clear ha a; intro a ha
                  refine stepo ha 121 KR ?_; clear ha a; intro a ha
                  refine stepp ha 122 (.bool true) KR KR ?_; clear ha a; intro a ha
                  refine endl ?_
                  refine thenN (hK3533 _ _ ?_); clear hK3533
                  refine condT ha KR KR (t := true) (rfl) ?_
                  refine wp_seq_k (fun K3559 hK3560 => ?_)
                  refine wp_region_lit ?_
                  refine stepp ha 6 (.bool false) KR KR ?_; clear ha a; intro a ha
                  refine endl ?_
                  refine thenN (hK3560 _ _ ?_); clear hK3560
                  refine wp_ret ?_
                  refine blkR ?_
                  refine thenR ?_
                  refine thenR ?_
                  refine blkR ?_
                  refine thenR ?_
                  obtain rfl := Option.some.inj h
                  exact finv ha _ _ rfl (.tmp (v := .bool false) KR .nil) (.bool false) rfl ⟨rfl, HW.pick [] [] (by decide) (by decide) rfl KR⟩
              · skip
                replace h := ite_neg' h hp3536
                replace ha := ha.bool 76 KR (ineq_t hp3536)
                refine stepo ha 77 KR ?_; clear ha a; intro a ha
                refine stepo ha 78 KR ?_; clear ha a; intro a ha
                refine stepp ha 79 (.bool true) KR KR ?_; clear ha a; intro a ha
                refine stepp ha 80 (.bool true) KR KR ?_; clear ha a; intro a ha
                refine stepo ha 81 KR ?_; clear ha a; intro a ha
                refine stepo ha 82 KR ?_; clear ha a; intro a ha
                refine stepo ha 83 KR ?_; clear ha a; intro a ha
                refine stepp ha 84 (.bool true) KR KR ?_; clear ha a; intro a ha
                refine stepp ha 85 (.bool true) KR KR ?_; clear ha a; intro a ha
                refine stepo ha 86 KR ?_; clear ha a; intro a ha
                refine stepo ha 87 KR ?_; clear ha a; intro a ha
                refine stepo ha 88 KR ?_; clear ha a; intro a ha
                refine stepp ha 89 (.bool true) KR KR ?_; clear ha a; intro a ha
                refine stepp ha 90 (.bool true) KR KR ?_; clear ha a; intro a ha
                refine stepo ha 91 KR ?_; clear ha a; intro a ha
                refine stepo ha 92 KR ?_; clear ha a; intro a ha
                refine stepo ha 93 KR ?_; clear ha a; intro a ha
                refine stepo ha 94 KR ?_; clear ha a; intro a ha
                refine stepo ha 95 KR ?_; clear ha a; intro a ha
                refine stepp ha 96 (.bool true) KR KR ?_; clear ha a; intro a ha
                refine stepp ha 97 (.bool true) KR KR ?_; clear ha a; intro a ha
                refine stepo ha 98 KR ?_; clear ha a; intro a ha
                refine stepo ha 99 KR ?_; clear ha a; intro a ha
                refine stepo ha 100 KR ?_; clear ha a; intro a ha
                refine stepo ha 101 KR ?_; clear ha a; intro a ha
                refine stepo ha 102 KR ?_; clear ha a; intro a ha
                refine stepp ha 103 (.bool true) KR KR ?_; clear ha a; intro a ha
                refine stepp ha 104 (.bool true) KR KR ?_; clear ha a; intro a ha
                refine stepo ha 105 KR ?_; clear ha a; intro a ha
                refine stepo ha 106 KR ?_; clear ha a; intro a ha
                refine stepo ha 107 KR ?_; clear ha a; intro a ha
                refine stepo ha 108 KR ?_; clear ha a; intro a ha
                refine stepo ha 109 KR ?_; clear ha a; intro a ha
                refine stepp ha 110 (.bool true) KR KR ?_; clear ha a; intro a ha
                refine stepp ha 111 (.bool true) KR KR ?_; clear ha a; intro a ha
                refine stepo ha 112 KR ?_; clear ha a; intro a ha
                refine stepo ha 113 KR ?_; clear ha a; intro a ha
                refine stepo ha 114 KR ?_; clear ha a; intro a ha
                refine stepo ha 115 KR ?_; clear ha a; intro a ha
                refine stepp ha 116 (.bool true) KR KR ?_; clear ha a; intro a ha
                refine stepp ha 117 (.bool true) KR KR ?_; clear ha a; intro a ha
                refine stepo ha 118 KR ?_; clear ha a; intro a ha
                refine stepo ha 119 KR ?_; clear ha a; intro a ha
                refine stepo ha 120 KR ?_; clear ha a; intro a ha
                refine stepo ha 121 KR ?_; clear ha a; intro a ha
                refine stepp ha 122 (.bool true) KR KR ?_; clear ha a; intro a ha
                refine endl ?_
                refine thenN (hK3533 _ _ ?_); clear hK3533
                refine condT ha KR KR (t := true) (rfl) ?_
                refine wp_seq_k (fun K3561 hK3562 => ?_)
                refine wp_region_lit ?_
                refine stepp ha 6 (.bool false) KR KR ?_; clear ha a; intro a ha
                refine endl ?_
                refine thenN (hK3562 _ _ ?_); clear hK3562
                refine wp_ret ?_
                refine blkR ?_
                refine thenR ?_
                refine thenR ?_
                refine blkR ?_
                refine thenR ?_
                obtain rfl := Option.some.inj h
                exact finv ha _ _ rfl (.tmp (v := .bool false) KR .nil) (.bool false) rfl ⟨rfl, HW.pick [] [] (by decide) (by decide) rfl KR⟩
            · skip
              replace h := ite_neg' h hp3535
              replace ha := ha.bool 72 KR (ineq_t hp3535)
              refine stepo ha 73 KR ?_; clear ha a; intro a ha
              refine stepo ha 74 KR ?_; clear ha a; intro a ha
              refine stepp ha 75 (.bool true) KR KR ?_; clear ha a; intro a ha
              refine stepp ha 76 (.bool true) KR KR ?_; clear ha a; intro a ha
              refine stepo ha 77 KR ?_; clear ha a; intro a ha
              refine stepo ha 78 KR ?_; clear ha a; intro a ha
              refine stepp ha 79 (.bool true) KR KR ?_; clear ha a; intro a ha
              refine stepp ha 80 (.bool true) KR KR ?_; clear ha a; intro a ha
              refine stepo ha 81 KR ?_; clear ha a; intro a ha
              refine stepo ha 82 KR ?_; clear ha a; intro a ha
              refine stepo ha 83 KR ?_; clear ha a; intro a ha
              refine stepp ha 84 (.bool true) KR KR ?_; clear ha a; intro a ha
              refine stepp ha 85 (.bool true) KR KR ?_; clear ha a; intro a ha
              refine stepo ha 86 KR ?_; clear ha a; intro a ha
              refine stepo ha 87 KR ?_; clear ha a; intro a ha
              refine stepo ha 88 KR ?_; clear ha a; intro a ha
              refine stepp ha 89 (.bool true) KR KR ?_; clear ha a; intro a ha
              refine stepp ha 90 (.bool true) KR KR ?_; clear ha a; intro a ha
              refine stepo ha 91 KR ?_; clear ha a; intro a ha
              refine stepo ha 92 KR ?_; clear ha a; intro a ha
              refine stepo ha 93 KR ?_; clear ha a; intro a ha
              refine stepo ha 94 KR ?_; clear ha a; intro a ha
              refine stepo ha 95 KR ?_; clear ha a; intro a ha
              refine stepp ha 96 (.bool true) KR KR ?_; clear ha a; intro a ha
              refine stepp ha 97 (.bool true) KR KR ?_; clear ha a; intro a ha
              refine stepo ha 98 KR ?_; clear ha a; intro a ha
              refine stepo ha 99 KR ?_; clear ha a; intro a ha
              refine stepo ha 100 KR ?_; clear ha a; intro a ha
              refine stepo ha 101 KR ?_; clear ha a; intro a ha
              refine stepo ha 102 KR ?_; clear ha a; intro a ha
              refine stepp ha 103 (.bool true) KR KR ?_; clear ha a; intro a ha
              refine stepp ha 104 (.bool true) KR KR ?_; clear ha a; intro a ha
              refine stepo ha 105 KR ?_; clear ha a; intro a ha
              refine stepo ha 106 KR ?_; clear ha a; intro a ha
              refine stepo ha 107 KR ?_; clear ha a; intro a ha
              refine stepo ha 108 KR ?_; clear ha a; intro a ha
              refine stepo ha 109 KR ?_; clear ha a; intro a ha
              refine stepp ha 110 (.bool true) KR KR ?_; clear ha a; intro a ha
              refine stepp ha 111 (.bool true) KR KR ?_; clear ha a; intro a ha
              refine stepo ha 112 KR ?_; clear ha a; intro a ha
              refine stepo ha 113 KR ?_; clear ha a; intro a ha
              refine stepo ha 114 KR ?_; clear ha a; intro a ha
              refine stepo ha 115 KR ?_; clear ha a; intro a ha
              refine stepp ha 116 (.bool true) KR KR ?_; clear ha a; intro a ha
              refine stepp ha 117 (.bool true) KR KR ?_; clear ha a; intro a ha
              refine stepo ha 118 KR ?_; clear ha a; intro a ha
              refine stepo ha 119 KR ?_; clear ha a; intro a ha
              refine stepo ha 120 KR ?_; clear ha a; intro a ha
              refine stepo ha 121 KR ?_; clear ha a; intro a ha
              refine stepp ha 122 (.bool true) KR KR ?_; clear ha a; intro a ha
              refine endl ?_
              refine thenN (hK3533 _ _ ?_); clear hK3533
              refine condT ha KR KR (t := true) (rfl) ?_
              refine wp_seq_k (fun K3563 hK3564 => ?_)
              refine wp_region_lit ?_
              refine stepp ha 6 (.bool false) KR KR ?_; clear ha a; intro a ha
              refine endl ?_
              refine thenN (hK3564 _ _ ?_); clear hK3564
              refine wp_ret ?_
              refine blkR ?_
              refine thenR ?_
              refine thenR ?_
              refine blkR ?_
              refine thenR ?_
              obtain rfl := Option.some.inj h
              exact finv ha _ _ rfl (.tmp (v := .bool false) KR .nil) (.bool false) rfl ⟨rfl, HW.pick [] [] (by decide) (by decide) rfl KR⟩
          · skip
            replace h := ite_neg' h hp3534
            replace ha := ha.bool 68 KR (ineq_t hp3534)
            refine stepo ha 69 KR ?_; clear ha a; intro a ha
            refine stepo ha 70 KR ?_; clear ha a; intro a ha
            refine stepp ha 71 (.bool true) KR KR ?_; clear ha a; intro a ha
            refine stepp ha 72 (.bool true) KR KR ?_; clear ha a; intro a ha
            refine stepo ha 73 KR ?_; clear ha a; intro a ha
            refine stepo ha 74 KR ?_; clear ha a; intro a ha
            refine stepp ha 75 (.bool true) KR KR ?_; clear ha a; intro a ha
            refine stepp ha 76 (.bool true) KR KR ?_; clear ha a; intro a ha
            refine stepo ha 77 KR ?_; clear ha a; intro a ha
            refine stepo ha 78 KR ?_; clear ha a; intro a ha
            refine stepp ha 79 (.bool true) KR KR ?_; clear ha a; intro a ha
            refine stepp ha 80 (.bool true) KR KR ?_; clear ha a; intro a ha
            refine stepo ha 81 KR ?_; clear ha a; intro a ha
            refine stepo ha 82 KR ?_; clear ha a; intro a ha
            refine stepo ha 83 KR ?_; clear ha a; intro a ha
            refine stepp ha 84 (.bool true) KR KR ?_; clear ha a; intro a ha
            refine stepp ha 85 (.bool true) KR KR ?_; clear ha a; intro a ha
            refine stepo ha 86 KR ?_; clear ha a; intro a ha
            refine stepo ha 87 KR ?_; clear ha a; intro a ha
            refine stepo ha 88 KR ?_; clear ha a; intro a ha
            refine stepp ha 89 (.bool true) KR KR ?_; clear ha a; intro a ha
            refine stepp ha 90 (.bool true) KR KR ?_; clear ha a; intro a ha
            refine stepo ha 91 KR ?_; clear ha a; intro a ha
            refine stepo ha 92 KR ?_; clear ha a; intro a ha
            refine stepo ha 93 KR ?_; clear ha a; intro a ha
            refine stepo ha 94 KR ?_; clear ha a; intro a ha
            refine stepo ha 95 KR ?_; clear ha a; intro a ha
            refine stepp ha 96 (.bool true) KR KR ?_; clear ha a; intro a ha
            refine stepp ha 97 (.bool true) KR KR ?_; clear ha a; intro a ha
            refine stepo ha 98 KR ?_; clear ha a; intro a ha
            refine stepo ha 99 KR ?_; clear ha a; intro a ha
            refine stepo ha 100 KR ?_; clear ha a; intro a ha
            refine stepo ha 101 KR ?_; clear ha a; intro a ha
            refine stepo ha 102 KR ?_; clear ha a; intro a ha
            refine stepp ha 103 (.bool true) KR KR ?_; clear ha a; intro a ha
            refine stepp ha 104 (.bool true) KR KR ?_; clear ha a; intro a ha
            refine stepo ha 105 KR ?_; clear ha a; intro a ha
            refine stepo ha 106 KR ?_; clear ha a; intro a ha
            refine stepo ha 107 KR ?_; clear ha a; intro a ha
            refine stepo ha 108 KR ?_; clear ha a; intro a ha
            refine stepo ha 109 KR ?_; clear ha a; intro a ha
            refine stepp ha 110 (.bool true) KR KR ?_; clear ha a; intro a ha
            refine stepp ha 111 (.bool true) KR KR ?_; clear ha a; intro a ha
            refine stepo ha 112 KR ?_; clear ha a; intro a ha
            refine stepo ha 113 KR ?_; clear ha a; intro a ha
            refine stepo ha 114 KR ?_; clear ha a; intro a ha
            refine stepo ha 115 KR ?_; clear ha a; intro a ha
            refine stepp ha 116 (.bool true) KR KR ?_; clear ha a; intro a ha
            refine stepp ha 117 (.bool true) KR KR ?_; clear ha a; intro a ha
            refine stepo ha 118 KR ?_; clear ha a; intro a ha
            refine stepo ha 119 KR ?_; clear ha a; intro a ha
            refine stepo ha 120 KR ?_; clear ha a; intro a ha
            refine stepo ha 121 KR ?_; clear ha a; intro a ha
            refine stepp ha 122 (.bool true) KR KR ?_; clear ha a; intro a ha
            refine endl ?_
            refine thenN (hK3533 _ _ ?_); clear hK3533
            refine condT ha KR KR (t := true) (rfl) ?_
            refine wp_seq_k (fun K3565 hK3566 => ?_)
            refine wp_region_lit ?_
            refine stepp ha 6 (.bool false) KR KR ?_; clear ha a; intro a ha
            refine endl ?_
            refine thenN (hK3566 _ _ ?_); clear hK3566
            refine wp_ret ?_
            refine blkR ?_
            refine thenR ?_
            refine thenR ?_
            refine blkR ?_
            refine thenR ?_
            obtain rfl := Option.some.inj h
            exact finv ha _ _ rfl (.tmp (v := .bool false) KR .nil) (.bool false) rfl ⟨rfl, HW.pick [] [] (by decide) (by decide) rfl KR⟩
      · skip
        replace h := ite_neg' h hp3479
        refine condF ha KR KR (t := decide (x3471 < 2)) (decide_eq_false hp3479) ?_
        refine wp_exit ?_
        refine thenE ?_
        refine thenE ?_
        refine inBlk ?_
        refine thenN (hK3289 _ _ ?_); clear hK3289
        refine wp_seq_k (fun K3567 hK3568 => ?_)
        refine wp_region_lit ?_
        obtain ⟨t3569, ht3570, h_⟩ := bind_some' h; clear h; have h := h_; clear h_
        refine stepc ha 123 KR KR (headgatelaw15_wakes.calls K t3569 _ (HW.ca0 hG0) (HW.ca0 hG1) ht3570) ?_; clear ha a; rintro e W3571 ⟨rfl, HX3572⟩
        refine ⟨_, rfl, ?_⟩; intro a ha; replace HW := HW.callw HX3572; clear HX3572
        refine stepp ha 6 (.bool t3569) KR KR ?_; clear ha a; intro a ha
        refine endl ?_
        refine thenN (hK3568 _ _ ?_); clear hK3568
        refine wp_ret ?_
        obtain rfl := Option.some.inj h
        exact finv ha _ _ rfl (.tmp (v := .bool t3569) KR .nil) (.bool t3569) rfl ⟨rfl, HW.pick [] [] (by decide) (by decide) rfl KR⟩
end Go.Proofs.YtpjcipadjegmlaaDoor.F
