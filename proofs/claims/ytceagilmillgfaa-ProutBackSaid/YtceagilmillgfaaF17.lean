/- headgate/prout.same: a plain function, and that the call comes to what it says. No condition. -/
import Derived.Test.YtceagilmillgfaaFT
namespace Go.Proofs.Ytceagilmillgfaa.F
open Go Go.RowKit Go.Proofs.Ytceagilmillgfaa.X
set_option linter.unusedVariables false
set_option linter.unusedSimpArgs false
/-! ### headgate/prout.same: function 17 -/
def prout_same.f (a0 : T_api_Cmd) (a1 : T_api_Cmd) : Option Bool :=
  if a0.f0 = a1.f0 then (if a0.f1 = a1.f1 then (if a0.f2 = a1.f2 then (if a0.f3 = a1.f3 then (if a0.f4 = a1.f4 then (if a0.f5 = a1.f5 then (if a0.f6 = a1.f6 then (if (a0.f7.length : Int) = (a1.f7.length : Int) then (if a0.f8 = a1.f8 then (if a0.f9 = a1.f9 then (if a0.f10 = a1.f10 then (if a0.f11 = a1.f11 then (if a0.f12 = a1.f12 then (some (a0.f13 == a1.f13)) else (some false)) else (some false)) else (some false)) else (some false)) else (some false)) else (some false)) else (some false)) else (some false)) else (some false)) else (some false)) else (some false)) else (some false)) else (some false)
set_option maxRecDepth 100000 in
set_option maxHeartbeats 4000000 in
theorem prout_same.calls (a0 : T_api_Cmd) (a1 : T_api_Cmd) (A0_0 : Option Addr) (c0_0 : Nat) (A1_1 : Option Addr) (c1_1 : Nat) (r : Bool) (w : World) (hr0_0 : Rd 2 w (.slice A0_0 a0.f7.length c0_0) a0.f7.length (encs T_api_Range.enc a0.f7)) (hr1_1 : Rd 2 w (.slice A1_1 a1.f7.length c1_1) a1.f7.length (encs T_api_Range.enc a1.f7)) (h : prout_same.f a0 a1 = some r) :
    Calls Try.prog 17 #[.agg #[.int .i64 a0.f0, .int .i64 a0.f1, .string a0.f2, .int .i64 a0.f3, .int .i64 a0.f4, .string a0.f5, .bool a0.f6, .slice A0_0 a0.f7.length c0_0, .int .u64 a0.f8, .int .u64 a0.f9, .int .u64 a0.f10, .int .i64 a0.f11, .bool a0.f12, .int .i64 a0.f13], .agg #[.int .i64 a1.f0, .int .i64 a1.f1, .string a1.f2, .int .i64 a1.f3, .int .i64 a1.f4, .string a1.f5, .bool a1.f6, .slice A1_1 a1.f7.length c1_1, .int .u64 a1.f8, .int .u64 a1.f9, .int .u64 a1.f10, .int .i64 a1.f11, .bool a1.f12, .int .i64 a1.f13]] w (fun e W' => e = .returned (.bool r) ∧ Wd w W' [] [] ) := by
  refine sxstart (n := 103) (l := [(0, .agg #[.int .i64 a0.f0, .int .i64 a0.f1, .string a0.f2, .int .i64 a0.f3, .int .i64 a0.f4, .string a0.f5, .bool a0.f6, .slice A0_0 a0.f7.length c0_0, .int .u64 a0.f8, .int .u64 a0.f9, .int .u64 a0.f10, .int .i64 a0.f11, .bool a0.f12, .int .i64 a0.f13]), (1, .agg #[.int .i64 a1.f0, .int .i64 a1.f1, .string a1.f2, .int .i64 a1.f3, .int .i64 a1.f4, .string a1.f5, .bool a1.f6, .slice A1_1 a1.f7.length c1_1, .int .u64 a1.f8, .int .u64 a1.f9, .int .u64 a1.f10, .int .i64 a1.f11, .bool a1.f12, .int .i64 a1.f13])]) Try.func17 rfl rfl (Nat.le_of_ble_eq_true (by kernel_rfl)) (subsA_cons rfl (subsA_cons rfl (subsA_nil _))) ?_
  intro a ha
  have HW := Wd.refl w
  unfold prout_same.f at h
  refine wp_seq_k (fun K490 hK491 => ?_)
  refine wp_region_lit ?_
  refine stepnew ha HW 2 #[.int .i64 a0.f0, .int .i64 a0.f1, .string a0.f2, .int .i64 a0.f3, .int .i64 a0.f4, .string a0.f5, .bool a0.f6, .slice A0_0 a0.f7.length c0_0, .int .u64 a0.f8, .int .u64 a0.f9, .int .u64 a0.f10, .int .i64 a0.f11, .bool a0.f12, .int .i64 a0.f13] 26 (by kernel_rfl) (by kernel_rfl) ?_; clear ha HW a; intro b492 a W493 HW ha
  refine stepnew ha HW 3 #[.int .i64 a1.f0, .int .i64 a1.f1, .string a1.f2, .int .i64 a1.f3, .int .i64 a1.f4, .string a1.f5, .bool a1.f6, .slice A1_1 a1.f7.length c1_1, .int .u64 a1.f8, .int .u64 a1.f9, .int .u64 a1.f10, .int .i64 a1.f11, .bool a1.f12, .int .i64 a1.f13] 26 (by kernel_rfl) (by kernel_rfl) ?_; clear ha HW a; intro b494 a W495 HW ha
  refine stepp ha 4 (.bool false) (by kernel_rfl) (by kernel_rfl) ?_; clear ha a; intro a ha
  refine endl ?_
  refine thenN (hK491 _ _ ?_); clear hK491
  refine wp_seq_k (fun K496 hK497 => ?_)
  refine wp_region_lit ?_
  refine stepp ha 5 (.pointer (some ⟨b492, 0, none⟩)) (by kernel_rfl) (by kernel_rfl) ?_; clear ha a; intro a ha
  refine stepl ha 6 (HW.ca (i := 1) (b := b492) (C := #[.int .i64 a0.f0, .int .i64 a0.f1, .string a0.f2, .int .i64 a0.f3, .int .i64 a0.f4, .string a0.f5, .bool a0.f6, .slice A0_0 a0.f7.length c0_0, .int .u64 a0.f8, .int .u64 a0.f9, .int .u64 a0.f10, .int .i64 a0.f11, .bool a0.f12, .int .i64 a0.f13]) (T := 26) (fr := (0, 0)) (by kernel_rfl)) 3 0 (.tmp 5) (.int .i64 a0.f0) rfl (by kernel_rfl) (by kernel_rfl) (by kernel_rfl) ?_; clear ha a; intro a ha
  refine stepp ha 7 (.pointer (some ⟨b494, 0, none⟩)) (by kernel_rfl) (by kernel_rfl) ?_; clear ha a; intro a ha
  refine stepl ha 8 (HW.ca (i := 0) (b := b494) (C := #[.int .i64 a1.f0, .int .i64 a1.f1, .string a1.f2, .int .i64 a1.f3, .int .i64 a1.f4, .string a1.f5, .bool a1.f6, .slice A1_1 a1.f7.length c1_1, .int .u64 a1.f8, .int .u64 a1.f9, .int .u64 a1.f10, .int .i64 a1.f11, .bool a1.f12, .int .i64 a1.f13]) (T := 26) (fr := (0, 0)) (by kernel_rfl)) 3 0 (.tmp 7) (.int .i64 a1.f0) rfl (by kernel_rfl) (by kernel_rfl) (by kernel_rfl) ?_; clear ha a; intro a ha
  refine stepp ha 9 (.bool (a0.f0 == a1.f0)) (by kernel_rfl) (by kernel_rfl) ?_; clear ha a; intro a ha
  refine stepp ha 10 (.bool (a0.f0 == a1.f0)) (by kernel_rfl) (by kernel_rfl) ?_; clear ha a; intro a ha
  by_cases hp498 : a0.f0 = a1.f0
  · skip
    replace h := ite_pos' h hp498
    replace ha := ha.bool 10 (by kernel_rfl) (ieq_t hp498)
    refine stepp ha 11 (.pointer (some ⟨b492, 1, none⟩)) (by kernel_rfl) (by kernel_rfl) ?_; clear ha a; intro a ha
    refine stepl ha 12 (HW.ca (i := 1) (b := b492) (C := #[.int .i64 a0.f0, .int .i64 a0.f1, .string a0.f2, .int .i64 a0.f3, .int .i64 a0.f4, .string a0.f5, .bool a0.f6, .slice A0_0 a0.f7.length c0_0, .int .u64 a0.f8, .int .u64 a0.f9, .int .u64 a0.f10, .int .i64 a0.f11, .bool a0.f12, .int .i64 a0.f13]) (T := 26) (fr := (0, 0)) (by kernel_rfl)) 3 1 (.tmp 11) (.int .i64 a0.f1) rfl (by kernel_rfl) (by kernel_rfl) (by kernel_rfl) ?_; clear ha a; intro a ha
    refine stepp ha 13 (.pointer (some ⟨b494, 1, none⟩)) (by kernel_rfl) (by kernel_rfl) ?_; clear ha a; intro a ha
    refine stepl ha 14 (HW.ca (i := 0) (b := b494) (C := #[.int .i64 a1.f0, .int .i64 a1.f1, .string a1.f2, .int .i64 a1.f3, .int .i64 a1.f4, .string a1.f5, .bool a1.f6, .slice A1_1 a1.f7.length c1_1, .int .u64 a1.f8, .int .u64 a1.f9, .int .u64 a1.f10, .int .i64 a1.f11, .bool a1.f12, .int .i64 a1.f13]) (T := 26) (fr := (0, 0)) (by kernel_rfl)) 3 1 (.tmp 13) (.int .i64 a1.f1) rfl (by kernel_rfl) (by kernel_rfl) (by kernel_rfl) ?_; clear ha a; intro a ha
    refine stepp ha 15 (.bool (a0.f1 == a1.f1)) (by kernel_rfl) (by kernel_rfl) ?_; clear ha a; intro a ha
    refine stepp ha 16 (.bool (a0.f1 == a1.f1)) (by kernel_rfl) (by kernel_rfl) ?_; clear ha a; intro a ha
    refine stepp ha 17 (.bool (a0.f1 == a1.f1)) (by kernel_rfl) (by kernel_rfl) ?_; clear ha a; intro a ha
    by_cases hp499 : a0.f1 = a1.f1
    · skip
      replace h := ite_pos' h hp499
      replace ha := ha.bool 17 (by kernel_rfl) (ieq_t hp499)
      refine stepp ha 18 (.pointer (some ⟨b492, 2, none⟩)) (by kernel_rfl) (by kernel_rfl) ?_; clear ha a; intro a ha
      refine stepl ha 19 (HW.ca (i := 1) (b := b492) (C := #[.int .i64 a0.f0, .int .i64 a0.f1, .string a0.f2, .int .i64 a0.f3, .int .i64 a0.f4, .string a0.f5, .bool a0.f6, .slice A0_0 a0.f7.length c0_0, .int .u64 a0.f8, .int .u64 a0.f9, .int .u64 a0.f10, .int .i64 a0.f11, .bool a0.f12, .int .i64 a0.f13]) (T := 26) (fr := (0, 0)) (by kernel_rfl)) 9 2 (.tmp 18) (.string a0.f2) rfl (by kernel_rfl) (by kernel_rfl) (by kernel_rfl) ?_; clear ha a; intro a ha
      refine stepp ha 20 (.pointer (some ⟨b494, 2, none⟩)) (by kernel_rfl) (by kernel_rfl) ?_; clear ha a; intro a ha
      refine stepl ha 21 (HW.ca (i := 0) (b := b494) (C := #[.int .i64 a1.f0, .int .i64 a1.f1, .string a1.f2, .int .i64 a1.f3, .int .i64 a1.f4, .string a1.f5, .bool a1.f6, .slice A1_1 a1.f7.length c1_1, .int .u64 a1.f8, .int .u64 a1.f9, .int .u64 a1.f10, .int .i64 a1.f11, .bool a1.f12, .int .i64 a1.f13]) (T := 26) (fr := (0, 0)) (by kernel_rfl)) 9 2 (.tmp 20) (.string a1.f2) rfl (by kernel_rfl) (by kernel_rfl) (by kernel_rfl) ?_; clear ha a; intro a ha
      refine stepp ha 22 (.bool (a0.f2.toList == a1.f2.toList)) (by kernel_rfl) (by kernel_rfl) ?_; clear ha a; intro a ha
      refine stepp ha 23 (.bool (a0.f2.toList == a1.f2.toList)) (by kernel_rfl) (by kernel_rfl) ?_; clear ha a; intro a ha
      refine stepp ha 24 (.bool (a0.f2.toList == a1.f2.toList)) (by kernel_rfl) (by kernel_rfl) ?_; clear ha a; intro a ha
      by_cases hp500 : a0.f2 = a1.f2
      · skip
        replace h := ite_pos' h hp500
        replace ha := ha.bool 24 (by kernel_rfl) (str_eq_t hp500)
        refine stepp ha 25 (.pointer (some ⟨b492, 3, none⟩)) (by kernel_rfl) (by kernel_rfl) ?_; clear ha a; intro a ha
        refine stepl ha 26 (HW.ca (i := 1) (b := b492) (C := #[.int .i64 a0.f0, .int .i64 a0.f1, .string a0.f2, .int .i64 a0.f3, .int .i64 a0.f4, .string a0.f5, .bool a0.f6, .slice A0_0 a0.f7.length c0_0, .int .u64 a0.f8, .int .u64 a0.f9, .int .u64 a0.f10, .int .i64 a0.f11, .bool a0.f12, .int .i64 a0.f13]) (T := 26) (fr := (0, 0)) (by kernel_rfl)) 3 3 (.tmp 25) (.int .i64 a0.f3) rfl (by kernel_rfl) (by kernel_rfl) (by kernel_rfl) ?_; clear ha a; intro a ha
        refine stepp ha 27 (.pointer (some ⟨b494, 3, none⟩)) (by kernel_rfl) (by kernel_rfl) ?_; clear ha a; intro a ha
        refine stepl ha 28 (HW.ca (i := 0) (b := b494) (C := #[.int .i64 a1.f0, .int .i64 a1.f1, .string a1.f2, .int .i64 a1.f3, .int .i64 a1.f4, .string a1.f5, .bool a1.f6, .slice A1_1 a1.f7.length c1_1, .int .u64 a1.f8, .int .u64 a1.f9, .int .u64 a1.f10, .int .i64 a1.f11, .bool a1.f12, .int .i64 a1.f13]) (T := 26) (fr := (0, 0)) (by kernel_rfl)) 3 3 (.tmp 27) (.int .i64 a1.f3) rfl (by kernel_rfl) (by kernel_rfl) (by kernel_rfl) ?_; clear ha a; intro a ha
        refine stepp ha 29 (.bool (a0.f3 == a1.f3)) (by kernel_rfl) (by kernel_rfl) ?_; clear ha a; intro a ha
        refine stepp ha 30 (.bool (a0.f3 == a1.f3)) (by kernel_rfl) (by kernel_rfl) ?_; clear ha a; intro a ha
        refine stepp ha 31 (.bool (a0.f3 == a1.f3)) (by kernel_rfl) (by kernel_rfl) ?_; clear ha a; intro a ha
        by_cases hp501 : a0.f3 = a1.f3
        · skip
          replace h := ite_pos' h hp501
          replace ha := ha.bool 31 (by kernel_rfl) (ieq_t hp501)
          refine stepp ha 32 (.pointer (some ⟨b492, 4, none⟩)) (by kernel_rfl) (by kernel_rfl) ?_; clear ha a; intro a ha
          refine stepl ha 33 (HW.ca (i := 1) (b := b492) (C := #[.int .i64 a0.f0, .int .i64 a0.f1, .string a0.f2, .int .i64 a0.f3, .int .i64 a0.f4, .string a0.f5, .bool a0.f6, .slice A0_0 a0.f7.length c0_0, .int .u64 a0.f8, .int .u64 a0.f9, .int .u64 a0.f10, .int .i64 a0.f11, .bool a0.f12, .int .i64 a0.f13]) (T := 26) (fr := (0, 0)) (by kernel_rfl)) 3 4 (.tmp 32) (.int .i64 a0.f4) rfl (by kernel_rfl) (by kernel_rfl) (by kernel_rfl) ?_; clear ha a; intro a ha
          refine stepp ha 34 (.pointer (some ⟨b494, 4, none⟩)) (by kernel_rfl) (by kernel_rfl) ?_; clear ha a; intro a ha
          refine stepl ha 35 (HW.ca (i := 0) (b := b494) (C := #[.int .i64 a1.f0, .int .i64 a1.f1, .string a1.f2, .int .i64 a1.f3, .int .i64 a1.f4, .string a1.f5, .bool a1.f6, .slice A1_1 a1.f7.length c1_1, .int .u64 a1.f8, .int .u64 a1.f9, .int .u64 a1.f10, .int .i64 a1.f11, .bool a1.f12, .int .i64 a1.f13]) (T := 26) (fr := (0, 0)) (by kernel_rfl)) 3 4 (.tmp 34) (.int .i64 a1.f4) rfl (by kernel_rfl) (by kernel_rfl) (by kernel_rfl) ?_; clear ha a; intro a ha
          refine stepp ha 36 (.bool (a0.f4 == a1.f4)) (by kernel_rfl) (by kernel_rfl) ?_; clear ha a; intro a ha
          refine stepp ha 37 (.bool (a0.f4 == a1.f4)) (by kernel_rfl) (by kernel_rfl) ?_; clear ha a; intro a ha
          refine stepp ha 38 (.bool (a0.f4 == a1.f4)) (by kernel_rfl) (by kernel_rfl) ?_; clear ha a; intro a ha
          by_cases hp502 : a0.f4 = a1.f4
          · skip
            replace h := ite_pos' h hp502
            replace ha := ha.bool 38 (by kernel_rfl) (ieq_t hp502)
            refine stepp ha 39 (.pointer (some ⟨b492, 5, none⟩)) (by kernel_rfl) (by kernel_rfl) ?_; clear ha a; intro a ha
            refine stepl ha 40 (HW.ca (i := 1) (b := b492) (C := #[.int .i64 a0.f0, .int .i64 a0.f1, .string a0.f2, .int .i64 a0.f3, .int .i64 a0.f4, .string a0.f5, .bool a0.f6, .slice A0_0 a0.f7.length c0_0, .int .u64 a0.f8, .int .u64 a0.f9, .int .u64 a0.f10, .int .i64 a0.f11, .bool a0.f12, .int .i64 a0.f13]) (T := 26) (fr := (0, 0)) (by kernel_rfl)) 9 5 (.tmp 39) (.string a0.f5) rfl (by kernel_rfl) (by kernel_rfl) (by kernel_rfl) ?_; clear ha a; intro a ha
            refine stepp ha 41 (.pointer (some ⟨b494, 5, none⟩)) (by kernel_rfl) (by kernel_rfl) ?_; clear ha a; intro a ha
            refine stepl ha 42 (HW.ca (i := 0) (b := b494) (C := #[.int .i64 a1.f0, .int .i64 a1.f1, .string a1.f2, .int .i64 a1.f3, .int .i64 a1.f4, .string a1.f5, .bool a1.f6, .slice A1_1 a1.f7.length c1_1, .int .u64 a1.f8, .int .u64 a1.f9, .int .u64 a1.f10, .int .i64 a1.f11, .bool a1.f12, .int .i64 a1.f13]) (T := 26) (fr := (0, 0)) (by kernel_rfl)) 9 5 (.tmp 41) (.string a1.f5) rfl (by kernel_rfl) (by kernel_rfl) (by kernel_rfl) ?_; clear ha a; intro a ha
            refine stepp ha 43 (.bool (a0.f5.toList == a1.f5.toList)) (by kernel_rfl) (by kernel_rfl) ?_; clear ha a; intro a ha
            refine stepp ha 44 (.bool (a0.f5.toList == a1.f5.toList)) (by kernel_rfl) (by kernel_rfl) ?_; clear ha a; intro a ha
            refine stepp ha 45 (.bool (a0.f5.toList == a1.f5.toList)) (by kernel_rfl) (by kernel_rfl) ?_; clear ha a; intro a ha
            by_cases hp503 : a0.f5 = a1.f5
            · skip
              replace h := ite_pos' h hp503
              replace ha := ha.bool 45 (by kernel_rfl) (str_eq_t hp503)
              refine stepp ha 46 (.pointer (some ⟨b492, 6, none⟩)) (by kernel_rfl) (by kernel_rfl) ?_; clear ha a; intro a ha
              refine stepl ha 47 (HW.ca (i := 1) (b := b492) (C := #[.int .i64 a0.f0, .int .i64 a0.f1, .string a0.f2, .int .i64 a0.f3, .int .i64 a0.f4, .string a0.f5, .bool a0.f6, .slice A0_0 a0.f7.length c0_0, .int .u64 a0.f8, .int .u64 a0.f9, .int .u64 a0.f10, .int .i64 a0.f11, .bool a0.f12, .int .i64 a0.f13]) (T := 26) (fr := (0, 0)) (by kernel_rfl)) 4 6 (.tmp 46) (.bool a0.f6) rfl (by kernel_rfl) (by kernel_rfl) (by kernel_rfl) ?_; clear ha a; intro a ha
              refine stepp ha 48 (.pointer (some ⟨b494, 6, none⟩)) (by kernel_rfl) (by kernel_rfl) ?_; clear ha a; intro a ha
              refine stepl ha 49 (HW.ca (i := 0) (b := b494) (C := #[.int .i64 a1.f0, .int .i64 a1.f1, .string a1.f2, .int .i64 a1.f3, .int .i64 a1.f4, .string a1.f5, .bool a1.f6, .slice A1_1 a1.f7.length c1_1, .int .u64 a1.f8, .int .u64 a1.f9, .int .u64 a1.f10, .int .i64 a1.f11, .bool a1.f12, .int .i64 a1.f13]) (T := 26) (fr := (0, 0)) (by kernel_rfl)) 4 6 (.tmp 48) (.bool a1.f6) rfl (by kernel_rfl) (by kernel_rfl) (by kernel_rfl) ?_; clear ha a; intro a ha
              refine stepp ha 50 (.bool (a0.f6 == a1.f6)) (by kernel_rfl) (by kernel_rfl) ?_; clear ha a; intro a ha
              refine stepp ha 51 (.bool (a0.f6 == a1.f6)) (by kernel_rfl) (by kernel_rfl) ?_; clear ha a; intro a ha
              refine stepp ha 52 (.bool (a0.f6 == a1.f6)) (by kernel_rfl) (by kernel_rfl) ?_; clear ha a; intro a ha
              by_cases hp504 : a0.f6 = a1.f6
              · skip
                replace h := ite_pos' h hp504
                replace ha := ha.bool 52 (by kernel_rfl) (beq_t hp504)
                refine stepp ha 53 (.pointer (some ⟨b492, 7, none⟩)) (by kernel_rfl) (by kernel_rfl) ?_; clear ha a; intro a ha
                refine stepl ha 54 (HW.ca (i := 1) (b := b492) (C := #[.int .i64 a0.f0, .int .i64 a0.f1, .string a0.f2, .int .i64 a0.f3, .int .i64 a0.f4, .string a0.f5, .bool a0.f6, .slice A0_0 a0.f7.length c0_0, .int .u64 a0.f8, .int .u64 a0.f9, .int .u64 a0.f10, .int .i64 a0.f11, .bool a0.f12, .int .i64 a0.f13]) (T := 26) (fr := (0, 0)) (by kernel_rfl)) 23 7 (.tmp 53) (.slice A0_0 a0.f7.length c0_0) rfl (by kernel_rfl) (by kernel_rfl) (by kernel_rfl) ?_; clear ha a; intro a ha
                refine stepp ha 55 (.int .i64 (a0.f7.length : Int)) (by kernel_rfl) (by kernel_rfl) ?_; clear ha a; intro a ha
                refine stepp ha 56 (.pointer (some ⟨b494, 7, none⟩)) (by kernel_rfl) (by kernel_rfl) ?_; clear ha a; intro a ha
                refine stepl ha 57 (HW.ca (i := 0) (b := b494) (C := #[.int .i64 a1.f0, .int .i64 a1.f1, .string a1.f2, .int .i64 a1.f3, .int .i64 a1.f4, .string a1.f5, .bool a1.f6, .slice A1_1 a1.f7.length c1_1, .int .u64 a1.f8, .int .u64 a1.f9, .int .u64 a1.f10, .int .i64 a1.f11, .bool a1.f12, .int .i64 a1.f13]) (T := 26) (fr := (0, 0)) (by kernel_rfl)) 23 7 (.tmp 56) (.slice A1_1 a1.f7.length c1_1) rfl (by kernel_rfl) (by kernel_rfl) (by kernel_rfl) ?_; clear ha a; intro a ha
                refine stepp ha 58 (.int .i64 (a1.f7.length : Int)) (by kernel_rfl) (by kernel_rfl) ?_; clear ha a; intro a ha
                refine stepp ha 59 (.bool ((a0.f7.length : Int) == (a1.f7.length : Int))) (by kernel_rfl) (by kernel_rfl) ?_; clear ha a; intro a ha
                refine stepp ha 60 (.bool ((a0.f7.length : Int) == (a1.f7.length : Int))) (by kernel_rfl) (by kernel_rfl) ?_; clear ha a; intro a ha
                refine stepp ha 61 (.bool ((a0.f7.length : Int) == (a1.f7.length : Int))) (by kernel_rfl) (by kernel_rfl) ?_; clear ha a; intro a ha
                by_cases hp505 : (a0.f7.length : Int) = (a1.f7.length : Int)
                · skip
                  replace h := ite_pos' h hp505
                  replace ha := ha.bool 61 (by kernel_rfl) (ieq_t hp505)
                  refine stepp ha 62 (.pointer (some ⟨b492, 8, none⟩)) (by kernel_rfl) (by kernel_rfl) ?_; clear ha a; intro a ha
                  refine stepl ha 63 (HW.ca (i := 1) (b := b492) (C := #[.int .i64 a0.f0, .int .i64 a0.f1, .string a0.f2, .int .i64 a0.f3, .int .i64 a0.f4, .string a0.f5, .bool a0.f6, .slice A0_0 a0.f7.length c0_0, .int .u64 a0.f8, .int .u64 a0.f9, .int .u64 a0.f10, .int .i64 a0.f11, .bool a0.f12, .int .i64 a0.f13]) (T := 26) (fr := (0, 0)) (by kernel_rfl)) 24 8 (.tmp 62) (.int .u64 a0.f8) rfl (by kernel_rfl) (by kernel_rfl) (by kernel_rfl) ?_; clear ha a; intro a ha
                  refine stepp ha 64 (.pointer (some ⟨b494, 8, none⟩)) (by kernel_rfl) (by kernel_rfl) ?_; clear ha a; intro a ha
                  refine stepl ha 65 (HW.ca (i := 0) (b := b494) (C := #[.int .i64 a1.f0, .int .i64 a1.f1, .string a1.f2, .int .i64 a1.f3, .int .i64 a1.f4, .string a1.f5, .bool a1.f6, .slice A1_1 a1.f7.length c1_1, .int .u64 a1.f8, .int .u64 a1.f9, .int .u64 a1.f10, .int .i64 a1.f11, .bool a1.f12, .int .i64 a1.f13]) (T := 26) (fr := (0, 0)) (by kernel_rfl)) 24 8 (.tmp 64) (.int .u64 a1.f8) rfl (by kernel_rfl) (by kernel_rfl) (by kernel_rfl) ?_; clear ha a; intro a ha
                  refine stepp ha 66 (.bool (a0.f8 == a1.f8)) (by kernel_rfl) (by kernel_rfl) ?_; clear ha a; intro a ha
                  refine stepp ha 67 (.bool (a0.f8 == a1.f8)) (by kernel_rfl) (by kernel_rfl) ?_; clear ha a; intro a ha
                  refine stepp ha 68 (.bool (a0.f8 == a1.f8)) (by kernel_rfl) (by kernel_rfl) ?_; clear ha a; intro a ha
                  by_cases hp506 : a0.f8 = a1.f8
                  · skip
                    replace h := ite_pos' h hp506
                    replace ha := ha.bool 68 (by kernel_rfl) (ieq_t hp506)
                    refine stepp ha 69 (.pointer (some ⟨b492, 9, none⟩)) (by kernel_rfl) (by kernel_rfl) ?_; clear ha a; intro a ha
                    refine stepl ha 70 (HW.ca (i := 1) (b := b492) (C := #[.int .i64 a0.f0, .int .i64 a0.f1, .string a0.f2, .int .i64 a0.f3, .int .i64 a0.f4, .string a0.f5, .bool a0.f6, .slice A0_0 a0.f7.length c0_0, .int .u64 a0.f8, .int .u64 a0.f9, .int .u64 a0.f10, .int .i64 a0.f11, .bool a0.f12, .int .i64 a0.f13]) (T := 26) (fr := (0, 0)) (by kernel_rfl)) 24 9 (.tmp 69) (.int .u64 a0.f9) rfl (by kernel_rfl) (by kernel_rfl) (by kernel_rfl) ?_; clear ha a; intro a ha
                    refine stepp ha 71 (.pointer (some ⟨b494, 9, none⟩)) (by kernel_rfl) (by kernel_rfl) ?_; clear ha a; intro a ha
                    refine stepl ha 72 (HW.ca (i := 0) (b := b494) (C := #[.int .i64 a1.f0, .int .i64 a1.f1, .string a1.f2, .int .i64 a1.f3, .int .i64 a1.f4, .string a1.f5, .bool a1.f6, .slice A1_1 a1.f7.length c1_1, .int .u64 a1.f8, .int .u64 a1.f9, .int .u64 a1.f10, .int .i64 a1.f11, .bool a1.f12, .int .i64 a1.f13]) (T := 26) (fr := (0, 0)) (by kernel_rfl)) 24 9 (.tmp 71) (.int .u64 a1.f9) rfl (by kernel_rfl) (by kernel_rfl) (by kernel_rfl) ?_; clear ha a; intro a ha
                    refine stepp ha 73 (.bool (a0.f9 == a1.f9)) (by kernel_rfl) (by kernel_rfl) ?_; clear ha a; intro a ha
                    refine stepp ha 74 (.bool (a0.f9 == a1.f9)) (by kernel_rfl) (by kernel_rfl) ?_; clear ha a; intro a ha
                    refine stepp ha 75 (.bool (a0.f9 == a1.f9)) (by kernel_rfl) (by kernel_rfl) ?_; clear ha a; intro a ha
                    by_cases hp507 : a0.f9 = a1.f9
                    · skip
                      replace h := ite_pos' h hp507
                      replace ha := ha.bool 75 (by kernel_rfl) (ieq_t hp507)
                      refine stepp ha 76 (.pointer (some ⟨b492, 10, none⟩)) (by kernel_rfl) (by kernel_rfl) ?_; clear ha a; intro a ha
                      refine stepl ha 77 (HW.ca (i := 1) (b := b492) (C := #[.int .i64 a0.f0, .int .i64 a0.f1, .string a0.f2, .int .i64 a0.f3, .int .i64 a0.f4, .string a0.f5, .bool a0.f6, .slice A0_0 a0.f7.length c0_0, .int .u64 a0.f8, .int .u64 a0.f9, .int .u64 a0.f10, .int .i64 a0.f11, .bool a0.f12, .int .i64 a0.f13]) (T := 26) (fr := (0, 0)) (by kernel_rfl)) 24 10 (.tmp 76) (.int .u64 a0.f10) rfl (by kernel_rfl) (by kernel_rfl) (by kernel_rfl) ?_; clear ha a; intro a ha
                      refine stepp ha 78 (.pointer (some ⟨b494, 10, none⟩)) (by kernel_rfl) (by kernel_rfl) ?_; clear ha a; intro a ha
                      refine stepl ha 79 (HW.ca (i := 0) (b := b494) (C := #[.int .i64 a1.f0, .int .i64 a1.f1, .string a1.f2, .int .i64 a1.f3, .int .i64 a1.f4, .string a1.f5, .bool a1.f6, .slice A1_1 a1.f7.length c1_1, .int .u64 a1.f8, .int .u64 a1.f9, .int .u64 a1.f10, .int .i64 a1.f11, .bool a1.f12, .int .i64 a1.f13]) (T := 26) (fr := (0, 0)) (by kernel_rfl)) 24 10 (.tmp 78) (.int .u64 a1.f10) rfl (by kernel_rfl) (by kernel_rfl) (by kernel_rfl) ?_; clear ha a; intro a ha
                      refine stepp ha 80 (.bool (a0.f10 == a1.f10)) (by kernel_rfl) (by kernel_rfl) ?_; clear ha a; intro a ha
                      refine stepp ha 81 (.bool (a0.f10 == a1.f10)) (by kernel_rfl) (by kernel_rfl) ?_; clear ha a; intro a ha
                      refine stepp ha 82 (.bool (a0.f10 == a1.f10)) (by kernel_rfl) (by kernel_rfl) ?_; clear ha a; intro a ha
                      by_cases hp508 : a0.f10 = a1.f10
                      · skip
                        replace h := ite_pos' h hp508
                        replace ha := ha.bool 82 (by kernel_rfl) (ieq_t hp508)
                        refine stepp ha 83 (.pointer (some ⟨b492, 11, none⟩)) (by kernel_rfl) (by kernel_rfl) ?_; clear ha a; intro a ha
                        refine stepl ha 84 (HW.ca (i := 1) (b := b492) (C := #[.int .i64 a0.f0, .int .i64 a0.f1, .string a0.f2, .int .i64 a0.f3, .int .i64 a0.f4, .string a0.f5, .bool a0.f6, .slice A0_0 a0.f7.length c0_0, .int .u64 a0.f8, .int .u64 a0.f9, .int .u64 a0.f10, .int .i64 a0.f11, .bool a0.f12, .int .i64 a0.f13]) (T := 26) (fr := (0, 0)) (by kernel_rfl)) 3 11 (.tmp 83) (.int .i64 a0.f11) rfl (by kernel_rfl) (by kernel_rfl) (by kernel_rfl) ?_; clear ha a; intro a ha
                        refine stepp ha 85 (.pointer (some ⟨b494, 11, none⟩)) (by kernel_rfl) (by kernel_rfl) ?_; clear ha a; intro a ha
                        refine stepl ha 86 (HW.ca (i := 0) (b := b494) (C := #[.int .i64 a1.f0, .int .i64 a1.f1, .string a1.f2, .int .i64 a1.f3, .int .i64 a1.f4, .string a1.f5, .bool a1.f6, .slice A1_1 a1.f7.length c1_1, .int .u64 a1.f8, .int .u64 a1.f9, .int .u64 a1.f10, .int .i64 a1.f11, .bool a1.f12, .int .i64 a1.f13]) (T := 26) (fr := (0, 0)) (by kernel_rfl)) 3 11 (.tmp 85) (.int .i64 a1.f11) rfl (by kernel_rfl) (by kernel_rfl) (by kernel_rfl) ?_; clear ha a; intro a ha
                        refine stepp ha 87 (.bool (a0.f11 == a1.f11)) (by kernel_rfl) (by kernel_rfl) ?_; clear ha a; intro a ha
                        refine stepp ha 88 (.bool (a0.f11 == a1.f11)) (by kernel_rfl) (by kernel_rfl) ?_; clear ha a; intro a ha
                        refine stepp ha 89 (.bool (a0.f11 == a1.f11)) (by kernel_rfl) (by kernel_rfl) ?_; clear ha a; intro a ha
                        by_cases hp509 : a0.f11 = a1.f11
                        · skip
                          replace h := ite_pos' h hp509
                          replace ha := ha.bool 89 (by kernel_rfl) (ieq_t hp509)
                          refine stepp ha 90 (.pointer (some ⟨b492, 12, none⟩)) (by kernel_rfl) (by kernel_rfl) ?_; clear ha a; intro a ha
                          refine stepl ha 91 (HW.ca (i := 1) (b := b492) (C := #[.int .i64 a0.f0, .int .i64 a0.f1, .string a0.f2, .int .i64 a0.f3, .int .i64 a0.f4, .string a0.f5, .bool a0.f6, .slice A0_0 a0.f7.length c0_0, .int .u64 a0.f8, .int .u64 a0.f9, .int .u64 a0.f10, .int .i64 a0.f11, .bool a0.f12, .int .i64 a0.f13]) (T := 26) (fr := (0, 0)) (by kernel_rfl)) 4 12 (.tmp 90) (.bool a0.f12) rfl (by kernel_rfl) (by kernel_rfl) (by kernel_rfl) ?_; clear ha a; intro a ha
                          refine stepp ha 92 (.pointer (some ⟨b494, 12, none⟩)) (by kernel_rfl) (by kernel_rfl) ?_; clear ha a; intro a ha
                          refine stepl ha 93 (HW.ca (i := 0) (b := b494) (C := #[.int .i64 a1.f0, .int .i64 a1.f1, .string a1.f2, .int .i64 a1.f3, .int .i64 a1.f4, .string a1.f5, .bool a1.f6, .slice A1_1 a1.f7.length c1_1, .int .u64 a1.f8, .int .u64 a1.f9, .int .u64 a1.f10, .int .i64 a1.f11, .bool a1.f12, .int .i64 a1.f13]) (T := 26) (fr := (0, 0)) (by kernel_rfl)) 4 12 (.tmp 92) (.bool a1.f12) rfl (by kernel_rfl) (by kernel_rfl) (by kernel_rfl) ?_; clear ha a; intro a ha
                          refine stepp ha 94 (.bool (a0.f12 == a1.f12)) (by kernel_rfl) (by kernel_rfl) ?_; clear ha a; intro a ha
                          refine stepp ha 95 (.bool (a0.f12 == a1.f12)) (by kernel_rfl) (by kernel_rfl) ?_; clear ha a; intro a ha
                          refine stepp ha 96 (.bool (a0.f12 == a1.f12)) (by kernel_rfl) (by kernel_rfl) ?_; clear ha a; intro a ha
                          by_cases hp510 : a0.f12 = a1.f12
                          · skip
                            replace h := ite_pos' h hp510
                            replace ha := ha.bool 96 (by kernel_rfl) (beq_t hp510)
                            refine stepp ha 97 (.pointer (some ⟨b492, 13, none⟩)) (by kernel_rfl) (by kernel_rfl) ?_; clear ha a; intro a ha
                            refine stepl ha 98 (HW.ca (i := 1) (b := b492) (C := #[.int .i64 a0.f0, .int .i64 a0.f1, .string a0.f2, .int .i64 a0.f3, .int .i64 a0.f4, .string a0.f5, .bool a0.f6, .slice A0_0 a0.f7.length c0_0, .int .u64 a0.f8, .int .u64 a0.f9, .int .u64 a0.f10, .int .i64 a0.f11, .bool a0.f12, .int .i64 a0.f13]) (T := 26) (fr := (0, 0)) (by kernel_rfl)) 3 13 (.tmp 97) (.int .i64 a0.f13) rfl (by kernel_rfl) (by kernel_rfl) (by kernel_rfl) ?_; clear ha a; intro a ha
                            refine stepp ha 99 (.pointer (some ⟨b494, 13, none⟩)) (by kernel_rfl) (by kernel_rfl) ?_; clear ha a; intro a ha
                            refine stepl ha 100 (HW.ca (i := 0) (b := b494) (C := #[.int .i64 a1.f0, .int .i64 a1.f1, .string a1.f2, .int .i64 a1.f3, .int .i64 a1.f4, .string a1.f5, .bool a1.f6, .slice A1_1 a1.f7.length c1_1, .int .u64 a1.f8, .int .u64 a1.f9, .int .u64 a1.f10, .int .i64 a1.f11, .bool a1.f12, .int .i64 a1.f13]) (T := 26) (fr := (0, 0)) (by kernel_rfl)) 3 13 (.tmp 99) (.int .i64 a1.f13) rfl (by kernel_rfl) (by kernel_rfl) (by kernel_rfl) ?_; clear ha a; intro a ha
                            refine stepp ha 101 (.bool (a0.f13 == a1.f13)) (by kernel_rfl) (by kernel_rfl) ?_; clear ha a; intro a ha
                            refine stepp ha 102 (.bool (a0.f13 == a1.f13)) (by kernel_rfl) (by kernel_rfl) ?_; clear ha a; intro a ha
                            refine stepp ha 4 (.bool (a0.f13 == a1.f13)) (by kernel_rfl) (by kernel_rfl) ?_; clear ha a; intro a ha
                            refine endl ?_
                            refine thenN (hK497 _ _ ?_); clear hK497
                            refine wp_ret ?_
                            obtain rfl := Option.some.inj h
                            exact finv ha _ _ rfl (.tmp (v := .bool (a0.f13 == a1.f13)) (by kernel_rfl) .nil) (.bool (a0.f13 == a1.f13)) rfl ⟨rfl, HW.pick [] [] (by decide) (by decide) rfl (by kernel_rfl)⟩
                          · skip
                            replace h := ite_neg' h hp510
                            replace ha := ha.bool 96 (by kernel_rfl) (beq_f hp510)
                            refine stepo ha 97 (by kernel_rfl) ?_; clear ha a; intro a ha
                            refine stepo ha 98 (by kernel_rfl) ?_; clear ha a; intro a ha
                            refine stepo ha 99 (by kernel_rfl) ?_; clear ha a; intro a ha
                            refine stepo ha 100 (by kernel_rfl) ?_; clear ha a; intro a ha
                            refine stepo ha 101 (by kernel_rfl) ?_; clear ha a; intro a ha
                            refine stepp ha 102 (.bool false) (by kernel_rfl) (by kernel_rfl) ?_; clear ha a; intro a ha
                            refine stepp ha 4 (.bool false) (by kernel_rfl) (by kernel_rfl) ?_; clear ha a; intro a ha
                            refine endl ?_
                            refine thenN (hK497 _ _ ?_); clear hK497
                            refine wp_ret ?_
                            obtain rfl := Option.some.inj h
                            exact finv ha _ _ rfl (.tmp (v := .bool false) (by kernel_rfl) .nil) (.bool false) rfl ⟨rfl, HW.pick [] [] (by decide) (by decide) rfl (by kernel_rfl)⟩
                        · skip
                          replace h := ite_neg' h hp509
                          replace ha := ha.bool 89 (by kernel_rfl) (ieq_f hp509)
                          refine stepo ha 90 (by kernel_rfl) ?_; clear ha a; intro a ha
                          refine stepo ha 91 (by kernel_rfl) ?_; clear ha a; intro a ha
                          refine stepo ha 92 (by kernel_rfl) ?_; clear ha a; intro a ha
                          refine stepo ha 93 (by kernel_rfl) ?_; clear ha a; intro a ha
                          refine stepo ha 94 (by kernel_rfl) ?_; clear ha a; intro a ha
                          refine stepp ha 95 (.bool false) (by kernel_rfl) (by kernel_rfl) ?_; clear ha a; intro a ha
                          refine stepp ha 96 (.bool false) (by kernel_rfl) (by kernel_rfl) ?_; clear ha a; intro a ha
                          refine stepo ha 97 (by kernel_rfl) ?_; clear ha a; intro a ha
                          refine stepo ha 98 (by kernel_rfl) ?_; clear ha a; intro a ha
                          refine stepo ha 99 (by kernel_rfl) ?_; clear ha a; intro a ha
                          refine stepo ha 100 (by kernel_rfl) ?_; clear ha a; intro a ha
                          refine stepo ha 101 (by kernel_rfl) ?_; clear ha a; intro a ha
                          refine stepp ha 102 (.bool false) (by kernel_rfl) (by kernel_rfl) ?_; clear ha a; intro a ha
                          refine stepp ha 4 (.bool false) (by kernel_rfl) (by kernel_rfl) ?_; clear ha a; intro a ha
                          refine endl ?_
                          refine thenN (hK497 _ _ ?_); clear hK497
                          refine wp_ret ?_
                          obtain rfl := Option.some.inj h
                          exact finv ha _ _ rfl (.tmp (v := .bool false) (by kernel_rfl) .nil) (.bool false) rfl ⟨rfl, HW.pick [] [] (by decide) (by decide) rfl (by kernel_rfl)⟩
                      · skip
                        replace h := ite_neg' h hp508
                        replace ha := ha.bool 82 (by kernel_rfl) (ieq_f hp508)
                        refine stepo ha 83 (by kernel_rfl) ?_; clear ha a; intro a ha
                        refine stepo ha 84 (by kernel_rfl) ?_; clear ha a; intro a ha
                        refine stepo ha 85 (by kernel_rfl) ?_; clear ha a; intro a ha
                        refine stepo ha 86 (by kernel_rfl) ?_; clear ha a; intro a ha
                        refine stepo ha 87 (by kernel_rfl) ?_; clear ha a; intro a ha
                        refine stepp ha 88 (.bool false) (by kernel_rfl) (by kernel_rfl) ?_; clear ha a; intro a ha
                        refine stepp ha 89 (.bool false) (by kernel_rfl) (by kernel_rfl) ?_; clear ha a; intro a ha
                        refine stepo ha 90 (by kernel_rfl) ?_; clear ha a; intro a ha
                        refine stepo ha 91 (by kernel_rfl) ?_; clear ha a; intro a ha
                        refine stepo ha 92 (by kernel_rfl) ?_; clear ha a; intro a ha
                        refine stepo ha 93 (by kernel_rfl) ?_; clear ha a; intro a ha
                        refine stepo ha 94 (by kernel_rfl) ?_; clear ha a; intro a ha
                        refine stepp ha 95 (.bool false) (by kernel_rfl) (by kernel_rfl) ?_; clear ha a; intro a ha
                        refine stepp ha 96 (.bool false) (by kernel_rfl) (by kernel_rfl) ?_; clear ha a; intro a ha
                        refine stepo ha 97 (by kernel_rfl) ?_; clear ha a; intro a ha
                        refine stepo ha 98 (by kernel_rfl) ?_; clear ha a; intro a ha
                        refine stepo ha 99 (by kernel_rfl) ?_; clear ha a; intro a ha
                        refine stepo ha 100 (by kernel_rfl) ?_; clear ha a; intro a ha
                        refine stepo ha 101 (by kernel_rfl) ?_; clear ha a; intro a ha
                        refine stepp ha 102 (.bool false) (by kernel_rfl) (by kernel_rfl) ?_; clear ha a; intro a ha
                        refine stepp ha 4 (.bool false) (by kernel_rfl) (by kernel_rfl) ?_; clear ha a; intro a ha
                        refine endl ?_
                        refine thenN (hK497 _ _ ?_); clear hK497
                        refine wp_ret ?_
                        obtain rfl := Option.some.inj h
                        exact finv ha _ _ rfl (.tmp (v := .bool false) (by kernel_rfl) .nil) (.bool false) rfl ⟨rfl, HW.pick [] [] (by decide) (by decide) rfl (by kernel_rfl)⟩
                    · skip
                      replace h := ite_neg' h hp507
                      replace ha := ha.bool 75 (by kernel_rfl) (ieq_f hp507)
                      refine stepo ha 76 (by kernel_rfl) ?_; clear ha a; intro a ha
                      refine stepo ha 77 (by kernel_rfl) ?_; clear ha a; intro a ha
                      refine stepo ha 78 (by kernel_rfl) ?_; clear ha a; intro a ha
                      refine stepo ha 79 (by kernel_rfl) ?_; clear ha a; intro a ha
                      refine stepo ha 80 (by kernel_rfl) ?_; clear ha a; intro a ha
                      refine stepp ha 81 (.bool false) (by kernel_rfl) (by kernel_rfl) ?_; clear ha a; intro a ha
                      refine stepp ha 82 (.bool false) (by kernel_rfl) (by kernel_rfl) ?_; clear ha a; intro a ha
                      refine stepo ha 83 (by kernel_rfl) ?_; clear ha a; intro a ha
                      refine stepo ha 84 (by kernel_rfl) ?_; clear ha a; intro a ha
                      refine stepo ha 85 (by kernel_rfl) ?_; clear ha a; intro a ha
                      refine stepo ha 86 (by kernel_rfl) ?_; clear ha a; intro a ha
                      refine stepo ha 87 (by kernel_rfl) ?_; clear ha a; intro a ha
                      refine stepp ha 88 (.bool false) (by kernel_rfl) (by kernel_rfl) ?_; clear ha a; intro a ha
                      refine stepp ha 89 (.bool false) (by kernel_rfl) (by kernel_rfl) ?_; clear ha a; intro a ha
                      refine stepo ha 90 (by kernel_rfl) ?_; clear ha a; intro a ha
                      refine stepo ha 91 (by kernel_rfl) ?_; clear ha a; intro a ha
                      refine stepo ha 92 (by kernel_rfl) ?_; clear ha a; intro a ha
                      refine stepo ha 93 (by kernel_rfl) ?_; clear ha a; intro a ha
                      refine stepo ha 94 (by kernel_rfl) ?_; clear ha a; intro a ha
                      refine stepp ha 95 (.bool false) (by kernel_rfl) (by kernel_rfl) ?_; clear ha a; intro a ha
                      refine stepp ha 96 (.bool false) (by kernel_rfl) (by kernel_rfl) ?_; clear ha a; intro a ha
                      refine stepo ha 97 (by kernel_rfl) ?_; clear ha a; intro a ha
                      refine stepo ha 98 (by kernel_rfl) ?_; clear ha a; intro a ha
                      refine stepo ha 99 (by kernel_rfl) ?_; clear ha a; intro a ha
                      refine stepo ha 100 (by kernel_rfl) ?_; clear ha a; intro a ha
                      refine stepo ha 101 (by kernel_rfl) ?_; clear ha a; intro a ha
                      refine stepp ha 102 (.bool false) (by kernel_rfl) (by kernel_rfl) ?_; clear ha a; intro a ha
                      refine stepp ha 4 (.bool false) (by kernel_rfl) (by kernel_rfl) ?_; clear ha a; intro a ha
                      refine endl ?_
                      refine thenN (hK497 _ _ ?_); clear hK497
                      refine wp_ret ?_
                      obtain rfl := Option.some.inj h
                      exact finv ha _ _ rfl (.tmp (v := .bool false) (by kernel_rfl) .nil) (.bool false) rfl ⟨rfl, HW.pick [] [] (by decide) (by decide) rfl (by kernel_rfl)⟩
                  · skip
                    replace h := ite_neg' h hp506
                    replace ha := ha.bool 68 (by kernel_rfl) (ieq_f hp506)
                    refine stepo ha 69 (by kernel_rfl) ?_; clear ha a; intro a ha
                    refine stepo ha 70 (by kernel_rfl) ?_; clear ha a; intro a ha
                    refine stepo ha 71 (by kernel_rfl) ?_; clear ha a; intro a ha
                    refine stepo ha 72 (by kernel_rfl) ?_; clear ha a; intro a ha
                    refine stepo ha 73 (by kernel_rfl) ?_; clear ha a; intro a ha
                    refine stepp ha 74 (.bool false) (by kernel_rfl) (by kernel_rfl) ?_; clear ha a; intro a ha
                    refine stepp ha 75 (.bool false) (by kernel_rfl) (by kernel_rfl) ?_; clear ha a; intro a ha
                    refine stepo ha 76 (by kernel_rfl) ?_; clear ha a; intro a ha
                    refine stepo ha 77 (by kernel_rfl) ?_; clear ha a; intro a ha
                    refine stepo ha 78 (by kernel_rfl) ?_; clear ha a; intro a ha
                    refine stepo ha 79 (by kernel_rfl) ?_; clear ha a; intro a ha
                    refine stepo ha 80 (by kernel_rfl) ?_; clear ha a; intro a ha
                    refine stepp ha 81 (.bool false) (by kernel_rfl) (by kernel_rfl) ?_; clear ha a; intro a ha
                    refine stepp ha 82 (.bool false) (by kernel_rfl) (by kernel_rfl) ?_; clear ha a; intro a ha
                    refine stepo ha 83 (by kernel_rfl) ?_; clear ha a; intro a ha
                    refine stepo ha 84 (by kernel_rfl) ?_; clear ha a; intro a ha
                    refine stepo ha 85 (by kernel_rfl) ?_; clear ha a; intro a ha
                    refine stepo ha 86 (by kernel_rfl) ?_; clear ha a; intro a ha
                    refine stepo ha 87 (by kernel_rfl) ?_; clear ha a; intro a ha
                    refine stepp ha 88 (.bool false) (by kernel_rfl) (by kernel_rfl) ?_; clear ha a; intro a ha
                    refine stepp ha 89 (.bool false) (by kernel_rfl) (by kernel_rfl) ?_; clear ha a; intro a ha
                    refine stepo ha 90 (by kernel_rfl) ?_; clear ha a; intro a ha
                    refine stepo ha 91 (by kernel_rfl) ?_; clear ha a; intro a ha
                    refine stepo ha 92 (by kernel_rfl) ?_; clear ha a; intro a ha
                    refine stepo ha 93 (by kernel_rfl) ?_; clear ha a; intro a ha
                    refine stepo ha 94 (by kernel_rfl) ?_; clear ha a; intro a ha
                    refine stepp ha 95 (.bool false) (by kernel_rfl) (by kernel_rfl) ?_; clear ha a; intro a ha
                    refine stepp ha 96 (.bool false) (by kernel_rfl) (by kernel_rfl) ?_; clear ha a; intro a ha
                    refine stepo ha 97 (by kernel_rfl) ?_; clear ha a; intro a ha
                    refine stepo ha 98 (by kernel_rfl) ?_; clear ha a; intro a ha
                    refine stepo ha 99 (by kernel_rfl) ?_; clear ha a; intro a ha
                    refine stepo ha 100 (by kernel_rfl) ?_; clear ha a; intro a ha
                    refine stepo ha 101 (by kernel_rfl) ?_; clear ha a; intro a ha
                    refine stepp ha 102 (.bool false) (by kernel_rfl) (by kernel_rfl) ?_; clear ha a; intro a ha
                    refine stepp ha 4 (.bool false) (by kernel_rfl) (by kernel_rfl) ?_; clear ha a; intro a ha
                    refine endl ?_
                    refine thenN (hK497 _ _ ?_); clear hK497
                    refine wp_ret ?_
                    obtain rfl := Option.some.inj h
                    exact finv ha _ _ rfl (.tmp (v := .bool false) (by kernel_rfl) .nil) (.bool false) rfl ⟨rfl, HW.pick [] [] (by decide) (by decide) rfl (by kernel_rfl)⟩
                · skip
                  replace h := ite_neg' h hp505
                  replace ha := ha.bool 61 (by kernel_rfl) (ieq_f hp505)
                  refine stepo ha 62 (by kernel_rfl) ?_; clear ha a; intro a ha
                  refine stepo ha 63 (by kernel_rfl) ?_; clear ha a; intro a ha
                  refine stepo ha 64 (by kernel_rfl) ?_; clear ha a; intro a ha
                  refine stepo ha 65 (by kernel_rfl) ?_; clear ha a; intro a ha
                  refine stepo ha 66 (by kernel_rfl) ?_; clear ha a; intro a ha
                  refine stepp ha 67 (.bool false) (by kernel_rfl) (by kernel_rfl) ?_; clear ha a; intro a ha
                  refine stepp ha 68 (.bool false) (by kernel_rfl) (by kernel_rfl) ?_; clear ha a; intro a ha
                  refine stepo ha 69 (by kernel_rfl) ?_; clear ha a; intro a ha
                  refine stepo ha 70 (by kernel_rfl) ?_; clear ha a; intro a ha
                  refine stepo ha 71 (by kernel_rfl) ?_; clear ha a; intro a ha
                  refine stepo ha 72 (by kernel_rfl) ?_; clear ha a; intro a ha
                  refine stepo ha 73 (by kernel_rfl) ?_; clear ha a; intro a ha
                  refine stepp ha 74 (.bool false) (by kernel_rfl) (by kernel_rfl) ?_; clear ha a; intro a ha
                  refine stepp ha 75 (.bool false) (by kernel_rfl) (by kernel_rfl) ?_; clear ha a; intro a ha
                  refine stepo ha 76 (by kernel_rfl) ?_; clear ha a; intro a ha
                  refine stepo ha 77 (by kernel_rfl) ?_; clear ha a; intro a ha
                  refine stepo ha 78 (by kernel_rfl) ?_; clear ha a; intro a ha
                  refine stepo ha 79 (by kernel_rfl) ?_; clear ha a; intro a ha
                  refine stepo ha 80 (by kernel_rfl) ?_; clear ha a; intro a ha
                  refine stepp ha 81 (.bool false) (by kernel_rfl) (by kernel_rfl) ?_; clear ha a; intro a ha
                  refine stepp ha 82 (.bool false) (by kernel_rfl) (by kernel_rfl) ?_; clear ha a; intro a ha
                  refine stepo ha 83 (by kernel_rfl) ?_; clear ha a; intro a ha
                  refine stepo ha 84 (by kernel_rfl) ?_; clear ha a; intro a ha
                  refine stepo ha 85 (by kernel_rfl) ?_; clear ha a; intro a ha
                  refine stepo ha 86 (by kernel_rfl) ?_; clear ha a; intro a ha
                  refine stepo ha 87 (by kernel_rfl) ?_; clear ha a; intro a ha
                  refine stepp ha 88 (.bool false) (by kernel_rfl) (by kernel_rfl) ?_; clear ha a; intro a ha
                  refine stepp ha 89 (.bool false) (by kernel_rfl) (by kernel_rfl) ?_; clear ha a; intro a ha
                  refine stepo ha 90 (by kernel_rfl) ?_; clear ha a; intro a ha
                  refine stepo ha 91 (by kernel_rfl) ?_; clear ha a; intro a ha
                  refine stepo ha 92 (by kernel_rfl) ?_; clear ha a; intro a ha
                  refine stepo ha 93 (by kernel_rfl) ?_; clear ha a; intro a ha
                  refine stepo ha 94 (by kernel_rfl) ?_; clear ha a; intro a ha
                  refine stepp ha 95 (.bool false) (by kernel_rfl) (by kernel_rfl) ?_; clear ha a; intro a ha
                  refine stepp ha 96 (.bool false) (by kernel_rfl) (by kernel_rfl) ?_; clear ha a; intro a ha
                  refine stepo ha 97 (by kernel_rfl) ?_; clear ha a; intro a ha
                  refine stepo ha 98 (by kernel_rfl) ?_; clear ha a; intro a ha
                  refine stepo ha 99 (by kernel_rfl) ?_; clear ha a; intro a ha
                  refine stepo ha 100 (by kernel_rfl) ?_; clear ha a; intro a ha
                  refine stepo ha 101 (by kernel_rfl) ?_; clear ha a; intro a ha
                  refine stepp ha 102 (.bool false) (by kernel_rfl) (by kernel_rfl) ?_; clear ha a; intro a ha
                  refine stepp ha 4 (.bool false) (by kernel_rfl) (by kernel_rfl) ?_; clear ha a; intro a ha
                  refine endl ?_
                  refine thenN (hK497 _ _ ?_); clear hK497
                  refine wp_ret ?_
                  obtain rfl := Option.some.inj h
                  exact finv ha _ _ rfl (.tmp (v := .bool false) (by kernel_rfl) .nil) (.bool false) rfl ⟨rfl, HW.pick [] [] (by decide) (by decide) rfl (by kernel_rfl)⟩
              · skip
                replace h := ite_neg' h hp504
                replace ha := ha.bool 52 (by kernel_rfl) (beq_f hp504)
                refine stepo ha 53 (by kernel_rfl) ?_; clear ha a; intro a ha
                refine stepo ha 54 (by kernel_rfl) ?_; clear ha a; intro a ha
                refine stepo ha 55 (by kernel_rfl) ?_; clear ha a; intro a ha
                refine stepo ha 56 (by kernel_rfl) ?_; clear ha a; intro a ha
                refine stepo ha 57 (by kernel_rfl) ?_; clear ha a; intro a ha
                refine stepo ha 58 (by kernel_rfl) ?_; clear ha a; intro a ha
                refine stepo ha 59 (by kernel_rfl) ?_; clear ha a; intro a ha
                refine stepp ha 60 (.bool false) (by kernel_rfl) (by kernel_rfl) ?_; clear ha a; intro a ha
                refine stepp ha 61 (.bool false) (by kernel_rfl) (by kernel_rfl) ?_; clear ha a; intro a ha
                refine stepo ha 62 (by kernel_rfl) ?_; clear ha a; intro a ha
                refine stepo ha 63 (by kernel_rfl) ?_; clear ha a; intro a ha
                refine stepo ha 64 (by kernel_rfl) ?_; clear ha a; intro a ha
                refine stepo ha 65 (by kernel_rfl) ?_; clear ha a; intro a ha
                refine stepo ha 66 (by kernel_rfl) ?_; clear ha a; intro a ha
                refine stepp ha 67 (.bool false) (by kernel_rfl) (by kernel_rfl) ?_; clear ha a; intro a ha
                refine stepp ha 68 (.bool false) (by kernel_rfl) (by kernel_rfl) ?_; clear ha a; intro a ha
                refine stepo ha 69 (by kernel_rfl) ?_; clear ha a; intro a ha
                refine stepo ha 70 (by kernel_rfl) ?_; clear ha a; intro a ha
                refine stepo ha 71 (by kernel_rfl) ?_; clear ha a; intro a ha
                refine stepo ha 72 (by kernel_rfl) ?_; clear ha a; intro a ha
                refine stepo ha 73 (by kernel_rfl) ?_; clear ha a; intro a ha
                refine stepp ha 74 (.bool false) (by kernel_rfl) (by kernel_rfl) ?_; clear ha a; intro a ha
                refine stepp ha 75 (.bool false) (by kernel_rfl) (by kernel_rfl) ?_; clear ha a; intro a ha
                refine stepo ha 76 (by kernel_rfl) ?_; clear ha a; intro a ha
                refine stepo ha 77 (by kernel_rfl) ?_; clear ha a; intro a ha
                refine stepo ha 78 (by kernel_rfl) ?_; clear ha a; intro a ha
                refine stepo ha 79 (by kernel_rfl) ?_; clear ha a; intro a ha
                refine stepo ha 80 (by kernel_rfl) ?_; clear ha a; intro a ha
                refine stepp ha 81 (.bool false) (by kernel_rfl) (by kernel_rfl) ?_; clear ha a; intro a ha
                refine stepp ha 82 (.bool false) (by kernel_rfl) (by kernel_rfl) ?_; clear ha a; intro a ha
                refine stepo ha 83 (by kernel_rfl) ?_; clear ha a; intro a ha
                refine stepo ha 84 (by kernel_rfl) ?_; clear ha a; intro a ha
                refine stepo ha 85 (by kernel_rfl) ?_; clear ha a; intro a ha
                refine stepo ha 86 (by kernel_rfl) ?_; clear ha a; intro a ha
                refine stepo ha 87 (by kernel_rfl) ?_; clear ha a; intro a ha
                refine stepp ha 88 (.bool false) (by kernel_rfl) (by kernel_rfl) ?_; clear ha a; intro a ha
                refine stepp ha 89 (.bool false) (by kernel_rfl) (by kernel_rfl) ?_; clear ha a; intro a ha
                refine stepo ha 90 (by kernel_rfl) ?_; clear ha a; intro a ha
                refine stepo ha 91 (by kernel_rfl) ?_; clear ha a; intro a ha
                refine stepo ha 92 (by kernel_rfl) ?_; clear ha a; intro a ha
                refine stepo ha 93 (by kernel_rfl) ?_; clear ha a; intro a ha
                refine stepo ha 94 (by kernel_rfl) ?_; clear ha a; intro a ha
                refine stepp ha 95 (.bool false) (by kernel_rfl) (by kernel_rfl) ?_; clear ha a; intro a ha
                refine stepp ha 96 (.bool false) (by kernel_rfl) (by kernel_rfl) ?_; clear ha a; intro a ha
                refine stepo ha 97 (by kernel_rfl) ?_; clear ha a; intro a ha
                refine stepo ha 98 (by kernel_rfl) ?_; clear ha a; intro a ha
                refine stepo ha 99 (by kernel_rfl) ?_; clear ha a; intro a ha
                refine stepo ha 100 (by kernel_rfl) ?_; clear ha a; intro a ha
                refine stepo ha 101 (by kernel_rfl) ?_; clear ha a; intro a ha
                refine stepp ha 102 (.bool false) (by kernel_rfl) (by kernel_rfl) ?_; clear ha a; intro a ha
                refine stepp ha 4 (.bool false) (by kernel_rfl) (by kernel_rfl) ?_; clear ha a; intro a ha
                refine endl ?_
                refine thenN (hK497 _ _ ?_); clear hK497
                refine wp_ret ?_
                obtain rfl := Option.some.inj h
                exact finv ha _ _ rfl (.tmp (v := .bool false) (by kernel_rfl) .nil) (.bool false) rfl ⟨rfl, HW.pick [] [] (by decide) (by decide) rfl (by kernel_rfl)⟩
            · skip
              replace h := ite_neg' h hp503
              replace ha := ha.bool 45 (by kernel_rfl) (str_eq_f hp503)
              refine stepo ha 46 (by kernel_rfl) ?_; clear ha a; intro a ha
              refine stepo ha 47 (by kernel_rfl) ?_; clear ha a; intro a ha
              refine stepo ha 48 (by kernel_rfl) ?_; clear ha a; intro a ha
              refine stepo ha 49 (by kernel_rfl) ?_; clear ha a; intro a ha
              refine stepo ha 50 (by kernel_rfl) ?_; clear ha a; intro a ha
              refine stepp ha 51 (.bool false) (by kernel_rfl) (by kernel_rfl) ?_; clear ha a; intro a ha
              refine stepp ha 52 (.bool false) (by kernel_rfl) (by kernel_rfl) ?_; clear ha a; intro a ha
              refine stepo ha 53 (by kernel_rfl) ?_; clear ha a; intro a ha
              refine stepo ha 54 (by kernel_rfl) ?_; clear ha a; intro a ha
              refine stepo ha 55 (by kernel_rfl) ?_; clear ha a; intro a ha
              refine stepo ha 56 (by kernel_rfl) ?_; clear ha a; intro a ha
              refine stepo ha 57 (by kernel_rfl) ?_; clear ha a; intro a ha
              refine stepo ha 58 (by kernel_rfl) ?_; clear ha a; intro a ha
              refine stepo ha 59 (by kernel_rfl) ?_; clear ha a; intro a ha
              refine stepp ha 60 (.bool false) (by kernel_rfl) (by kernel_rfl) ?_; clear ha a; intro a ha
              refine stepp ha 61 (.bool false) (by kernel_rfl) (by kernel_rfl) ?_; clear ha a; intro a ha
              refine stepo ha 62 (by kernel_rfl) ?_; clear ha a; intro a ha
              refine stepo ha 63 (by kernel_rfl) ?_; clear ha a; intro a ha
              refine stepo ha 64 (by kernel_rfl) ?_; clear ha a; intro a ha
              refine stepo ha 65 (by kernel_rfl) ?_; clear ha a; intro a ha
              refine stepo ha 66 (by kernel_rfl) ?_; clear ha a; intro a ha
              refine stepp ha 67 (.bool false) (by kernel_rfl) (by kernel_rfl) ?_; clear ha a; intro a ha
              refine stepp ha 68 (.bool false) (by kernel_rfl) (by kernel_rfl) ?_; clear ha a; intro a ha
              refine stepo ha 69 (by kernel_rfl) ?_; clear ha a; intro a ha
              refine stepo ha 70 (by kernel_rfl) ?_; clear ha a; intro a ha
              refine stepo ha 71 (by kernel_rfl) ?_; clear ha a; intro a ha
              refine stepo ha 72 (by kernel_rfl) ?_; clear ha a; intro a ha
              refine stepo ha 73 (by kernel_rfl) ?_; clear ha a; intro a ha
              refine stepp ha 74 (.bool false) (by kernel_rfl) (by kernel_rfl) ?_; clear ha a; intro a ha
              refine stepp ha 75 (.bool false) (by kernel_rfl) (by kernel_rfl) ?_; clear ha a; intro a ha
              refine stepo ha 76 (by kernel_rfl) ?_; clear ha a; intro a ha
              refine stepo ha 77 (by kernel_rfl) ?_; clear ha a; intro a ha
              refine stepo ha 78 (by kernel_rfl) ?_; clear ha a; intro a ha
              refine stepo ha 79 (by kernel_rfl) ?_; clear ha a; intro a ha
              refine stepo ha 80 (by kernel_rfl) ?_; clear ha a; intro a ha
              refine stepp ha 81 (.bool false) (by kernel_rfl) (by kernel_rfl) ?_; clear ha a; intro a ha
              refine stepp ha 82 (.bool false) (by kernel_rfl) (by kernel_rfl) ?_; clear ha a; intro a ha
              refine stepo ha 83 (by kernel_rfl) ?_; clear ha a; intro a ha
              refine stepo ha 84 (by kernel_rfl) ?_; clear ha a; intro a ha
              refine stepo ha 85 (by kernel_rfl) ?_; clear ha a; intro a ha
              refine stepo ha 86 (by kernel_rfl) ?_; clear ha a; intro a ha
              refine stepo ha 87 (by kernel_rfl) ?_; clear ha a; intro a ha
              refine stepp ha 88 (.bool false) (by kernel_rfl) (by kernel_rfl) ?_; clear ha a; intro a ha
              refine stepp ha 89 (.bool false) (by kernel_rfl) (by kernel_rfl) ?_; clear ha a; intro a ha
              refine stepo ha 90 (by kernel_rfl) ?_; clear ha a; intro a ha
              refine stepo ha 91 (by kernel_rfl) ?_; clear ha a; intro a ha
              refine stepo ha 92 (by kernel_rfl) ?_; clear ha a; intro a ha
              refine stepo ha 93 (by kernel_rfl) ?_; clear ha a; intro a ha
              refine stepo ha 94 (by kernel_rfl) ?_; clear ha a; intro a ha
              refine stepp ha 95 (.bool false) (by kernel_rfl) (by kernel_rfl) ?_; clear ha a; intro a ha
              refine stepp ha 96 (.bool false) (by kernel_rfl) (by kernel_rfl) ?_; clear ha a; intro a ha
              refine stepo ha 97 (by kernel_rfl) ?_; clear ha a; intro a ha
              refine stepo ha 98 (by kernel_rfl) ?_; clear ha a; intro a ha
              refine stepo ha 99 (by kernel_rfl) ?_; clear ha a; intro a ha
              refine stepo ha 100 (by kernel_rfl) ?_; clear ha a; intro a ha
              refine stepo ha 101 (by kernel_rfl) ?_; clear ha a; intro a ha
              refine stepp ha 102 (.bool false) (by kernel_rfl) (by kernel_rfl) ?_; clear ha a; intro a ha
              refine stepp ha 4 (.bool false) (by kernel_rfl) (by kernel_rfl) ?_; clear ha a; intro a ha
              refine endl ?_
              refine thenN (hK497 _ _ ?_); clear hK497
              refine wp_ret ?_
              obtain rfl := Option.some.inj h
              exact finv ha _ _ rfl (.tmp (v := .bool false) (by kernel_rfl) .nil) (.bool false) rfl ⟨rfl, HW.pick [] [] (by decide) (by decide) rfl (by kernel_rfl)⟩
          · skip
            replace h := ite_neg' h hp502
            replace ha := ha.bool 38 (by kernel_rfl) (ieq_f hp502)
            refine stepo ha 39 (by kernel_rfl) ?_; clear ha a; intro a ha
            refine stepo ha 40 (by kernel_rfl) ?_; clear ha a; intro a ha
            refine stepo ha 41 (by kernel_rfl) ?_; clear ha a; intro a ha
            refine stepo ha 42 (by kernel_rfl) ?_; clear ha a; intro a ha
            refine stepo ha 43 (by kernel_rfl) ?_; clear ha a; intro a ha
            refine stepp ha 44 (.bool false) (by kernel_rfl) (by kernel_rfl) ?_; clear ha a; intro a ha
            refine stepp ha 45 (.bool false) (by kernel_rfl) (by kernel_rfl) ?_; clear ha a; intro a ha
            refine stepo ha 46 (by kernel_rfl) ?_; clear ha a; intro a ha
            refine stepo ha 47 (by kernel_rfl) ?_; clear ha a; intro a ha
            refine stepo ha 48 (by kernel_rfl) ?_; clear ha a; intro a ha
            refine stepo ha 49 (by kernel_rfl) ?_; clear ha a; intro a ha
            refine stepo ha 50 (by kernel_rfl) ?_; clear ha a; intro a ha
            refine stepp ha 51 (.bool false) (by kernel_rfl) (by kernel_rfl) ?_; clear ha a; intro a ha
            refine stepp ha 52 (.bool false) (by kernel_rfl) (by kernel_rfl) ?_; clear ha a; intro a ha
            refine stepo ha 53 (by kernel_rfl) ?_; clear ha a; intro a ha
            refine stepo ha 54 (by kernel_rfl) ?_; clear ha a; intro a ha
            refine stepo ha 55 (by kernel_rfl) ?_; clear ha a; intro a ha
            refine stepo ha 56 (by kernel_rfl) ?_; clear ha a; intro a ha
            refine stepo ha 57 (by kernel_rfl) ?_; clear ha a; intro a ha
            refine stepo ha 58 (by kernel_rfl) ?_; clear ha a; intro a ha
            refine stepo ha 59 (by kernel_rfl) ?_; clear ha a; intro a ha
            refine stepp ha 60 (.bool false) (by kernel_rfl) (by kernel_rfl) ?_; clear ha a; intro a ha
            refine stepp ha 61 (.bool false) (by kernel_rfl) (by kernel_rfl) ?_; clear ha a; intro a ha
            refine stepo ha 62 (by kernel_rfl) ?_; clear ha a; intro a ha
            refine stepo ha 63 (by kernel_rfl) ?_; clear ha a; intro a ha
            refine stepo ha 64 (by kernel_rfl) ?_; clear ha a; intro a ha
            refine stepo ha 65 (by kernel_rfl) ?_; clear ha a; intro a ha
            refine stepo ha 66 (by kernel_rfl) ?_; clear ha a; intro a ha
            refine stepp ha 67 (.bool false) (by kernel_rfl) (by kernel_rfl) ?_; clear ha a; intro a ha
            refine stepp ha 68 (.bool false) (by kernel_rfl) (by kernel_rfl) ?_; clear ha a; intro a ha
            refine stepo ha 69 (by kernel_rfl) ?_; clear ha a; intro a ha
            refine stepo ha 70 (by kernel_rfl) ?_; clear ha a; intro a ha
            refine stepo ha 71 (by kernel_rfl) ?_; clear ha a; intro a ha
            refine stepo ha 72 (by kernel_rfl) ?_; clear ha a; intro a ha
            refine stepo ha 73 (by kernel_rfl) ?_; clear ha a; intro a ha
            refine stepp ha 74 (.bool false) (by kernel_rfl) (by kernel_rfl) ?_; clear ha a; intro a ha
            refine stepp ha 75 (.bool false) (by kernel_rfl) (by kernel_rfl) ?_; clear ha a; intro a ha
            refine stepo ha 76 (by kernel_rfl) ?_; clear ha a; intro a ha
            refine stepo ha 77 (by kernel_rfl) ?_; clear ha a; intro a ha
            refine stepo ha 78 (by kernel_rfl) ?_; clear ha a; intro a ha
            refine stepo ha 79 (by kernel_rfl) ?_; clear ha a; intro a ha
            refine stepo ha 80 (by kernel_rfl) ?_; clear ha a; intro a ha
            refine stepp ha 81 (.bool false) (by kernel_rfl) (by kernel_rfl) ?_; clear ha a; intro a ha
            refine stepp ha 82 (.bool false) (by kernel_rfl) (by kernel_rfl) ?_; clear ha a; intro a ha
            refine stepo ha 83 (by kernel_rfl) ?_; clear ha a; intro a ha
            refine stepo ha 84 (by kernel_rfl) ?_; clear ha a; intro a ha
            refine stepo ha 85 (by kernel_rfl) ?_; clear ha a; intro a ha
            refine stepo ha 86 (by kernel_rfl) ?_; clear ha a; intro a ha
            refine stepo ha 87 (by kernel_rfl) ?_; clear ha a; intro a ha
            refine stepp ha 88 (.bool false) (by kernel_rfl) (by kernel_rfl) ?_; clear ha a; intro a ha
            refine stepp ha 89 (.bool false) (by kernel_rfl) (by kernel_rfl) ?_; clear ha a; intro a ha
            refine stepo ha 90 (by kernel_rfl) ?_; clear ha a; intro a ha
            refine stepo ha 91 (by kernel_rfl) ?_; clear ha a; intro a ha
            refine stepo ha 92 (by kernel_rfl) ?_; clear ha a; intro a ha
            refine stepo ha 93 (by kernel_rfl) ?_; clear ha a; intro a ha
            refine stepo ha 94 (by kernel_rfl) ?_; clear ha a; intro a ha
            refine stepp ha 95 (.bool false) (by kernel_rfl) (by kernel_rfl) ?_; clear ha a; intro a ha
            refine stepp ha 96 (.bool false) (by kernel_rfl) (by kernel_rfl) ?_; clear ha a; intro a ha
            refine stepo ha 97 (by kernel_rfl) ?_; clear ha a; intro a ha
            refine stepo ha 98 (by kernel_rfl) ?_; clear ha a; intro a ha
            refine stepo ha 99 (by kernel_rfl) ?_; clear ha a; intro a ha
            refine stepo ha 100 (by kernel_rfl) ?_; clear ha a; intro a ha
            refine stepo ha 101 (by kernel_rfl) ?_; clear ha a; intro a ha
            refine stepp ha 102 (.bool false) (by kernel_rfl) (by kernel_rfl) ?_; clear ha a; intro a ha
            refine stepp ha 4 (.bool false) (by kernel_rfl) (by kernel_rfl) ?_; clear ha a; intro a ha
            refine endl ?_
            refine thenN (hK497 _ _ ?_); clear hK497
            refine wp_ret ?_
            obtain rfl := Option.some.inj h
            exact finv ha _ _ rfl (.tmp (v := .bool false) (by kernel_rfl) .nil) (.bool false) rfl ⟨rfl, HW.pick [] [] (by decide) (by decide) rfl (by kernel_rfl)⟩
        · skip
          replace h := ite_neg' h hp501
          replace ha := ha.bool 31 (by kernel_rfl) (ieq_f hp501)
          refine stepo ha 32 (by kernel_rfl) ?_; clear ha a; intro a ha
          refine stepo ha 33 (by kernel_rfl) ?_; clear ha a; intro a ha
          refine stepo ha 34 (by kernel_rfl) ?_; clear ha a; intro a ha
          refine stepo ha 35 (by kernel_rfl) ?_; clear ha a; intro a ha
          refine stepo ha 36 (by kernel_rfl) ?_; clear ha a; intro a ha
          refine stepp ha 37 (.bool false) (by kernel_rfl) (by kernel_rfl) ?_; clear ha a; intro a ha
          refine stepp ha 38 (.bool false) (by kernel_rfl) (by kernel_rfl) ?_; clear ha a; intro a ha
          refine stepo ha 39 (by kernel_rfl) ?_; clear ha a; intro a ha
          refine stepo ha 40 (by kernel_rfl) ?_; clear ha a; intro a ha
          refine stepo ha 41 (by kernel_rfl) ?_; clear ha a; intro a ha
          refine stepo ha 42 (by kernel_rfl) ?_; clear ha a; intro a ha
          refine stepo ha 43 (by kernel_rfl) ?_; clear ha a; intro a ha
          refine stepp ha 44 (.bool false) (by kernel_rfl) (by kernel_rfl) ?_; clear ha a; intro a ha
          refine stepp ha 45 (.bool false) (by kernel_rfl) (by kernel_rfl) ?_; clear ha a; intro a ha
          refine stepo ha 46 (by kernel_rfl) ?_; clear ha a; intro a ha
          refine stepo ha 47 (by kernel_rfl) ?_; clear ha a; intro a ha
          refine stepo ha 48 (by kernel_rfl) ?_; clear ha a; intro a ha
          refine stepo ha 49 (by kernel_rfl) ?_; clear ha a; intro a ha
          refine stepo ha 50 (by kernel_rfl) ?_; clear ha a; intro a ha
          refine stepp ha 51 (.bool false) (by kernel_rfl) (by kernel_rfl) ?_; clear ha a; intro a ha
          refine stepp ha 52 (.bool false) (by kernel_rfl) (by kernel_rfl) ?_; clear ha a; intro a ha
          refine stepo ha 53 (by kernel_rfl) ?_; clear ha a; intro a ha
          refine stepo ha 54 (by kernel_rfl) ?_; clear ha a; intro a ha
          refine stepo ha 55 (by kernel_rfl) ?_; clear ha a; intro a ha
          refine stepo ha 56 (by kernel_rfl) ?_; clear ha a; intro a ha
          refine stepo ha 57 (by kernel_rfl) ?_; clear ha a; intro a ha
          refine stepo ha 58 (by kernel_rfl) ?_; clear ha a; intro a ha
          refine stepo ha 59 (by kernel_rfl) ?_; clear ha a; intro a ha
          refine stepp ha 60 (.bool false) (by kernel_rfl) (by kernel_rfl) ?_; clear ha a; intro a ha
          refine stepp ha 61 (.bool false) (by kernel_rfl) (by kernel_rfl) ?_; clear ha a; intro a ha
          refine stepo ha 62 (by kernel_rfl) ?_; clear ha a; intro a ha
          refine stepo ha 63 (by kernel_rfl) ?_; clear ha a; intro a ha
          refine stepo ha 64 (by kernel_rfl) ?_; clear ha a; intro a ha
          refine stepo ha 65 (by kernel_rfl) ?_; clear ha a; intro a ha
          refine stepo ha 66 (by kernel_rfl) ?_; clear ha a; intro a ha
          refine stepp ha 67 (.bool false) (by kernel_rfl) (by kernel_rfl) ?_; clear ha a; intro a ha
          refine stepp ha 68 (.bool false) (by kernel_rfl) (by kernel_rfl) ?_; clear ha a; intro a ha
          refine stepo ha 69 (by kernel_rfl) ?_; clear ha a; intro a ha
          refine stepo ha 70 (by kernel_rfl) ?_; clear ha a; intro a ha
          refine stepo ha 71 (by kernel_rfl) ?_; clear ha a; intro a ha
          refine stepo ha 72 (by kernel_rfl) ?_; clear ha a; intro a ha
          refine stepo ha 73 (by kernel_rfl) ?_; clear ha a; intro a ha
          refine stepp ha 74 (.bool false) (by kernel_rfl) (by kernel_rfl) ?_; clear ha a; intro a ha
          refine stepp ha 75 (.bool false) (by kernel_rfl) (by kernel_rfl) ?_; clear ha a; intro a ha
          refine stepo ha 76 (by kernel_rfl) ?_; clear ha a; intro a ha
          refine stepo ha 77 (by kernel_rfl) ?_; clear ha a; intro a ha
          refine stepo ha 78 (by kernel_rfl) ?_; clear ha a; intro a ha
          refine stepo ha 79 (by kernel_rfl) ?_; clear ha a; intro a ha
          refine stepo ha 80 (by kernel_rfl) ?_; clear ha a; intro a ha
          refine stepp ha 81 (.bool false) (by kernel_rfl) (by kernel_rfl) ?_; clear ha a; intro a ha
          refine stepp ha 82 (.bool false) (by kernel_rfl) (by kernel_rfl) ?_; clear ha a; intro a ha
          refine stepo ha 83 (by kernel_rfl) ?_; clear ha a; intro a ha
          refine stepo ha 84 (by kernel_rfl) ?_; clear ha a; intro a ha
          refine stepo ha 85 (by kernel_rfl) ?_; clear ha a; intro a ha
          refine stepo ha 86 (by kernel_rfl) ?_; clear ha a; intro a ha
          refine stepo ha 87 (by kernel_rfl) ?_; clear ha a; intro a ha
          refine stepp ha 88 (.bool false) (by kernel_rfl) (by kernel_rfl) ?_; clear ha a; intro a ha
          refine stepp ha 89 (.bool false) (by kernel_rfl) (by kernel_rfl) ?_; clear ha a; intro a ha
          refine stepo ha 90 (by kernel_rfl) ?_; clear ha a; intro a ha
          refine stepo ha 91 (by kernel_rfl) ?_; clear ha a; intro a ha
          refine stepo ha 92 (by kernel_rfl) ?_; clear ha a; intro a ha
          refine stepo ha 93 (by kernel_rfl) ?_; clear ha a; intro a ha
          refine stepo ha 94 (by kernel_rfl) ?_; clear ha a; intro a ha
          refine stepp ha 95 (.bool false) (by kernel_rfl) (by kernel_rfl) ?_; clear ha a; intro a ha
          refine stepp ha 96 (.bool false) (by kernel_rfl) (by kernel_rfl) ?_; clear ha a; intro a ha
          refine stepo ha 97 (by kernel_rfl) ?_; clear ha a; intro a ha
          refine stepo ha 98 (by kernel_rfl) ?_; clear ha a; intro a ha
          refine stepo ha 99 (by kernel_rfl) ?_; clear ha a; intro a ha
          refine stepo ha 100 (by kernel_rfl) ?_; clear ha a; intro a ha
          refine stepo ha 101 (by kernel_rfl) ?_; clear ha a; intro a ha
          refine stepp ha 102 (.bool false) (by kernel_rfl) (by kernel_rfl) ?_; clear ha a; intro a ha
          refine stepp ha 4 (.bool false) (by kernel_rfl) (by kernel_rfl) ?_; clear ha a; intro a ha
          refine endl ?_
          refine thenN (hK497 _ _ ?_); clear hK497
          refine wp_ret ?_
          obtain rfl := Option.some.inj h
          exact finv ha _ _ rfl (.tmp (v := .bool false) (by kernel_rfl) .nil) (.bool false) rfl ⟨rfl, HW.pick [] [] (by decide) (by decide) rfl (by kernel_rfl)⟩
      · skip
        replace h := ite_neg' h hp500
        replace ha := ha.bool 24 (by kernel_rfl) (str_eq_f hp500)
        refine stepo ha 25 (by kernel_rfl) ?_; clear ha a; intro a ha
        refine stepo ha 26 (by kernel_rfl) ?_; clear ha a; intro a ha
        refine stepo ha 27 (by kernel_rfl) ?_; clear ha a; intro a ha
        refine stepo ha 28 (by kernel_rfl) ?_; clear ha a; intro a ha
        refine stepo ha 29 (by kernel_rfl) ?_; clear ha a; intro a ha
        refine stepp ha 30 (.bool false) (by kernel_rfl) (by kernel_rfl) ?_; clear ha a; intro a ha
        refine stepp ha 31 (.bool false) (by kernel_rfl) (by kernel_rfl) ?_; clear ha a; intro a ha
        refine stepo ha 32 (by kernel_rfl) ?_; clear ha a; intro a ha
        refine stepo ha 33 (by kernel_rfl) ?_; clear ha a; intro a ha
        refine stepo ha 34 (by kernel_rfl) ?_; clear ha a; intro a ha
        refine stepo ha 35 (by kernel_rfl) ?_; clear ha a; intro a ha
        refine stepo ha 36 (by kernel_rfl) ?_; clear ha a; intro a ha
        refine stepp ha 37 (.bool false) (by kernel_rfl) (by kernel_rfl) ?_; clear ha a; intro a ha
        refine stepp ha 38 (.bool false) (by kernel_rfl) (by kernel_rfl) ?_; clear ha a; intro a ha
        refine stepo ha 39 (by kernel_rfl) ?_; clear ha a; intro a ha
        refine stepo ha 40 (by kernel_rfl) ?_; clear ha a; intro a ha
        refine stepo ha 41 (by kernel_rfl) ?_; clear ha a; intro a ha
        refine stepo ha 42 (by kernel_rfl) ?_; clear ha a; intro a ha
        refine stepo ha 43 (by kernel_rfl) ?_; clear ha a; intro a ha
        refine stepp ha 44 (.bool false) (by kernel_rfl) (by kernel_rfl) ?_; clear ha a; intro a ha
        refine stepp ha 45 (.bool false) (by kernel_rfl) (by kernel_rfl) ?_; clear ha a; intro a ha
        refine stepo ha 46 (by kernel_rfl) ?_; clear ha a; intro a ha
        refine stepo ha 47 (by kernel_rfl) ?_; clear ha a; intro a ha
        refine stepo ha 48 (by kernel_rfl) ?_; clear ha a; intro a ha
        refine stepo ha 49 (by kernel_rfl) ?_; clear ha a; intro a ha
        refine stepo ha 50 (by kernel_rfl) ?_; clear ha a; intro a ha
        refine stepp ha 51 (.bool false) (by kernel_rfl) (by kernel_rfl) ?_; clear ha a; intro a ha
        refine stepp ha 52 (.bool false) (by kernel_rfl) (by kernel_rfl) ?_; clear ha a; intro a ha
        refine stepo ha 53 (by kernel_rfl) ?_; clear ha a; intro a ha
        refine stepo ha 54 (by kernel_rfl) ?_; clear ha a; intro a ha
        refine stepo ha 55 (by kernel_rfl) ?_; clear ha a; intro a ha
        refine stepo ha 56 (by kernel_rfl) ?_; clear ha a; intro a ha
        refine stepo ha 57 (by kernel_rfl) ?_; clear ha a; intro a ha
        refine stepo ha 58 (by kernel_rfl) ?_; clear ha a; intro a ha
        refine stepo ha 59 (by kernel_rfl) ?_; clear ha a; intro a ha
        refine stepp ha 60 (.bool false) (by kernel_rfl) (by kernel_rfl) ?_; clear ha a; intro a ha
        refine stepp ha 61 (.bool false) (by kernel_rfl) (by kernel_rfl) ?_; clear ha a; intro a ha
        refine stepo ha 62 (by kernel_rfl) ?_; clear ha a; intro a ha
        refine stepo ha 63 (by kernel_rfl) ?_; clear ha a; intro a ha
        refine stepo ha 64 (by kernel_rfl) ?_; clear ha a; intro a ha
        refine stepo ha 65 (by kernel_rfl) ?_; clear ha a; intro a ha
        refine stepo ha 66 (by kernel_rfl) ?_; clear ha a; intro a ha
        refine stepp ha 67 (.bool false) (by kernel_rfl) (by kernel_rfl) ?_; clear ha a; intro a ha
        refine stepp ha 68 (.bool false) (by kernel_rfl) (by kernel_rfl) ?_; clear ha a; intro a ha
        refine stepo ha 69 (by kernel_rfl) ?_; clear ha a; intro a ha
        refine stepo ha 70 (by kernel_rfl) ?_; clear ha a; intro a ha
        refine stepo ha 71 (by kernel_rfl) ?_; clear ha a; intro a ha
        refine stepo ha 72 (by kernel_rfl) ?_; clear ha a; intro a ha
        refine stepo ha 73 (by kernel_rfl) ?_; clear ha a; intro a ha
        refine stepp ha 74 (.bool false) (by kernel_rfl) (by kernel_rfl) ?_; clear ha a; intro a ha
        refine stepp ha 75 (.bool false) (by kernel_rfl) (by kernel_rfl) ?_; clear ha a; intro a ha
        refine stepo ha 76 (by kernel_rfl) ?_; clear ha a; intro a ha
        refine stepo ha 77 (by kernel_rfl) ?_; clear ha a; intro a ha
        refine stepo ha 78 (by kernel_rfl) ?_; clear ha a; intro a ha
        refine stepo ha 79 (by kernel_rfl) ?_; clear ha a; intro a ha
        refine stepo ha 80 (by kernel_rfl) ?_; clear ha a; intro a ha
        refine stepp ha 81 (.bool false) (by kernel_rfl) (by kernel_rfl) ?_; clear ha a; intro a ha
        refine stepp ha 82 (.bool false) (by kernel_rfl) (by kernel_rfl) ?_; clear ha a; intro a ha
        refine stepo ha 83 (by kernel_rfl) ?_; clear ha a; intro a ha
        refine stepo ha 84 (by kernel_rfl) ?_; clear ha a; intro a ha
        refine stepo ha 85 (by kernel_rfl) ?_; clear ha a; intro a ha
        refine stepo ha 86 (by kernel_rfl) ?_; clear ha a; intro a ha
        refine stepo ha 87 (by kernel_rfl) ?_; clear ha a; intro a ha
        refine stepp ha 88 (.bool false) (by kernel_rfl) (by kernel_rfl) ?_; clear ha a; intro a ha
        refine stepp ha 89 (.bool false) (by kernel_rfl) (by kernel_rfl) ?_; clear ha a; intro a ha
        refine stepo ha 90 (by kernel_rfl) ?_; clear ha a; intro a ha
        refine stepo ha 91 (by kernel_rfl) ?_; clear ha a; intro a ha
        refine stepo ha 92 (by kernel_rfl) ?_; clear ha a; intro a ha
        refine stepo ha 93 (by kernel_rfl) ?_; clear ha a; intro a ha
        refine stepo ha 94 (by kernel_rfl) ?_; clear ha a; intro a ha
        refine stepp ha 95 (.bool false) (by kernel_rfl) (by kernel_rfl) ?_; clear ha a; intro a ha
        refine stepp ha 96 (.bool false) (by kernel_rfl) (by kernel_rfl) ?_; clear ha a; intro a ha
        refine stepo ha 97 (by kernel_rfl) ?_; clear ha a; intro a ha
        refine stepo ha 98 (by kernel_rfl) ?_; clear ha a; intro a ha
        refine stepo ha 99 (by kernel_rfl) ?_; clear ha a; intro a ha
        refine stepo ha 100 (by kernel_rfl) ?_; clear ha a; intro a ha
        refine stepo ha 101 (by kernel_rfl) ?_; clear ha a; intro a ha
        refine stepp ha 102 (.bool false) (by kernel_rfl) (by kernel_rfl) ?_; clear ha a; intro a ha
        refine stepp ha 4 (.bool false) (by kernel_rfl) (by kernel_rfl) ?_; clear ha a; intro a ha
        refine endl ?_
        refine thenN (hK497 _ _ ?_); clear hK497
        refine wp_ret ?_
        obtain rfl := Option.some.inj h
        exact finv ha _ _ rfl (.tmp (v := .bool false) (by kernel_rfl) .nil) (.bool false) rfl ⟨rfl, HW.pick [] [] (by decide) (by decide) rfl (by kernel_rfl)⟩
    · skip
      replace h := ite_neg' h hp499
      replace ha := ha.bool 17 (by kernel_rfl) (ieq_f hp499)
      refine stepo ha 18 (by kernel_rfl) ?_; clear ha a; intro a ha
      refine stepo ha 19 (by kernel_rfl) ?_; clear ha a; intro a ha
      refine stepo ha 20 (by kernel_rfl) ?_; clear ha a; intro a ha
      refine stepo ha 21 (by kernel_rfl) ?_; clear ha a; intro a ha
      refine stepo ha 22 (by kernel_rfl) ?_; clear ha a; intro a ha
      refine stepp ha 23 (.bool false) (by kernel_rfl) (by kernel_rfl) ?_; clear ha a; intro a ha
      refine stepp ha 24 (.bool false) (by kernel_rfl) (by kernel_rfl) ?_; clear ha a; intro a ha
      refine stepo ha 25 (by kernel_rfl) ?_; clear ha a; intro a ha
      refine stepo ha 26 (by kernel_rfl) ?_; clear ha a; intro a ha
      refine stepo ha 27 (by kernel_rfl) ?_; clear ha a; intro a ha
      refine stepo ha 28 (by kernel_rfl) ?_; clear ha a; intro a ha
      refine stepo ha 29 (by kernel_rfl) ?_; clear ha a; intro a ha
      refine stepp ha 30 (.bool false) (by kernel_rfl) (by kernel_rfl) ?_; clear ha a; intro a ha
      refine stepp ha 31 (.bool false) (by kernel_rfl) (by kernel_rfl) ?_; clear ha a; intro a ha
      refine stepo ha 32 (by kernel_rfl) ?_; clear ha a; intro a ha
      refine stepo ha 33 (by kernel_rfl) ?_; clear ha a; intro a ha
      refine stepo ha 34 (by kernel_rfl) ?_; clear ha a; intro a ha
      refine stepo ha 35 (by kernel_rfl) ?_; clear ha a; intro a ha
      refine stepo ha 36 (by kernel_rfl) ?_; clear ha a; intro a ha
      refine stepp ha 37 (.bool false) (by kernel_rfl) (by kernel_rfl) ?_; clear ha a; intro a ha
      refine stepp ha 38 (.bool false) (by kernel_rfl) (by kernel_rfl) ?_; clear ha a; intro a ha
      refine stepo ha 39 (by kernel_rfl) ?_; clear ha a; intro a ha
      refine stepo ha 40 (by kernel_rfl) ?_; clear ha a; intro a ha
      refine stepo ha 41 (by kernel_rfl) ?_; clear ha a; intro a ha
      refine stepo ha 42 (by kernel_rfl) ?_; clear ha a; intro a ha
      refine stepo ha 43 (by kernel_rfl) ?_; clear ha a; intro a ha
      refine stepp ha 44 (.bool false) (by kernel_rfl) (by kernel_rfl) ?_; clear ha a; intro a ha
      refine stepp ha 45 (.bool false) (by kernel_rfl) (by kernel_rfl) ?_; clear ha a; intro a ha
      refine stepo ha 46 (by kernel_rfl) ?_; clear ha a; intro a ha
      refine stepo ha 47 (by kernel_rfl) ?_; clear ha a; intro a ha
      refine stepo ha 48 (by kernel_rfl) ?_; clear ha a; intro a ha
      refine stepo ha 49 (by kernel_rfl) ?_; clear ha a; intro a ha
      refine stepo ha 50 (by kernel_rfl) ?_; clear ha a; intro a ha
      refine stepp ha 51 (.bool false) (by kernel_rfl) (by kernel_rfl) ?_; clear ha a; intro a ha
      refine stepp ha 52 (.bool false) (by kernel_rfl) (by kernel_rfl) ?_; clear ha a; intro a ha
      refine stepo ha 53 (by kernel_rfl) ?_; clear ha a; intro a ha
      refine stepo ha 54 (by kernel_rfl) ?_; clear ha a; intro a ha
      refine stepo ha 55 (by kernel_rfl) ?_; clear ha a; intro a ha
      refine stepo ha 56 (by kernel_rfl) ?_; clear ha a; intro a ha
      refine stepo ha 57 (by kernel_rfl) ?_; clear ha a; intro a ha
      refine stepo ha 58 (by kernel_rfl) ?_; clear ha a; intro a ha
      refine stepo ha 59 (by kernel_rfl) ?_; clear ha a; intro a ha
      refine stepp ha 60 (.bool false) (by kernel_rfl) (by kernel_rfl) ?_; clear ha a; intro a ha
      refine stepp ha 61 (.bool false) (by kernel_rfl) (by kernel_rfl) ?_; clear ha a; intro a ha
      refine stepo ha 62 (by kernel_rfl) ?_; clear ha a; intro a ha
      refine stepo ha 63 (by kernel_rfl) ?_; clear ha a; intro a ha
      refine stepo ha 64 (by kernel_rfl) ?_; clear ha a; intro a ha
      refine stepo ha 65 (by kernel_rfl) ?_; clear ha a; intro a ha
      refine stepo ha 66 (by kernel_rfl) ?_; clear ha a; intro a ha
      refine stepp ha 67 (.bool false) (by kernel_rfl) (by kernel_rfl) ?_; clear ha a; intro a ha
      refine stepp ha 68 (.bool false) (by kernel_rfl) (by kernel_rfl) ?_; clear ha a; intro a ha
      refine stepo ha 69 (by kernel_rfl) ?_; clear ha a; intro a ha
      refine stepo ha 70 (by kernel_rfl) ?_; clear ha a; intro a ha
      refine stepo ha 71 (by kernel_rfl) ?_; clear ha a; intro a ha
      refine stepo ha 72 (by kernel_rfl) ?_; clear ha a; intro a ha
      refine stepo ha 73 (by kernel_rfl) ?_; clear ha a; intro a ha
      refine stepp ha 74 (.bool false) (by kernel_rfl) (by kernel_rfl) ?_; clear ha a; intro a ha
      refine stepp ha 75 (.bool false) (by kernel_rfl) (by kernel_rfl) ?_; clear ha a; intro a ha
      refine stepo ha 76 (by kernel_rfl) ?_; clear ha a; intro a ha
      refine stepo ha 77 (by kernel_rfl) ?_; clear ha a; intro a ha
      refine stepo ha 78 (by kernel_rfl) ?_; clear ha a; intro a ha
      refine stepo ha 79 (by kernel_rfl) ?_; clear ha a; intro a ha
      refine stepo ha 80 (by kernel_rfl) ?_; clear ha a; intro a ha
      refine stepp ha 81 (.bool false) (by kernel_rfl) (by kernel_rfl) ?_; clear ha a; intro a ha
      refine stepp ha 82 (.bool false) (by kernel_rfl) (by kernel_rfl) ?_; clear ha a; intro a ha
      refine stepo ha 83 (by kernel_rfl) ?_; clear ha a; intro a ha
      refine stepo ha 84 (by kernel_rfl) ?_; clear ha a; intro a ha
      refine stepo ha 85 (by kernel_rfl) ?_; clear ha a; intro a ha
      refine stepo ha 86 (by kernel_rfl) ?_; clear ha a; intro a ha
      refine stepo ha 87 (by kernel_rfl) ?_; clear ha a; intro a ha
      refine stepp ha 88 (.bool false) (by kernel_rfl) (by kernel_rfl) ?_; clear ha a; intro a ha
      refine stepp ha 89 (.bool false) (by kernel_rfl) (by kernel_rfl) ?_; clear ha a; intro a ha
      refine stepo ha 90 (by kernel_rfl) ?_; clear ha a; intro a ha
      refine stepo ha 91 (by kernel_rfl) ?_; clear ha a; intro a ha
      refine stepo ha 92 (by kernel_rfl) ?_; clear ha a; intro a ha
      refine stepo ha 93 (by kernel_rfl) ?_; clear ha a; intro a ha
      refine stepo ha 94 (by kernel_rfl) ?_; clear ha a; intro a ha
      refine stepp ha 95 (.bool false) (by kernel_rfl) (by kernel_rfl) ?_; clear ha a; intro a ha
      refine stepp ha 96 (.bool false) (by kernel_rfl) (by kernel_rfl) ?_; clear ha a; intro a ha
      refine stepo ha 97 (by kernel_rfl) ?_; clear ha a; intro a ha
      refine stepo ha 98 (by kernel_rfl) ?_; clear ha a; intro a ha
      refine stepo ha 99 (by kernel_rfl) ?_; clear ha a; intro a ha
      refine stepo ha 100 (by kernel_rfl) ?_; clear ha a; intro a ha
      refine stepo ha 101 (by kernel_rfl) ?_; clear ha a; intro a ha
      refine stepp ha 102 (.bool false) (by kernel_rfl) (by kernel_rfl) ?_; clear ha a; intro a ha
      refine stepp ha 4 (.bool false) (by kernel_rfl) (by kernel_rfl) ?_; clear ha a; intro a ha
      refine endl ?_
      refine thenN (hK497 _ _ ?_); clear hK497
      refine wp_ret ?_
      obtain rfl := Option.some.inj h
      exact finv ha _ _ rfl (.tmp (v := .bool false) (by kernel_rfl) .nil) (.bool false) rfl ⟨rfl, HW.pick [] [] (by decide) (by decide) rfl (by kernel_rfl)⟩
  · skip
    replace h := ite_neg' h hp498
    replace ha := ha.bool 10 (by kernel_rfl) (ieq_f hp498)
    refine stepo ha 11 (by kernel_rfl) ?_; clear ha a; intro a ha
    refine stepo ha 12 (by kernel_rfl) ?_; clear ha a; intro a ha
    refine stepo ha 13 (by kernel_rfl) ?_; clear ha a; intro a ha
    refine stepo ha 14 (by kernel_rfl) ?_; clear ha a; intro a ha
    refine stepo ha 15 (by kernel_rfl) ?_; clear ha a; intro a ha
    refine stepp ha 16 (.bool false) (by kernel_rfl) (by kernel_rfl) ?_; clear ha a; intro a ha
    refine stepp ha 17 (.bool false) (by kernel_rfl) (by kernel_rfl) ?_; clear ha a; intro a ha
    refine stepo ha 18 (by kernel_rfl) ?_; clear ha a; intro a ha
    refine stepo ha 19 (by kernel_rfl) ?_; clear ha a; intro a ha
    refine stepo ha 20 (by kernel_rfl) ?_; clear ha a; intro a ha
    refine stepo ha 21 (by kernel_rfl) ?_; clear ha a; intro a ha
    refine stepo ha 22 (by kernel_rfl) ?_; clear ha a; intro a ha
    refine stepp ha 23 (.bool false) (by kernel_rfl) (by kernel_rfl) ?_; clear ha a; intro a ha
    refine stepp ha 24 (.bool false) (by kernel_rfl) (by kernel_rfl) ?_; clear ha a; intro a ha
    refine stepo ha 25 (by kernel_rfl) ?_; clear ha a; intro a ha
    refine stepo ha 26 (by kernel_rfl) ?_; clear ha a; intro a ha
    refine stepo ha 27 (by kernel_rfl) ?_; clear ha a; intro a ha
    refine stepo ha 28 (by kernel_rfl) ?_; clear ha a; intro a ha
    refine stepo ha 29 (by kernel_rfl) ?_; clear ha a; intro a ha
    refine stepp ha 30 (.bool false) (by kernel_rfl) (by kernel_rfl) ?_; clear ha a; intro a ha
    refine stepp ha 31 (.bool false) (by kernel_rfl) (by kernel_rfl) ?_; clear ha a; intro a ha
    refine stepo ha 32 (by kernel_rfl) ?_; clear ha a; intro a ha
    refine stepo ha 33 (by kernel_rfl) ?_; clear ha a; intro a ha
    refine stepo ha 34 (by kernel_rfl) ?_; clear ha a; intro a ha
    refine stepo ha 35 (by kernel_rfl) ?_; clear ha a; intro a ha
    refine stepo ha 36 (by kernel_rfl) ?_; clear ha a; intro a ha
    refine stepp ha 37 (.bool false) (by kernel_rfl) (by kernel_rfl) ?_; clear ha a; intro a ha
    refine stepp ha 38 (.bool false) (by kernel_rfl) (by kernel_rfl) ?_; clear ha a; intro a ha
    refine stepo ha 39 (by kernel_rfl) ?_; clear ha a; intro a ha
    refine stepo ha 40 (by kernel_rfl) ?_; clear ha a; intro a ha
    refine stepo ha 41 (by kernel_rfl) ?_; clear ha a; intro a ha
    refine stepo ha 42 (by kernel_rfl) ?_; clear ha a; intro a ha
    refine stepo ha 43 (by kernel_rfl) ?_; clear ha a; intro a ha
    refine stepp ha 44 (.bool false) (by kernel_rfl) (by kernel_rfl) ?_; clear ha a; intro a ha
    refine stepp ha 45 (.bool false) (by kernel_rfl) (by kernel_rfl) ?_; clear ha a; intro a ha
    refine stepo ha 46 (by kernel_rfl) ?_; clear ha a; intro a ha
    refine stepo ha 47 (by kernel_rfl) ?_; clear ha a; intro a ha
    refine stepo ha 48 (by kernel_rfl) ?_; clear ha a; intro a ha
    refine stepo ha 49 (by kernel_rfl) ?_; clear ha a; intro a ha
    refine stepo ha 50 (by kernel_rfl) ?_; clear ha a; intro a ha
    refine stepp ha 51 (.bool false) (by kernel_rfl) (by kernel_rfl) ?_; clear ha a; intro a ha
    refine stepp ha 52 (.bool false) (by kernel_rfl) (by kernel_rfl) ?_; clear ha a; intro a ha
    refine stepo ha 53 (by kernel_rfl) ?_; clear ha a; intro a ha
    refine stepo ha 54 (by kernel_rfl) ?_; clear ha a; intro a ha
    refine stepo ha 55 (by kernel_rfl) ?_; clear ha a; intro a ha
    refine stepo ha 56 (by kernel_rfl) ?_; clear ha a; intro a ha
    refine stepo ha 57 (by kernel_rfl) ?_; clear ha a; intro a ha
    refine stepo ha 58 (by kernel_rfl) ?_; clear ha a; intro a ha
    refine stepo ha 59 (by kernel_rfl) ?_; clear ha a; intro a ha
    refine stepp ha 60 (.bool false) (by kernel_rfl) (by kernel_rfl) ?_; clear ha a; intro a ha
    refine stepp ha 61 (.bool false) (by kernel_rfl) (by kernel_rfl) ?_; clear ha a; intro a ha
    refine stepo ha 62 (by kernel_rfl) ?_; clear ha a; intro a ha
    refine stepo ha 63 (by kernel_rfl) ?_; clear ha a; intro a ha
    refine stepo ha 64 (by kernel_rfl) ?_; clear ha a; intro a ha
    refine stepo ha 65 (by kernel_rfl) ?_; clear ha a; intro a ha
    refine stepo ha 66 (by kernel_rfl) ?_; clear ha a; intro a ha
    refine stepp ha 67 (.bool false) (by kernel_rfl) (by kernel_rfl) ?_; clear ha a; intro a ha
    refine stepp ha 68 (.bool false) (by kernel_rfl) (by kernel_rfl) ?_; clear ha a; intro a ha
    refine stepo ha 69 (by kernel_rfl) ?_; clear ha a; intro a ha
    refine stepo ha 70 (by kernel_rfl) ?_; clear ha a; intro a ha
    refine stepo ha 71 (by kernel_rfl) ?_; clear ha a; intro a ha
    refine stepo ha 72 (by kernel_rfl) ?_; clear ha a; intro a ha
    refine stepo ha 73 (by kernel_rfl) ?_; clear ha a; intro a ha
    refine stepp ha 74 (.bool false) (by kernel_rfl) (by kernel_rfl) ?_; clear ha a; intro a ha
    refine stepp ha 75 (.bool false) (by kernel_rfl) (by kernel_rfl) ?_; clear ha a; intro a ha
    refine stepo ha 76 (by kernel_rfl) ?_; clear ha a; intro a ha
    refine stepo ha 77 (by kernel_rfl) ?_; clear ha a; intro a ha
    refine stepo ha 78 (by kernel_rfl) ?_; clear ha a; intro a ha
    refine stepo ha 79 (by kernel_rfl) ?_; clear ha a; intro a ha
    refine stepo ha 80 (by kernel_rfl) ?_; clear ha a; intro a ha
    refine stepp ha 81 (.bool false) (by kernel_rfl) (by kernel_rfl) ?_; clear ha a; intro a ha
    refine stepp ha 82 (.bool false) (by kernel_rfl) (by kernel_rfl) ?_; clear ha a; intro a ha
    refine stepo ha 83 (by kernel_rfl) ?_; clear ha a; intro a ha
    refine stepo ha 84 (by kernel_rfl) ?_; clear ha a; intro a ha
    refine stepo ha 85 (by kernel_rfl) ?_; clear ha a; intro a ha
    refine stepo ha 86 (by kernel_rfl) ?_; clear ha a; intro a ha
    refine stepo ha 87 (by kernel_rfl) ?_; clear ha a; intro a ha
    refine stepp ha 88 (.bool false) (by kernel_rfl) (by kernel_rfl) ?_; clear ha a; intro a ha
    refine stepp ha 89 (.bool false) (by kernel_rfl) (by kernel_rfl) ?_; clear ha a; intro a ha
    refine stepo ha 90 (by kernel_rfl) ?_; clear ha a; intro a ha
    refine stepo ha 91 (by kernel_rfl) ?_; clear ha a; intro a ha
    refine stepo ha 92 (by kernel_rfl) ?_; clear ha a; intro a ha
    refine stepo ha 93 (by kernel_rfl) ?_; clear ha a; intro a ha
    refine stepo ha 94 (by kernel_rfl) ?_; clear ha a; intro a ha
    refine stepp ha 95 (.bool false) (by kernel_rfl) (by kernel_rfl) ?_; clear ha a; intro a ha
    refine stepp ha 96 (.bool false) (by kernel_rfl) (by kernel_rfl) ?_; clear ha a; intro a ha
    refine stepo ha 97 (by kernel_rfl) ?_; clear ha a; intro a ha
    refine stepo ha 98 (by kernel_rfl) ?_; clear ha a; intro a ha
    refine stepo ha 99 (by kernel_rfl) ?_; clear ha a; intro a ha
    refine stepo ha 100 (by kernel_rfl) ?_; clear ha a; intro a ha
    refine stepo ha 101 (by kernel_rfl) ?_; clear ha a; intro a ha
    refine stepp ha 102 (.bool false) (by kernel_rfl) (by kernel_rfl) ?_; clear ha a; intro a ha
    refine stepp ha 4 (.bool false) (by kernel_rfl) (by kernel_rfl) ?_; clear ha a; intro a ha
    refine endl ?_
    refine thenN (hK497 _ _ ?_); clear hK497
    refine wp_ret ?_
    obtain rfl := Option.some.inj h
    exact finv ha _ _ rfl (.tmp (v := .bool false) (by kernel_rfl) .nil) (.bool false) rfl ⟨rfl, HW.pick [] [] (by decide) (by decide) rfl (by kernel_rfl)⟩
end Go.Proofs.Ytceagilmillgfaa.F
