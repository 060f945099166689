/- headgate/prout.same: plain functions, and that the calls come to what they say. No condition. -/
import Derived.Test.YtpjcipadjegmlaaDoorFT
namespace Go.Proofs.YtpjcipadjegmlaaDoor.F
open Go Go.RowKit Go.Proofs.YtpjcipadjegmlaaDoor.X
set_option linter.unusedVariables false
set_option linter.unusedSimpArgs false
/-! ### headgate/prout.same: function 42 -/
def prout_same.f (a0 : T_api_Cmd) (a1 : T_api_Cmd) : Option Bool :=
  if a0.f0 = a1.f0 then (if a0.f1 = a1.f1 then (if a0.f2 = a1.f2 then (if a0.f3 = a1.f3 then (if a0.f4 = a1.f4 then (if a0.f5 = a1.f5 then (if a0.f6 = a1.f6 then (if (a0.f7.length : Int) = (a1.f7.length : Int) then (if a0.f8 = a1.f8 then (if a0.f9 = a1.f9 then (if a0.f10 = a1.f10 then (if a0.f11 = a1.f11 then (if a0.f12 = a1.f12 then (some (a0.f13 == a1.f13)) else (some false)) else (some false)) else (some false)) else (some false)) else (some false)) else (some false)) else (some false)) else (some false)) else (some false)) else (some false)) else (some false)) else (some false)) else (some false)
set_option maxRecDepth 100000 in
set_option maxHeartbeats 4000000 in
theorem prout_same.calls (a0 : T_api_Cmd) (a1 : T_api_Cmd) (A0_0 : Option Addr) (c0_0 : Nat) (A1_1 : Option Addr) (c1_1 : Nat) (r : Bool) (w : World) (hr0_0 : Rd 2 w (.slice A0_0 a0.f7.length c0_0) a0.f7.length (encs T_api_Range.enc a0.f7)) (hr1_1 : Rd 2 w (.slice A1_1 a1.f7.length c1_1) a1.f7.length (encs T_api_Range.enc a1.f7)) (h : prout_same.f a0 a1 = some r) :
    Calls Tryd.prog 42 #[.agg #[.int .i64 a0.f0, .int .i64 a0.f1, .string a0.f2, .int .i64 a0.f3, .int .i64 a0.f4, .string a0.f5, .bool a0.f6, .slice A0_0 a0.f7.length c0_0, .int .u64 a0.f8, .int .u64 a0.f9, .int .u64 a0.f10, .int .i64 a0.f11, .bool a0.f12, .int .i64 a0.f13], .agg #[.int .i64 a1.f0, .int .i64 a1.f1, .string a1.f2, .int .i64 a1.f3, .int .i64 a1.f4, .string a1.f5, .bool a1.f6, .slice A1_1 a1.f7.length c1_1, .int .u64 a1.f8, .int .u64 a1.f9, .int .u64 a1.f10, .int .i64 a1.f11, .bool a1.f12, .int .i64 a1.f13]] w (fun e W' => e = .returned (.bool r) ∧ Wd w W' [] [] ) := by
  refine sxstart (n := 103) (l := [(0, .agg #[.int .i64 a0.f0, .int .i64 a0.f1, .string a0.f2, .int .i64 a0.f3, .int .i64 a0.f4, .string a0.f5, .bool a0.f6, .slice A0_0 a0.f7.length c0_0, .int .u64 a0.f8, .int .u64 a0.f9, .int .u64 a0.f10, .int .i64 a0.f11, .bool a0.f12, .int .i64 a0.f13]), (1, .agg #[.int .i64 a1.f0, .int .i64 a1.f1, .string a1.f2, .int .i64 a1.f3, .int .i64 a1.f4, .string a1.f5, .bool a1.f6, .slice A1_1 a1.f7.length c1_1, .int .u64 a1.f8, .int .u64 a1.f9, .int .u64 a1.f10, .int .i64 a1.f11, .bool a1.f12, .int .i64 a1.f13])]) Tryd.func42 rfl rfl (Nat.le_of_ble_eq_true KR) (subsA_cons rfl (subsA_cons rfl (subsA_nil _))) ?_
  intro a ha
  have HW := Wd.refl w
  unfold prout_same.f at h
  refine wp_seq_k (fun K677 hK678 => ?_)
  refine wp_region_lit ?_
  refine stepnew ha HW 2 #[.int .i64 a0.f0, .int .i64 a0.f1, .string a0.f2, .int .i64 a0.f3, .int .i64 a0.f4, .string a0.f5, .bool a0.f6, .slice A0_0 a0.f7.length c0_0, .int .u64 a0.f8, .int .u64 a0.f9, .int .u64 a0.f10, .int .i64 a0.f11, .bool a0.f12, .int .i64 a0.f13] 63 KR KR ?_; clear ha HW a; intro b679 a W680 HW ha
  refine stepnew ha HW 3 #[.int .i64 a1.f0, .int .i64 a1.f1, .string a1.f2, .int .i64 a1.f3, .int .i64 a1.f4, .string a1.f5, .bool a1.f6, .slice A1_1 a1.f7.length c1_1, .int .u64 a1.f8, .int .u64 a1.f9, .int .u64 a1.f10, .int .i64 a1.f11, .bool a1.f12, .int .i64 a1.f13] 63 KR KR ?_; clear ha HW a; intro b681 a W682 HW ha
  refine stepp ha 4 (.bool false) KR KR ?_; clear ha a; intro a ha
  refine endl ?_
  refine thenN (hK678 _ _ ?_); clear hK678
  refine wp_seq_k (fun K683 hK684 => ?_)
  refine wp_region_lit ?_
  refine stepp ha 5 (.pointer (some ⟨b679, 0, none⟩)) KR KR ?_; clear ha a; intro a ha
  refine stepl ha 6 (HW.ca (i := 1) (b := b679) (C := #[.int .i64 a0.f0, .int .i64 a0.f1, .string a0.f2, .int .i64 a0.f3, .int .i64 a0.f4, .string a0.f5, .bool a0.f6, .slice A0_0 a0.f7.length c0_0, .int .u64 a0.f8, .int .u64 a0.f9, .int .u64 a0.f10, .int .i64 a0.f11, .bool a0.f12, .int .i64 a0.f13]) (T := 63) (fr := (0, 0)) KR) 3 0 (.tmp 5) (.int .i64 a0.f0) rfl KR KR KR ?_; clear ha a; intro a ha
  refine stepp ha 7 (.pointer (some ⟨b681, 0, none⟩)) KR KR ?_; clear ha a; intro a ha
  refine stepl ha 8 (HW.ca (i := 0) (b := b681) (C := #[.int .i64 a1.f0, .int .i64 a1.f1, .string a1.f2, .int .i64 a1.f3, .int .i64 a1.f4, .string a1.f5, .bool a1.f6, .slice A1_1 a1.f7.length c1_1, .int .u64 a1.f8, .int .u64 a1.f9, .int .u64 a1.f10, .int .i64 a1.f11, .bool a1.f12, .int .i64 a1.f13]) (T := 63) (fr := (0, 0)) KR) 3 0 (.tmp 7) (.int .i64 a1.f0) rfl KR KR KR ?_; clear ha a; intro a ha
  refine stepp ha 9 (.bool (a0.f0 == a1.f0)) KR KR ?_; clear ha a; intro a ha
  refine stepp ha 10 (.bool (a0.f0 == a1.f0)) KR KR ?_; clear ha a; intro a ha
  by_cases hp685 : a0.f0 = a1.f0
  · skip
    replace h := ite_pos' h hp685
    replace ha := ha.bool 10 KR (ieq_t hp685)
    refine stepp ha 11 (.pointer (some ⟨b679, 1, none⟩)) KR KR ?_; clear ha a; intro a ha
    refine stepl ha 12 (HW.ca (i := 1) (b := b679) (C := #[.int .i64 a0.f0, .int .i64 a0.f1, .string a0.f2, .int .i64 a0.f3, .int .i64 a0.f4, .string a0.f5, .bool a0.f6, .slice A0_0 a0.f7.length c0_0, .int .u64 a0.f8, .int .u64 a0.f9, .int .u64 a0.f10, .int .i64 a0.f11, .bool a0.f12, .int .i64 a0.f13]) (T := 63) (fr := (0, 0)) KR) 3 1 (.tmp 11) (.int .i64 a0.f1) rfl KR KR KR ?_; clear ha a; intro a ha
    refine stepp ha 13 (.pointer (some ⟨b681, 1, none⟩)) KR KR ?_; clear ha a; intro a ha
    refine stepl ha 14 (HW.ca (i := 0) (b := b681) (C := #[.int .i64 a1.f0, .int .i64 a1.f1, .string a1.f2, .int .i64 a1.f3, .int .i64 a1.f4, .string a1.f5, .bool a1.f6, .slice A1_1 a1.f7.length c1_1, .int .u64 a1.f8, .int .u64 a1.f9, .int .u64 a1.f10, .int .i64 a1.f11, .bool a1.f12, .int .i64 a1.f13]) (T := 63) (fr := (0, 0)) KR) 3 1 (.tmp 13) (.int .i64 a1.f1) rfl KR KR KR ?_; clear ha a; intro a ha
    refine stepp ha 15 (.bool (a0.f1 == a1.f1)) KR KR ?_; clear ha a; intro a ha
    refine stepp ha 16 (.bool (a0.f1 == a1.f1)) KR KR ?_; clear ha a; intro a ha
    refine stepp ha 17 (.bool (a0.f1 == a1.f1)) KR KR ?_; clear ha a; intro a ha
    by_cases hp686 : a0.f1 = a1.f1
    · skip
      replace h := ite_pos' h hp686
      replace ha := ha.bool 17 KR (ieq_t hp686)
      refine stepp ha 18 (.pointer (some ⟨b679, 2, none⟩)) KR KR ?_; clear ha a; intro a ha
      refine stepl ha 19 (HW.ca (i := 1) (b := b679) (C := #[.int .i64 a0.f0, .int .i64 a0.f1, .string a0.f2, .int .i64 a0.f3, .int .i64 a0.f4, .string a0.f5, .bool a0.f6, .slice A0_0 a0.f7.length c0_0, .int .u64 a0.f8, .int .u64 a0.f9, .int .u64 a0.f10, .int .i64 a0.f11, .bool a0.f12, .int .i64 a0.f13]) (T := 63) (fr := (0, 0)) KR) 9 2 (.tmp 18) (.string a0.f2) rfl KR KR KR ?_; clear ha a; intro a ha
      refine stepp ha 20 (.pointer (some ⟨b681, 2, none⟩)) KR KR ?_; clear ha a; intro a ha
      refine stepl ha 21 (HW.ca (i := 0) (b := b681) (C := #[.int .i64 a1.f0, .int .i64 a1.f1, .string a1.f2, .int .i64 a1.f3, .int .i64 a1.f4, .string a1.f5, .bool a1.f6, .slice A1_1 a1.f7.length c1_1, .int .u64 a1.f8, .int .u64 a1.f9, .int .u64 a1.f10, .int .i64 a1.f11, .bool a1.f12, .int .i64 a1.f13]) (T := 63) (fr := (0, 0)) KR) 9 2 (.tmp 20) (.string a1.f2) rfl KR KR KR ?_; clear ha a; intro a ha
      refine stepp ha 22 (.bool (a0.f2.toList == a1.f2.toList)) KR KR ?_; clear ha a; intro a ha
      refine stepp ha 23 (.bool (a0.f2.toList == a1.f2.toList)) KR KR ?_; clear ha a; intro a ha
      refine stepp ha 24 (.bool (a0.f2.toList == a1.f2.toList)) KR KR ?_; clear ha a; intro a ha
      by_cases hp687 : a0.f2 = a1.f2
      · skip
        replace h := ite_pos' h hp687
        replace ha := ha.bool 24 KR (str_eq_t hp687)
        refine stepp ha 25 (.pointer (some ⟨b679, 3, none⟩)) KR KR ?_; clear ha a; intro a ha
        refine stepl ha 26 (HW.ca (i := 1) (b := b679) (C := #[.int .i64 a0.f0, .int .i64 a0.f1, .string a0.f2, .int .i64 a0.f3, .int .i64 a0.f4, .string a0.f5, .bool a0.f6, .slice A0_0 a0.f7.length c0_0, .int .u64 a0.f8, .int .u64 a0.f9, .int .u64 a0.f10, .int .i64 a0.f11, .bool a0.f12, .int .i64 a0.f13]) (T := 63) (fr := (0, 0)) KR) 3 3 (.tmp 25) (.int .i64 a0.f3) rfl KR KR KR ?_; clear ha a; intro a ha
        refine stepp ha 27 (.pointer (some ⟨b681, 3, none⟩)) KR KR ?_; clear ha a; intro a ha
        refine stepl ha 28 (HW.ca (i := 0) (b := b681) (C := #[.int .i64 a1.f0, .int .i64 a1.f1, .string a1.f2, .int .i64 a1.f3, .int .i64 a1.f4, .string a1.f5, .bool a1.f6, .slice A1_1 a1.f7.length c1_1, .int .u64 a1.f8, .int .u64 a1.f9, .int .u64 a1.f10, .int .i64 a1.f11, .bool a1.f12, .int .i64 a1.f13]) (T := 63) (fr := (0, 0)) KR) 3 3 (.tmp 27) (.int .i64 a1.f3) rfl KR KR KR ?_; clear ha a; intro a ha
        refine stepp ha 29 (.bool (a0.f3 == a1.f3)) KR KR ?_; clear ha a; intro a ha
        refine stepp ha 30 (.bool (a0.f3 == a1.f3)) KR KR ?_; clear ha a; intro a ha
        refine stepp ha 31 (.bool (a0.f3 == a1.f3)) KR KR ?_; clear ha a; intro a ha
        by_cases hp688 : a0.f3 = a1.f3
        · skip
          replace h := ite_pos' h hp688
          replace ha := ha.bool 31 KR (ieq_t hp688)
          refine stepp ha 32 (.pointer (some ⟨b679, 4, none⟩)) KR KR ?_; clear ha a; intro a ha
          refine stepl ha 33 (HW.ca (i := 1) (b := b679) (C := #[.int .i64 a0.f0, .int .i64 a0.f1, .string a0.f2, .int .i64 a0.f3, .int .i64 a0.f4, .string a0.f5, .bool a0.f6, .slice A0_0 a0.f7.length c0_0, .int .u64 a0.f8, .int .u64 a0.f9, .int .u64 a0.f10, .int .i64 a0.f11, .bool a0.f12, .int .i64 a0.f13]) (T := 63) (fr := (0, 0)) KR) 3 4 (.tmp 32) (.int .i64 a0.f4) rfl KR KR KR ?_; clear ha a; intro a ha
          refine stepp ha 34 (.pointer (some ⟨b681, 4, none⟩)) KR KR ?_; clear ha a; intro a ha
          refine stepl ha 35 (HW.ca (i := 0) (b := b681) (C := #[.int .i64 a1.f0, .int .i64 a1.f1, .string a1.f2, .int .i64 a1.f3, .int .i64 a1.f4, .string a1.f5, .bool a1.f6, .slice A1_1 a1.f7.length c1_1, .int .u64 a1.f8, .int .u64 a1.f9, .int .u64 a1.f10, .int .i64 a1.f11, .bool a1.f12, .int .i64 a1.f13]) (T := 63) (fr := (0, 0)) KR) 3 4 (.tmp 34) (.int .i64 a1.f4) rfl KR KR KR ?_; clear ha a; intro a ha
          refine stepp ha 36 (.bool (a0.f4 == a1.f4)) KR KR ?_; clear ha a; intro a ha
          refine stepp ha 37 (.bool (a0.f4 == a1.f4)) KR KR ?_; clear ha a; intro a ha
          refine stepp ha 38 (.bool (a0.f4 == a1.f4)) KR KR ?_; clear ha a; intro a ha
          by_cases hp689 : a0.f4 = a1.f4
          · skip
            replace h := ite_pos' h hp689
            replace ha := ha.bool 38 KR (ieq_t hp689)
            refine stepp ha 39 (.pointer (some ⟨b679, 5, none⟩)) KR KR ?_; clear ha a; intro a ha
            refine stepl ha 40 (HW.ca (i := 1) (b := b679) (C := #[.int .i64 a0.f0, .int .i64 a0.f1, .string a0.f2, .int .i64 a0.f3, .int .i64 a0.f4, .string a0.f5, .bool a0.f6, .slice A0_0 a0.f7.length c0_0, .int .u64 a0.f8, .int .u64 a0.f9, .int .u64 a0.f10, .int .i64 a0.f11, .bool a0.f12, .int .i64 a0.f13]) (T := 63) (fr := (0, 0)) KR) 9 5 (.tmp 39) (.string a0.f5) rfl KR KR KR ?_; clear ha a; intro a ha
            refine stepp ha 41 (.pointer (some ⟨b681, 5, none⟩)) KR KR ?_; clear ha a; intro a ha
            refine stepl ha 42 (HW.ca (i := 0) (b := b681) (C := #[.int .i64 a1.f0, .int .i64 a1.f1, .string a1.f2, .int .i64 a1.f3, .int .i64 a1.f4, .string a1.f5, .bool a1.f6, .slice A1_1 a1.f7.length c1_1, .int .u64 a1.f8, .int .u64 a1.f9, .int .u64 a1.f10, .int .i64 a1.f11, .bool a1.f12, .int .i64 a1.f13]) (T := 63) (fr := (0, 0)) KR) 9 5 (.tmp 41) (.string a1.f5) rfl KR KR KR ?_; clear ha a; intro a ha
            refine stepp ha 43 (.bool (a0.f5.toList == a1.f5.toList)) KR KR ?_; clear ha a; intro a ha
            refine stepp ha 44 (.bool (a0.f5.toList == a1.f5.toList)) KR KR ?_; clear ha a; intro a ha
            refine stepp ha 45 (.bool (a0.f5.toList == a1.f5.toList)) KR KR ?_; clear ha a; intro a ha
            by_cases hp690 : a0.f5 = a1.f5
            · skip
              replace h := ite_pos' h hp690
              replace ha := ha.bool 45 KR (str_eq_t hp690)
              refine stepp ha 46 (.pointer (some ⟨b679, 6, none⟩)) KR KR ?_; clear ha a; intro a ha
              refine stepl ha 47 (HW.ca (i := 1) (b := b679) (C := #[.int .i64 a0.f0, .int .i64 a0.f1, .string a0.f2, .int .i64 a0.f3, .int .i64 a0.f4, .string a0.f5, .bool a0.f6, .slice A0_0 a0.f7.length c0_0, .int .u64 a0.f8, .int .u64 a0.f9, .int .u64 a0.f10, .int .i64 a0.f11, .bool a0.f12, .int .i64 a0.f13]) (T := 63) (fr := (0, 0)) KR) 4 6 (.tmp 46) (.bool a0.f6) rfl KR KR KR ?_; clear ha a; intro a ha
              refine stepp ha 48 (.pointer (some ⟨b681, 6, none⟩)) KR KR ?_; clear ha a; intro a ha
              refine stepl ha 49 (HW.ca (i := 0) (b := b681) (C := #[.int .i64 a1.f0, .int .i64 a1.f1, .string a1.f2, .int .i64 a1.f3, .int .i64 a1.f4, .string a1.f5, .bool a1.f6, .slice A1_1 a1.f7.length c1_1, .int .u64 a1.f8, .int .u64 a1.f9, .int .u64 a1.f10, .int .i64 a1.f11, .bool a1.f12, .int .i64 a1.f13]) (T := 63) (fr := (0, 0)) KR) 4 6 (.tmp 48) (.bool a1.f6) rfl KR KR KR ?_; clear ha a; intro a ha
              refine stepp ha 50 (.bool (a0.f6 == a1.f6)) KR KR ?_; clear ha a; intro a ha
              refine stepp ha 51 (.bool (a0.f6 == a1.f6)) KR KR ?_; clear ha a; intro a ha
              refine stepp ha 52 (.bool (a0.f6 == a1.f6)) KR KR ?_; clear ha a; intro a ha
              by_cases hp691 : a0.f6 = a1.f6
              · skip
                replace h := ite_pos' h hp691
                replace ha := ha.bool 52 KR (beq_t hp691)
                refine stepp ha 53 (.pointer (some ⟨b679, 7, none⟩)) KR KR ?_; clear ha a; intro a ha
                refine stepl ha 54 (HW.ca (i := 1) (b := b679) (C := #[.int .i64 a0.f0, .int .i64 a0.f1, .string a0.f2, .int .i64 a0.f3, .int .i64 a0.f4, .string a0.f5, .bool a0.f6, .slice A0_0 a0.f7.length c0_0, .int .u64 a0.f8, .int .u64 a0.f9, .int .u64 a0.f10, .int .i64 a0.f11, .bool a0.f12, .int .i64 a0.f13]) (T := 63) (fr := (0, 0)) KR) 61 7 (.tmp 53) (.slice A0_0 a0.f7.length c0_0) rfl KR KR KR ?_; clear ha a; intro a ha
                refine stepp ha 55 (.int .i64 (a0.f7.length : Int)) KR KR ?_; clear ha a; intro a ha
                refine stepp ha 56 (.pointer (some ⟨b681, 7, none⟩)) KR KR ?_; clear ha a; intro a ha
                refine stepl ha 57 (HW.ca (i := 0) (b := b681) (C := #[.int .i64 a1.f0, .int .i64 a1.f1, .string a1.f2, .int .i64 a1.f3, .int .i64 a1.f4, .string a1.f5, .bool a1.f6, .slice A1_1 a1.f7.length c1_1, .int .u64 a1.f8, .int .u64 a1.f9, .int .u64 a1.f10, .int .i64 a1.f11, .bool a1.f12, .int .i64 a1.f13]) (T := 63) (fr := (0, 0)) KR) 61 7 (.tmp 56) (.slice A1_1 a1.f7.length c1_1) rfl KR KR KR ?_; clear ha a; intro a ha
                refine stepp ha 58 (.int .i64 (a1.f7.length : Int)) KR KR ?_; clear ha a; intro a ha
                refine stepp ha 59 (.bool ((a0.f7.length : Int) == (a1.f7.length : Int))) KR KR ?_; clear ha a; intro a ha
                refine stepp ha 60 (.bool ((a0.f7.length : Int) == (a1.f7.length : Int))) KR KR ?_; clear ha a; intro a ha
                refine stepp ha 61 (.bool ((a0.f7.length : Int) == (a1.f7.length : Int))) KR KR ?_; clear ha a; intro a ha
                by_cases hp692 : (a0.f7.length : Int) = (a1.f7.length : Int)
                · skip
                  replace h := ite_pos' h hp692
                  replace ha := ha.bool 61 KR (ieq_t hp692)
                  refine stepp ha 62 (.pointer (some ⟨b679, 8, none⟩)) KR KR ?_; clear ha a; intro a ha
                  refine stepl ha 63 (HW.ca (i := 1) (b := b679) (C := #[.int .i64 a0.f0, .int .i64 a0.f1, .string a0.f2, .int .i64 a0.f3, .int .i64 a0.f4, .string a0.f5, .bool a0.f6, .slice A0_0 a0.f7.length c0_0, .int .u64 a0.f8, .int .u64 a0.f9, .int .u64 a0.f10, .int .i64 a0.f11, .bool a0.f12, .int .i64 a0.f13]) (T := 63) (fr := (0, 0)) KR) 32 8 (.tmp 62) (.int .u64 a0.f8) rfl KR KR KR ?_; clear ha a; intro a ha
                  refine stepp ha 64 (.pointer (some ⟨b681, 8, none⟩)) KR KR ?_; clear ha a; intro a ha
                  refine stepl ha 65 (HW.ca (i := 0) (b := b681) (C := #[.int .i64 a1.f0, .int .i64 a1.f1, .string a1.f2, .int .i64 a1.f3, .int .i64 a1.f4, .string a1.f5, .bool a1.f6, .slice A1_1 a1.f7.length c1_1, .int .u64 a1.f8, .int .u64 a1.f9, .int .u64 a1.f10, .int .i64 a1.f11, .bool a1.f12, .int .i64 a1.f13]) (T := 63) (fr := (0, 0)) KR) 32 8 (.tmp 64) (.int .u64 a1.f8) rfl KR KR KR ?_; clear ha a; intro a ha
                  refine stepp ha 66 (.bool (a0.f8 == a1.f8)) KR KR ?_; clear ha a; intro a ha
                  refine stepp ha 67 (.bool (a0.f8 == a1.f8)) KR KR ?_; clear ha a; intro a ha
                  refine stepp ha 68 (.bool (a0.f8 == a1.f8)) KR KR ?_; clear ha a; intro a ha
                  by_cases hp693 : a0.f8 = a1.f8
                  · skip
                    replace h := ite_pos' h hp693
                    replace ha := ha.bool 68 KR (ieq_t hp693)
                    refine stepp ha 69 (.pointer (some ⟨b679, 9, none⟩)) KR KR ?_; clear ha a; intro a ha
                    refine stepl ha 70 (HW.ca (i := 1) (b := b679) (C := #[.int .i64 a0.f0, .int .i64 a0.f1, .string a0.f2, .int .i64 a0.f3, .int .i64 a0.f4, .string a0.f5, .bool a0.f6, .slice A0_0 a0.f7.length c0_0, .int .u64 a0.f8, .int .u64 a0.f9, .int .u64 a0.f10, .int .i64 a0.f11, .bool a0.f12, .int .i64 a0.f13]) (T := 63) (fr := (0, 0)) KR) 32 9 (.tmp 69) (.int .u64 a0.f9) rfl KR KR KR ?_; clear ha a; intro a ha
                    refine stepp ha 71 (.pointer (some ⟨b681, 9, none⟩)) KR KR ?_; clear ha a; intro a ha
                    refine stepl ha 72 (HW.ca (i := 0) (b := b681) (C := #[.int .i64 a1.f0, .int .i64 a1.f1, .string a1.f2, .int .i64 a1.f3, .int .i64 a1.f4, .string a1.f5, .bool a1.f6, .slice A1_1 a1.f7.length c1_1, .int .u64 a1.f8, .int .u64 a1.f9, .int .u64 a1.f10, .int .i64 a1.f11, .bool a1.f12, .int .i64 a1.f13]) (T := 63) (fr := (0, 0)) KR) 32 9 (.tmp 71) (.int .u64 a1.f9) rfl KR KR KR ?_; clear ha a; intro a ha
                    refine stepp ha 73 (.bool (a0.f9 == a1.f9)) KR KR ?_; clear ha a; intro a ha
                    refine stepp ha 74 (.bool (a0.f9 == a1.f9)) KR KR ?_; clear ha a; intro a ha
                    refine stepp ha 75 (.bool (a0.f9 == a1.f9)) KR KR ?_; clear ha a; intro a ha
                    by_cases hp694 : a0.f9 = a1.f9
                    · skip
                      replace h := ite_pos' h hp694
                      replace ha := ha.bool 75 KR (ieq_t hp694)
                      refine stepp ha 76 (.pointer (some ⟨b679, 10, none⟩)) KR KR ?_; clear ha a; intro a ha
                      refine stepl ha 77 (HW.ca (i := 1) (b := b679) (C := #[.int .i64 a0.f0, .int .i64 a0.f1, .string a0.f2, .int .i64 a0.f3, .int .i64 a0.f4, .string a0.f5, .bool a0.f6, .slice A0_0 a0.f7.length c0_0, .int .u64 a0.f8, .int .u64 a0.f9, .int .u64 a0.f10, .int .i64 a0.f11, .bool a0.f12, .int .i64 a0.f13]) (T := 63) (fr := (0, 0)) KR) 32 10 (.tmp 76) (.int .u64 a0.f10) rfl KR KR KR ?_; clear ha a; intro a ha
                      refine stepp ha 78 (.pointer (some ⟨b681, 10, none⟩)) KR KR ?_; clear ha a; intro a ha
                      refine stepl ha 79 (HW.ca (i := 0) (b := b681) (C := #[.int .i64 a1.f0, .int .i64 a1.f1, .string a1.f2, .int .i64 a1.f3, .int .i64 a1.f4, .string a1.f5, .bool a1.f6, .slice A1_1 a1.f7.length c1_1, .int .u64 a1.f8, .int .u64 a1.f9, .int .u64 a1.f10, .int .i64 a1.f11, .bool a1.f12, .int .i64 a1.f13]) (T := 63) (fr := (0, 0)) KR) 32 10 (.tmp 78) (.int .u64 a1.f10) rfl KR KR KR ?_; clear ha a; intro a ha
                      refine stepp ha 80 (.bool (a0.f10 == a1.f10)) KR KR ?_; clear ha a; intro a ha
                      refine stepp ha 81 (.bool (a0.f10 == a1.f10)) KR KR ?_; clear ha a; intro a ha
                      refine stepp ha 82 (.bool (a0.f10 == a1.f10)) KR KR ?_; clear ha a; intro a ha
                      by_cases hp695 : a0.f10 = a1.f10
                      · skip
                        replace h := ite_pos' h hp695
                        replace ha := ha.bool 82 KR (ieq_t hp695)
                        refine stepp ha 83 (.pointer (some ⟨b679, 11, none⟩)) KR KR ?_; clear ha a; intro a ha
                        refine stepl ha 84 (HW.ca (i := 1) (b := b679) (C := #[.int .i64 a0.f0, .int .i64 a0.f1, .string a0.f2, .int .i64 a0.f3, .int .i64 a0.f4, .string a0.f5, .bool a0.f6, .slice A0_0 a0.f7.length c0_0, .int .u64 a0.f8, .int .u64 a0.f9, .int .u64 a0.f10, .int .i64 a0.f11, .bool a0.f12, .int .i64 a0.f13]) (T := 63) (fr := (0, 0)) KR) 3 11 (.tmp 83) (.int .i64 a0.f11) rfl KR KR KR ?_; clear ha a; intro a ha
                        refine stepp ha 85 (.pointer (some ⟨b681, 11, none⟩)) KR KR ?_; clear ha a; intro a ha
                        refine stepl ha 86 (HW.ca (i := 0) (b := b681) (C := #[.int .i64 a1.f0, .int .i64 a1.f1, .string a1.f2, .int .i64 a1.f3, .int .i64 a1.f4, .string a1.f5, .bool a1.f6, .slice A1_1 a1.f7.length c1_1, .int .u64 a1.f8, .int .u64 a1.f9, .int .u64 a1.f10, .int .i64 a1.f11, .bool a1.f12, .int .i64 a1.f13]) (T := 63) (fr := (0, 0)) KR) 3 11 (.tmp 85) (.int .i64 a1.f11) rfl KR KR KR ?_; clear ha a; intro a ha
                        refine stepp ha 87 (.bool (a0.f11 == a1.f11)) KR KR ?_; clear ha a; intro a ha
                        refine stepp ha 88 (.bool (a0.f11 == a1.f11)) KR KR ?_; clear ha a; intro a ha
                        refine stepp ha 89 (.bool (a0.f11 == a1.f11)) KR KR ?_; clear ha a; intro a ha
                        by_cases hp696 : a0.f11 = a1.f11
                        · skip
                          replace h := ite_pos' h hp696
                          replace ha := ha.bool 89 KR (ieq_t hp696)
                          refine stepp ha 90 (.pointer (some ⟨b679, 12, none⟩)) KR KR ?_; clear ha a; intro a ha
                          refine stepl ha 91 (HW.ca (i := 1) (b := b679) (C := #[.int .i64 a0.f0, .int .i64 a0.f1, .string a0.f2, .int .i64 a0.f3, .int .i64 a0.f4, .string a0.f5, .bool a0.f6, .slice A0_0 a0.f7.length c0_0, .int .u64 a0.f8, .int .u64 a0.f9, .int .u64 a0.f10, .int .i64 a0.f11, .bool a0.f12, .int .i64 a0.f13]) (T := 63) (fr := (0, 0)) KR) 4 12 (.tmp 90) (.bool a0.f12) rfl KR KR KR ?_; clear ha a; intro a ha
                          refine stepp ha 92 (.pointer (some ⟨b681, 12, none⟩)) KR KR ?_; clear ha a; intro a ha
                          refine stepl ha 93 (HW.ca (i := 0) (b := b681) (C := #[.int .i64 a1.f0, .int .i64 a1.f1, .string a1.f2, .int .i64 a1.f3, .int .i64 a1.f4, .string a1.f5, .bool a1.f6, .slice A1_1 a1.f7.length c1_1, .int .u64 a1.f8, .int .u64 a1.f9, .int .u64 a1.f10, .int .i64 a1.f11, .bool a1.f12, .int .i64 a1.f13]) (T := 63) (fr := (0, 0)) KR) 4 12 (.tmp 92) (.bool a1.f12) rfl KR KR KR ?_; clear ha a; intro a ha
                          refine stepp ha 94 (.bool (a0.f12 == a1.f12)) KR KR ?_; clear ha a; intro a ha
                          refine stepp ha 95 (.bool (a0.f12 == a1.f12)) KR KR ?_; clear ha a; intro a ha
                          refine stepp ha 96 (.bool (a0.f12 == a1.f12)) KR KR ?_; clear ha a; intro a ha
                          by_cases hp697 : a0.f12 = a1.f12
                          · skip
                            replace h := ite_pos' h hp697
                            replace ha := ha.bool 96 KR (beq_t hp697)
                            refine stepp ha 97 (.pointer (some ⟨b679, 13, none⟩)) KR KR ?_; clear ha a; intro a ha
                            refine stepl ha 98 (HW.ca (i := 1) (b := b679) (C := #[.int .i64 a0.f0, .int .i64 a0.f1, .string a0.f2, .int .i64 a0.f3, .int .i64 a0.f4, .string a0.f5, .bool a0.f6, .slice A0_0 a0.f7.length c0_0, .int .u64 a0.f8, .int .u64 a0.f9, .int .u64 a0.f10, .int .i64 a0.f11, .bool a0.f12, .int .i64 a0.f13]) (T := 63) (fr := (0, 0)) KR) 3 13 (.tmp 97) (.int .i64 a0.f13) rfl KR KR KR ?_; clear ha a; intro a ha
                            refine stepp ha 99 (.pointer (some ⟨b681, 13, none⟩)) KR KR ?_; clear ha a; intro a ha
                            refine stepl ha 100 (HW.ca (i := 0) (b := b681) (C := #[.int .i64 a1.f0, .int .i64 a1.f1, .string a1.f2, .int .i64 a1.f3, .int .i64 a1.f4, .string a1.f5, .bool a1.f6, .slice A1_1 a1.f7.length c1_1, .int .u64 a1.f8, .int .u64 a1.f9, .int .u64 a1.f10, .int .i64 a1.f11, .bool a1.f12, .int .i64 a1.f13]) (T := 63) (fr := (0, 0)) KR) 3 13 (.tmp 99) (.int .i64 a1.f13) rfl KR KR KR ?_; clear ha a; intro a ha
                            refine stepp ha 101 (.bool (a0.f13 == a1.f13)) KR KR ?_; clear ha a; intro a ha
                            refine stepp ha 102 (.bool (a0.f13 == a1.f13)) KR KR ?_; clear ha a; intro a ha
                            refine stepp ha 4 (.bool (a0.f13 == a1.f13)) KR KR ?_; clear ha a; intro a ha
                            refine endl ?_
                            refine thenN (hK684 _ _ ?_); clear hK684
                            refine wp_ret ?_
                            obtain rfl := Option.some.inj h
                            exact finv ha _ _ rfl (.tmp (v := .bool (a0.f13 == a1.f13)) KR .nil) (.bool (a0.f13 == a1.f13)) rfl ⟨rfl, HW.pick [] [] (by decide) (by decide) rfl KR⟩
                          · skip
                            replace h := ite_neg' h hp697
                            replace ha := ha.bool 96 KR (beq_f hp697)
                            refine stepo ha 97 KR ?_; clear ha a; intro a ha
                            refine stepo ha 98 KR ?_; clear ha a; intro a ha
                            refine stepo ha 99 KR ?_; clear ha a; intro a ha
                            refine stepo ha 100 KR ?_; clear ha a; intro a ha
                            refine stepo ha 101 KR ?_; clear ha a; intro a ha
                            refine stepp ha 102 (.bool false) KR KR ?_; clear ha a; intro a ha
                            refine stepp ha 4 (.bool false) KR KR ?_; clear ha a; intro a ha
                            refine endl ?_
                            refine thenN (hK684 _ _ ?_); clear hK684
                            refine wp_ret ?_
                            obtain rfl := Option.some.inj h
                            exact finv ha _ _ rfl (.tmp (v := .bool false) KR .nil) (.bool false) rfl ⟨rfl, HW.pick [] [] (by decide) (by decide) rfl KR⟩
                        · skip
                          replace h := ite_neg' h hp696
                          replace ha := ha.bool 89 KR (ieq_f hp696)
                          refine stepo ha 90 KR ?_; clear ha a; intro a ha
                          refine stepo ha 91 KR ?_; clear ha a; intro a ha
                          refine stepo ha 92 KR ?_; clear ha a; intro a ha
                          refine stepo ha 93 KR ?_; clear ha a; intro a ha
                          refine stepo ha 94 KR ?_; clear ha a; intro a ha
                          refine stepp ha 95 (.bool false) KR KR ?_; clear ha a; intro a ha
                          refine stepp ha 96 (.bool false) KR KR ?_; clear ha a; intro a ha
                          refine stepo ha 97 KR ?_; clear ha a; intro a ha
                          refine stepo ha 98 KR ?_; clear ha a; intro a ha
                          refine stepo ha 99 KR ?_; clear ha a; intro a ha
                          refine stepo ha 100 KR ?_; clear ha a; intro a ha
                          refine stepo ha 101 KR ?_; clear ha a; intro a ha
                          refine stepp ha 102 (.bool false) KR KR ?_; clear ha a; intro a ha
                          refine stepp ha 4 (.bool false) KR KR ?_; clear ha a; intro a ha
                          refine endl ?_
                          refine thenN (hK684 _ _ ?_); clear hK684
                          refine wp_ret ?_
                          obtain rfl := Option.some.inj h
                          exact finv ha _ _ rfl (.tmp (v := .bool false) KR .nil) (.bool false) rfl ⟨rfl, HW.pick [] [] (by decide) (by decide) rfl KR⟩
                      · skip
                        replace h := ite_neg' h hp695
                        replace ha := ha.bool 82 KR (ieq_f hp695)
                        refine stepo ha 83 KR ?_; clear ha a; intro a ha
                        refine stepo ha 84 KR ?_; clear ha a; intro a ha
                        refine stepo ha 85 KR ?_; clear ha a; intro a ha
                        refine stepo ha 86 KR ?_; clear ha a; intro a ha
                        refine stepo ha 87 KR ?_; clear ha a; intro a ha
                        refine stepp ha 88 (.bool false) KR KR ?_; clear ha a; intro a ha
                        refine stepp ha 89 (.bool false) KR KR ?_; clear ha a; intro a ha
                        refine stepo ha 90 KR ?_; clear ha a; intro a ha
                        refine stepo ha 91 KR ?_; clear ha a; intro a ha
                        refine stepo ha 92 KR ?_; clear ha a; intro a ha
                        refine stepo ha 93 KR ?_; clear ha a; intro a ha
                        refine stepo ha 94 KR ?_; clear ha a; intro a ha
                        refine stepp ha 95 (.bool false) KR KR ?_; clear ha a; intro a ha
                        refine stepp ha 96 (.bool false) KR KR ?_; clear ha a; intro a ha
                        refine stepo ha 97 KR ?_; clear ha a; intro a ha
                        refine stepo ha 98 KR ?_; clear ha a; intro a ha
                        refine stepo ha 99 KR ?_; clear ha a; intro a ha
                        refine stepo ha 100 KR ?_; clear ha a; intro a ha
                        refine stepo ha 101 KR ?_; clear ha a; intro a ha
                        refine stepp ha 102 (.bool false) KR KR ?_; clear ha a; intro a ha
                        refine stepp ha 4 (.bool false) KR KR ?_; clear ha a; intro a ha
                        refine endl ?_
                        refine thenN (hK684 _ _ ?_); clear hK684
                        refine wp_ret ?_
                        obtain rfl := Option.some.inj h
                        exact finv ha _ _ rfl (.tmp (v := .bool false) KR .nil) (.bool false) rfl ⟨rfl, HW.pick [] [] (by decide) (by decide) rfl KR⟩
                    · skip
                      replace h := ite_neg' h hp694
                      replace ha := ha.bool 75 KR (ieq_f hp694)
                      refine stepo ha 76 KR ?_; clear ha a; intro a ha
                      refine stepo ha 77 KR ?_; clear ha a; intro a ha
                      refine stepo ha 78 KR ?_; clear ha a; intro a ha
                      refine stepo ha 79 KR ?_; clear ha a; intro a ha
                      refine stepo ha 80 KR ?_; clear ha a; intro a ha
                      refine stepp ha 81 (.bool false) KR KR ?_; clear ha a; intro a ha
                      refine stepp ha 82 (.bool false) KR KR ?_; clear ha a; intro a ha
                      refine stepo ha 83 KR ?_; clear ha a; intro a ha
                      refine stepo ha 84 KR ?_; clear ha a; intro a ha
                      refine stepo ha 85 KR ?_; clear ha a; intro a ha
                      refine stepo ha 86 KR ?_; clear ha a; intro a ha
                      refine stepo ha 87 KR ?_; clear ha a; intro a ha
                      refine stepp ha 88 (.bool false) KR KR ?_; clear ha a; intro a ha
                      refine stepp ha 89 (.bool false) KR KR ?_; clear ha a; intro a ha
                      refine stepo ha 90 KR ?_; clear ha a; intro a ha
                      refine stepo ha 91 KR ?_; clear ha a; intro a ha
                      refine stepo ha 92 KR ?_; clear ha a; intro a ha
                      refine stepo ha 93 KR ?_; clear ha a; intro a ha
                      refine stepo ha 94 KR ?_; clear ha a; intro a ha
                      refine stepp ha 95 (.bool false) KR KR ?_; clear ha a; intro a ha
                      refine stepp ha 96 (.bool false) KR KR ?_; clear ha a; intro a ha
                      refine stepo ha 97 KR ?_; clear ha a; intro a ha
                      refine stepo ha 98 KR ?_; clear ha a; intro a ha
                      refine stepo ha 99 KR ?_; clear ha a; intro a ha
                      refine stepo ha 100 KR ?_; clear ha a; intro a ha
                      refine stepo ha 101 KR ?_; clear ha a; intro a ha
                      refine stepp ha 102 (.bool false) KR KR ?_; clear ha a; intro a ha
                      refine stepp ha 4 (.bool false) KR KR ?_; clear ha a; intro a ha
                      refine endl ?_
                      refine thenN (hK684 _ _ ?_); clear hK684
                      refine wp_ret ?_
                      obtain rfl := Option.some.inj h
                      exact finv ha _ _ rfl (.tmp (v := .bool false) KR .nil) (.bool false) rfl ⟨rfl, HW.pick [] [] (by decide) (by decide) rfl KR⟩
                  · skip
                    replace h := ite_neg' h hp693
                    replace ha := ha.bool 68 KR (ieq_f hp693)
                    refine stepo ha 69 KR ?_; clear ha a; intro a ha
                    refine stepo ha 70 KR ?_; clear ha a; intro a ha
                    refine stepo ha 71 KR ?_; clear ha a; intro a ha
                    refine stepo ha 72 KR ?_; clear ha a; intro a ha
                    refine stepo ha 73 KR ?_; clear ha a; intro a ha
                    refine stepp ha 74 (.bool false) KR KR ?_; clear ha a; intro a ha
                    refine stepp ha 75 (.bool false) KR KR ?_; clear ha a; intro a ha
                    refine stepo ha 76 KR ?_; clear ha a; intro a ha
                    refine stepo ha 77 KR ?_; clear ha a; intro a ha
                    refine stepo ha 78 KR ?_; clear ha a; intro a ha
                    refine stepo ha 79 KR ?_; clear ha a; intro a ha
                    refine stepo ha 80 KR ?_; clear ha a; intro a ha
                    refine stepp ha 81 (.bool false) KR KR ?_; clear ha a; intro a ha
                    refine stepp ha 82 (.bool false) KR KR ?_; clear ha a; intro a ha
                    refine stepo ha 83 KR ?_; clear ha a; intro a ha
                    refine stepo ha 84 KR ?_; clear ha a; intro a ha
                    refine stepo ha 85 KR ?_; clear ha a; intro a ha
                    refine stepo ha 86 KR ?_; clear ha a; intro a ha
                    refine stepo ha 87 KR ?_; clear ha a; intro a ha
                    refine stepp ha 88 (.bool false) KR KR ?_; clear ha a; intro a ha
                    refine stepp ha 89 (.bool false) KR KR ?_; clear ha a; intro a ha
                    refine stepo ha 90 KR ?_; clear ha a; intro a ha
                    refine stepo ha 91 KR ?_; clear ha a; intro a ha
                    refine stepo ha 92 KR ?_; clear ha a; intro a ha
                    refine stepo ha 93 KR ?_; clear ha a; intro a ha
                    refine stepo ha 94 KR ?_; clear ha a; intro a ha
                    refine stepp ha 95 (.bool false) KR KR ?_; clear ha a; intro a ha
                    refine stepp ha 96 (.bool false) KR KR ?_; clear ha a; intro a ha
                    refine stepo ha 97 KR ?_; clear ha a; intro a ha
                    refine stepo ha 98 KR ?_; clear ha a; intro a ha
                    refine stepo ha 99 KR ?_; clear ha a; intro a ha
                    refine stepo ha 100 KR ?_; clear ha a; intro a ha
                    refine stepo ha 101 KR ?_; clear ha a; intro a ha
                    refine stepp ha 102 (.bool false) KR KR ?_; clear ha a; intro a ha
                    refine stepp ha 4 (.bool false) KR KR ?_; clear ha a; intro a ha
                    refine endl ?_
                    refine thenN (hK684 _ _ ?_); clear hK684
                    refine wp_ret ?_
                    obtain rfl := Option.some.inj h
                    exact finv ha _ _ rfl (.tmp (v := .bool false) KR .nil) (.bool false) rfl ⟨rfl, HW.pick [] [] (by decide) (by decide) rfl KR⟩
                · skip
                  replace h := ite_neg' h hp692
                  replace ha := ha.bool 61 KR (ieq_f hp692)
                  refine stepo ha 62 KR ?_; clear ha a; intro a ha
                  refine stepo ha 63 KR ?_; clear ha a; intro a ha
                  refine stepo ha 64 KR ?_; clear ha a; intro a ha
                  refine stepo ha 65 KR ?_; clear ha a; intro a ha
                  refine stepo ha 66 KR ?_; clear ha a; intro a ha
                  refine stepp ha 67 (.bool false) KR KR ?_; clear ha a; intro a ha
                  refine stepp ha 68 (.bool false) KR KR ?_; clear ha a; intro a ha
                  refine stepo ha 69 KR ?_; clear ha a; intro a ha
                  refine stepo ha 70 KR ?_; clear ha a; intro a ha
                  refine stepo ha 71 KR ?_; clear ha a; intro a ha
                  refine stepo ha 72 KR ?_; clear ha a; intro a ha
                  refine stepo ha 73 KR ?_; clear ha a; intro a ha
                  refine stepp ha 74 (.bool false) KR KR ?_; clear ha a; intro a ha
                  refine stepp ha 75 (.bool false) KR KR ?_; clear ha a; intro a ha
                  refine stepo ha 76 KR ?_; clear ha a; intro a ha
                  refine stepo ha 77 KR ?_; clear ha a; intro a ha
                  refine stepo ha 78 KR ?_; clear ha a; intro a ha
                  refine stepo ha 79 KR ?_; clear ha a; intro a ha
                  refine stepo ha 80 KR ?_; clear ha a; intro a ha
                  refine stepp ha 81 (.bool false) KR KR ?_; clear ha a; intro a ha
                  refine stepp ha 82 (.bool false) KR KR ?_; clear ha a; intro a ha
                  refine stepo ha 83 KR ?_; clear ha a; intro a ha
                  refine stepo ha 84 KR ?_; clear ha a; intro a ha
                  refine stepo ha 85 KR ?_; clear ha a; intro a ha
                  refine stepo ha 86 KR ?_; clear ha a; intro a ha
                  refine stepo ha 87 KR ?_; clear ha a; intro a ha
                  refine stepp ha 88 (.bool false) KR KR ?_; clear ha a; intro a ha
                  refine stepp ha 89 (.bool false) KR KR ?_; clear ha a; intro a ha
                  refine stepo ha 90 KR ?_; clear ha a; intro a ha
                  refine stepo ha 91 KR ?_; clear ha a; intro a ha
                  refine stepo ha 92 KR ?_; clear ha a; intro a ha
                  refine stepo ha 93 KR ?_; clear ha a; intro a ha
                  refine stepo ha 94 KR ?_; clear ha a; intro a ha
                  refine stepp ha 95 (.bool false) KR KR ?_; clear ha a; intro a ha
                  refine stepp ha 96 (.bool false) KR KR ?_; clear ha a; intro a ha
                  refine stepo ha 97 KR ?_; clear ha a; intro a ha
                  refine stepo ha 98 KR ?_; clear ha a; intro a ha
                  refine stepo ha 99 KR ?_; clear ha a; intro a ha
                  refine stepo ha 100 KR ?_; clear ha a; intro a ha
                  refine stepo ha 101 KR ?_; clear ha a; intro a ha
                  refine stepp ha 102 (.bool false) KR KR ?_; clear ha a; intro a ha
                  refine stepp ha 4 (.bool false) KR KR ?_; clear ha a; intro a ha
                  refine endl ?_
                  refine thenN (hK684 _ _ ?_); clear hK684
                  refine wp_ret ?_
                  obtain rfl := Option.some.inj h
                  exact finv ha _ _ rfl (.tmp (v := .bool false) KR .nil) (.bool false) rfl ⟨rfl, HW.pick [] [] (by decide) (by decide) rfl KR⟩
              · skip
                replace h := ite_neg' h hp691
                replace ha := ha.bool 52 KR (beq_f hp691)
                refine stepo ha 53 KR ?_; clear ha a; intro a ha
                refine stepo ha 54 KR ?_; clear ha a; intro a ha
                refine stepo ha 55 KR ?_; clear ha a; intro a ha
                refine stepo ha 56 KR ?_; clear ha a; intro a ha
                refine stepo ha 57 KR ?_; clear ha a; intro a ha
                refine stepo ha 58 KR ?_; clear ha a; intro a ha
                refine stepo ha 59 KR ?_; clear ha a; intro a ha
                refine stepp ha 60 (.bool false) KR KR ?_; clear ha a; intro a ha
                refine stepp ha 61 (.bool false) KR KR ?_; clear ha a; intro a ha
                refine stepo ha 62 KR ?_; clear ha a; intro a ha
                refine stepo ha 63 KR ?_; clear ha a; intro a ha
                refine stepo ha 64 KR ?_; clear ha a; intro a ha
                refine stepo ha 65 KR ?_; clear ha a; intro a ha
                refine stepo ha 66 KR ?_; clear ha a; intro a ha
                refine stepp ha 67 (.bool false) KR KR ?_; clear ha a; intro a ha
                refine stepp ha 68 (.bool false) KR KR ?_; clear ha a; intro a ha
                refine stepo ha 69 KR ?_; clear ha a; intro a ha
                refine stepo ha 70 KR ?_; clear ha a; intro a ha
                refine stepo ha 71 KR ?_; clear ha a; intro a ha
                refine stepo ha 72 KR ?_; clear ha a; intro a ha
                refine stepo ha 73 KR ?_; clear ha a; intro a ha
                refine stepp ha 74 (.bool false) KR KR ?_; clear ha a; intro a ha
                refine stepp ha 75 (.bool false) KR KR ?_; clear ha a; intro a ha
                refine stepo ha 76 KR ?_; clear ha a; intro a ha
                refine stepo ha 77 KR ?_; clear ha a; intro a ha
                refine stepo ha 78 KR ?_; clear ha a; intro a ha
                refine stepo ha 79 KR ?_; clear ha a; intro a ha
                refine stepo ha 80 KR ?_; clear ha a; intro a ha
                refine stepp ha 81 (.bool false) KR KR ?_; clear ha a; intro a ha
                refine stepp ha 82 (.bool false) KR KR ?_; clear ha a; intro a ha
                refine stepo ha 83 KR ?_; clear ha a; intro a ha
                refine stepo ha 84 KR ?_; clear ha a; intro a ha
                refine stepo ha 85 KR ?_; clear ha a; intro a ha
                refine stepo ha 86 KR ?_; clear ha a; intro a ha
                refine stepo ha 87 KR ?_; clear ha a; intro a ha
                refine stepp ha 88 (.bool false) KR KR ?_; clear ha a; intro a ha
                refine stepp ha 89 (.bool false) KR KR ?_; clear ha a; intro a ha
                refine stepo ha 90 KR ?_; clear ha a; intro a ha
                refine stepo ha 91 KR ?_; clear ha a; intro a ha
                refine stepo ha 92 KR ?_; clear ha a; intro a ha
                refine stepo ha 93 KR ?_; clear ha a; intro a ha
                refine stepo ha 94 KR ?_; clear ha a; intro a ha
                refine stepp ha 95 (.bool false) KR KR ?_; clear ha a; intro a ha
                refine stepp ha 96 (.bool false) KR KR ?_; clear ha a; intro a ha
                refine stepo ha 97 KR ?_; clear ha a; intro a ha
                refine stepo ha 98 KR ?_; clear ha a; intro a ha
                refine stepo ha 99 KR ?_; clear ha a; intro a ha
                refine stepo ha 100 KR ?_; clear ha a; intro a ha
                refine stepo ha 101 KR ?_; clear ha a; intro a ha
                refine stepp ha 102 (.bool false) KR KR ?_; clear ha a; intro a ha
                refine stepp ha 4 (.bool false) KR KR ?_; clear ha a; intro a ha
                refine endl ?_
                refine thenN (hK684 _ _ ?_); clear hK684
                refine wp_ret ?_
                obtain rfl := Option.some.inj h
                exact finv ha _ _ rfl (.tmp (v := .bool false) KR .nil) (.bool false) rfl ⟨rfl, HW.pick [] [] (by decide) (by decide) rfl KR⟩
            · skip
              replace h := ite_neg' h hp690
              replace ha := ha.bool 45 KR (str_eq_f hp690)
              refine stepo ha 46 KR ?_; clear ha a; intro a ha
              refine stepo ha 47 KR ?_; clear ha a; intro a ha
              refine stepo ha 48 KR ?_; clear ha a; intro a ha
              refine stepo ha 49 KR ?_; clear ha a; intro a ha
              refine stepo ha 50 KR ?_; clear ha a; intro a ha
              refine stepp ha 51 (.bool false) KR KR ?_; clear ha a; intro a ha
              refine stepp ha 52 (.bool false) KR KR ?_; clear ha a; intro a ha
              refine stepo ha 53 KR ?_; clear ha a; intro a ha
              refine stepo ha 54 KR ?_; clear ha a; intro a ha
              refine stepo ha 55 KR ?_; clear ha a; intro a ha
              refine stepo ha 56 KR ?_; clear ha a; intro a ha
              refine stepo ha 57 KR ?_; clear ha a; intro a ha
              refine stepo ha 58 KR ?_; clear ha a; intro a ha
              refine stepo ha 59 KR ?_; clear ha a; intro a ha
              refine stepp ha 60 (.bool false) KR KR ?_; clear ha a; intro a ha
              refine stepp ha 61 (.bool false) KR KR ?_; clear ha a; intro a ha
              refine stepo ha 62 KR ?_; clear ha a; intro a ha
              refine stepo ha 63 KR ?_; clear ha a; intro a ha
              refine stepo ha 64 KR ?_; clear ha a; intro a ha
              refine stepo ha 65 KR ?_; clear ha a; intro a ha
              refine stepo ha 66 KR ?_; clear ha a; intro a ha
              refine stepp ha 67 (.bool false) KR KR ?_; clear ha a; intro a ha
              refine stepp ha 68 (.bool false) KR KR ?_; clear ha a; intro a ha
              refine stepo ha 69 KR ?_; clear ha a; intro a ha
              refine stepo ha 70 KR ?_; clear ha a; intro a ha
              refine stepo ha 71 KR ?_; clear ha a; intro a ha
              refine stepo ha 72 KR ?_; clear ha a; intro a ha
              refine stepo ha 73 KR ?_; clear ha a; intro a ha
              refine stepp ha 74 (.bool false) KR KR ?_; clear ha a; intro a ha
              refine stepp ha 75 (.bool false) KR KR ?_; clear ha a; intro a ha
              refine stepo ha 76 KR ?_; clear ha a; intro a ha
              refine stepo ha 77 KR ?_; clear ha a; intro a ha
              refine stepo ha 78 KR ?_; clear ha a; intro a ha
              refine stepo ha 79 KR ?_; clear ha a; intro a ha
              refine stepo ha 80 KR ?_; clear ha a; intro a ha
              refine stepp ha 81 (.bool false) KR KR ?_; clear ha a; intro a ha
              refine stepp ha 82 (.bool false) KR KR ?_; clear ha a; intro a ha
              refine stepo ha 83 KR ?_; clear ha a; intro a ha
              refine stepo ha 84 KR ?_; clear ha a; intro a ha
              refine stepo ha 85 KR ?_; clear ha a; intro a ha
              refine stepo ha 86 KR ?_; clear ha a; intro a ha
              refine stepo ha 87 KR ?_; clear ha a; intro a ha
              refine stepp ha 88 (.bool false) KR KR ?_; clear ha a; intro a ha
              refine stepp ha 89 (.bool false) KR KR ?_; clear ha a; intro a ha
              refine stepo ha 90 KR ?_; clear ha a; intro a ha
              refine stepo ha 91 KR ?_; clear ha a; intro a ha
              refine stepo ha 92 KR ?_; clear ha a; intro a ha
              refine stepo ha 93 KR ?_; clear ha a; intro a ha
              refine stepo ha 94 KR ?_; clear ha a; intro a ha
              refine stepp ha 95 (.bool false) KR KR ?_; clear ha a; intro a ha
              refine stepp ha 96 (.bool false) KR KR ?_; clear ha a; intro a ha
              refine stepo ha 97 KR ?_; clear ha a; intro a ha
              refine stepo ha 98 KR ?_; clear ha a; intro a ha
              refine stepo ha 99 KR ?_; clear ha a; intro a ha
              refine stepo ha 100 KR ?_; clear ha a; intro a ha
              refine stepo ha 101 KR ?_; clear ha a; intro a ha
              refine stepp ha 102 (.bool false) KR KR ?_; clear ha a; intro a ha
              refine stepp ha 4 (.bool false) KR KR ?_; clear ha a; intro a ha
              refine endl ?_
              refine thenN (hK684 _ _ ?_); clear hK684
              refine wp_ret ?_
              obtain rfl := Option.some.inj h
              exact finv ha _ _ rfl (.tmp (v := .bool false) KR .nil) (.bool false) rfl ⟨rfl, HW.pick [] [] (by decide) (by decide) rfl KR⟩
          · skip
            replace h := ite_neg' h hp689
            replace ha := ha.bool 38 KR (ieq_f hp689)
            refine stepo ha 39 KR ?_; clear ha a; intro a ha
            refine stepo ha 40 KR ?_; clear ha a; intro a ha
            refine stepo ha 41 KR ?_; clear ha a; intro a ha
            refine stepo ha 42 KR ?_; clear ha a; intro a ha
            refine stepo ha 43 KR ?_; clear ha a; intro a ha
            refine stepp ha 44 (.bool false) KR KR ?_; clear ha a; intro a ha
            refine stepp ha 45 (.bool false) KR KR ?_; clear ha a; intro a ha
            refine stepo ha 46 KR ?_; clear ha a; intro a ha
            refine stepo ha 47 KR ?_; clear ha a; intro a ha
            refine stepo ha 48 KR ?_; clear ha a; intro a ha
            refine stepo ha 49 KR ?_; clear ha a; intro a ha
            refine stepo ha 50 KR ?_; clear ha a; intro a ha
            refine stepp ha 51 (.bool false) KR KR ?_; clear ha a; intro a ha
            refine stepp ha 52 (.bool false) KR KR ?_; clear ha a; intro a ha
            refine stepo ha 53 KR ?_; clear ha a; intro a ha
            refine stepo ha 54 KR ?_; clear ha a; intro a ha
            refine stepo ha 55 KR ?_; clear ha a; intro a ha
            refine stepo ha 56 KR ?_; clear ha a; intro a ha
            refine stepo ha 57 KR ?_; clear ha a; intro a ha
            refine stepo ha 58 KR ?_; clear ha a; intro a ha
            refine stepo ha 59 KR ?_; clear ha a; intro a ha
            refine stepp ha 60 (.bool false) KR KR ?_; clear ha a; intro a ha
            refine stepp ha 61 (.bool false) KR KR ?_; clear ha a; intro a ha
            refine stepo ha 62 KR ?_; clear ha a; intro a ha
            refine stepo ha 63 KR ?_; clear ha a; intro a ha
            refine stepo ha 64 KR ?_; clear ha a; intro a ha
            refine stepo ha 65 KR ?_; clear ha a; intro a ha
            refine stepo ha 66 KR ?_; clear ha a; intro a ha
            refine stepp ha 67 (.bool false) KR KR ?_; clear ha a; intro a ha
            refine stepp ha 68 (.bool false) KR KR ?_; clear ha a; intro a ha
            refine stepo ha 69 KR ?_; clear ha a; intro a ha
            refine stepo ha 70 KR ?_; clear ha a; intro a ha
            refine stepo ha 71 KR ?_; clear ha a; intro a ha
            refine stepo ha 72 KR ?_; clear ha a; intro a ha
            refine stepo ha 73 KR ?_; clear ha a; intro a ha
            refine stepp ha 74 (.bool false) KR KR ?_; clear ha a; intro a ha
            refine stepp ha 75 (.bool false) KR KR ?_; clear ha a; intro a ha
            refine stepo ha 76 KR ?_; clear ha a; intro a ha
            refine stepo ha 77 KR ?_; clear ha a; intro a ha
            refine stepo ha 78 KR ?_; clear ha a; intro a ha
            refine stepo ha 79 KR ?_; clear ha a; intro a ha
            refine stepo ha 80 KR ?_; clear ha a; intro a ha
            refine stepp ha 81 (.bool false) KR KR ?_; clear ha a; intro a ha
            refine stepp ha 82 (.bool false) KR KR ?_; clear ha a; intro a ha
            refine stepo ha 83 KR ?_; clear ha a; intro a ha
            refine stepo ha 84 KR ?_; clear ha a; intro a ha
            refine stepo ha 85 KR ?_; clear ha a; intro a ha
            refine stepo ha 86 KR ?_; clear ha a; intro a ha
            refine stepo ha 87 KR ?_; clear ha a; intro a ha
            refine stepp ha 88 (.bool false) KR KR ?_; clear ha a; intro a ha
            refine stepp ha 89 (.bool false) KR KR ?_; clear ha a; intro a ha
            refine stepo ha 90 KR ?_; clear ha a; intro a ha
            refine stepo ha 91 KR ?_; clear ha a; intro a ha
            refine stepo ha 92 KR ?_; clear ha a; intro a ha
            refine stepo ha 93 KR ?_; clear ha a; intro a ha
            refine stepo ha 94 KR ?_; clear ha a; intro a ha
            refine stepp ha 95 (.bool false) KR KR ?_; clear ha a; intro a ha
            refine stepp ha 96 (.bool false) KR KR ?_; clear ha a; intro a ha
            refine stepo ha 97 KR ?_; clear ha a; intro a ha
            refine stepo ha 98 KR ?_; clear ha a; intro a ha
            refine stepo ha 99 KR ?_; clear ha a; intro a ha
            refine stepo ha 100 KR ?_; clear ha a; intro a ha
            refine stepo ha 101 KR ?_; clear ha a; intro a ha
            refine stepp ha 102 (.bool false) KR KR ?_; clear ha a; intro a ha
            refine stepp ha 4 (.bool false) KR KR ?_; clear ha a; intro a ha
            refine endl ?_
            refine thenN (hK684 _ _ ?_); clear hK684
            refine wp_ret ?_
            obtain rfl := Option.some.inj h
            exact finv ha _ _ rfl (.tmp (v := .bool false) KR .nil) (.bool false) rfl ⟨rfl, HW.pick [] [] (by decide) (by decide) rfl KR⟩
        · skip
          replace h := ite_neg' h hp688
          replace ha := ha.bool 31 KR (ieq_f hp688)
          refine stepo ha 32 KR ?_; clear ha a; intro a ha
          refine stepo ha 33 KR ?_; clear ha a; intro a ha
          refine stepo ha 34 KR ?_; clear ha a; intro a ha
          refine stepo ha 35 KR ?_; clear ha a; intro a ha
          refine stepo ha 36 KR ?_; clear ha a; intro a ha
          refine stepp ha 37 (.bool false) KR KR ?_; clear ha a; intro a ha
          refine stepp ha 38 (.bool false) KR KR ?_; clear ha a; intro a ha
          refine stepo ha 39 KR ?_; clear ha a; intro a ha
          refine stepo ha 40 KR ?_; clear ha a; intro a ha
          refine stepo ha 41 KR ?_; clear ha a; intro a ha
          refine stepo ha 42 KR ?_; clear ha a; intro a ha
          refine stepo ha 43 KR ?_; clear ha a; intro a ha
          refine stepp ha 44 (.bool false) KR KR ?_; clear ha a; intro a ha
          refine stepp ha 45 (.bool false) KR KR ?_; clear ha a; intro a ha
          refine stepo ha 46 KR ?_; clear ha a; intro a ha
          refine stepo ha 47 KR ?_; clear ha a; intro a ha
          refine stepo ha 48 KR ?_; clear ha a; intro a ha
          refine stepo ha 49 KR ?_; clear ha a; intro a ha
          refine stepo ha 50 KR ?_; clear ha a; intro a ha
          refine stepp ha 51 (.bool false) KR KR ?_; clear ha a; intro a ha
          refine stepp ha 52 (.bool false) KR KR ?_; clear ha a; intro a ha
          refine stepo ha 53 KR ?_; clear ha a; intro a ha
          refine stepo ha 54 KR ?_; clear ha a; intro a ha
          refine stepo ha 55 KR ?_; clear ha a; intro a ha
          refine stepo ha 56 KR ?_; clear ha a; intro a ha
          refine stepo ha 57 KR ?_; clear ha a; intro a ha
          refine stepo ha 58 KR ?_; clear ha a; intro a ha
          refine stepo ha 59 KR ?_; clear ha a; intro a ha
          refine stepp ha 60 (.bool false) KR KR ?_; clear ha a; intro a ha
          refine stepp ha 61 (.bool false) KR KR ?_; clear ha a; intro a ha
          refine stepo ha 62 KR ?_; clear ha a; intro a ha
          refine stepo ha 63 KR ?_; clear ha a; intro a ha
          refine stepo ha 64 KR ?_; clear ha a; intro a ha
          refine stepo ha 65 KR ?_; clear ha a; intro a ha
          refine stepo ha 66 KR ?_; clear ha a; intro a ha
          refine stepp ha 67 (.bool false) KR KR ?_; clear ha a; intro a ha
          refine stepp ha 68 (.bool false) KR KR ?_; clear ha a; intro a ha
          refine stepo ha 69 KR ?_; clear ha a; intro a ha
          refine stepo ha 70 KR ?_; clear ha a; intro a ha
          refine stepo ha 71 KR ?_; clear ha a; intro a ha
          refine stepo ha 72 KR ?_; clear ha a; intro a ha
          refine stepo ha 73 KR ?_; clear ha a; intro a ha
          refine stepp ha 74 (.bool false) KR KR ?_; clear ha a; intro a ha
          refine stepp ha 75 (.bool false) KR KR ?_; clear ha a; intro a ha
          refine stepo ha 76 KR ?_; clear ha a; intro a ha
          refine stepo ha 77 KR ?_; clear ha a; intro a ha
          refine stepo ha 78 KR ?_; clear ha a; intro a ha
          refine stepo ha 79 KR ?_; clear ha a; intro a ha
          refine stepo ha 80 KR ?_; clear ha a; intro a ha
          refine stepp ha 81 (.bool false) KR KR ?_; clear ha a; intro a ha
          refine stepp ha 82 (.bool false) KR KR ?_; clear ha a; intro a ha
          refine stepo ha 83 KR ?_; clear ha a; intro a ha
          refine stepo ha 84 KR ?_; clear ha a; intro a ha
          refine stepo ha 85 KR ?_; clear ha a; intro a ha
          refine stepo ha 86 KR ?_; clear ha a; intro a ha
          refine stepo ha 87 KR ?_; clear ha a; intro a ha
          refine stepp ha 88 (.bool false) KR KR ?_; clear ha a; intro a ha
          refine stepp ha 89 (.bool false) KR KR ?_; clear ha a; intro a ha
          refine stepo ha 90 KR ?_; clear ha a; intro a ha
          refine stepo ha 91 KR ?_; clear ha a; intro a ha
          refine stepo ha 92 KR ?_; clear ha a; intro a ha
          refine stepo ha 93 KR ?_; clear ha a; intro a ha
          refine stepo ha 94 KR ?_; clear ha a; intro a ha
          refine stepp ha 95 (.bool false) KR KR ?_; clear ha a; intro a ha
          refine stepp ha 96 (.bool false) KR KR ?_; clear ha a; intro a ha
          refine stepo ha 97 KR ?_; clear ha a; intro a ha
          refine stepo ha 98 KR ?_; clear ha a; intro a ha
          refine stepo ha 99 KR ?_; clear ha a; intro a ha
          refine stepo ha 100 KR ?_; clear ha a; intro a ha
          refine stepo ha 101 KR ?_; clear ha a; intro a ha
          refine stepp ha 102 (.bool false) KR KR ?_; clear ha a; intro a ha
          refine stepp ha 4 (.bool false) KR KR ?_; clear ha a; intro a ha
          refine endl ?_
          refine thenN (hK684 _ _ ?_); clear hK684
          refine wp_ret ?_
          obtain rfl := Option.some.inj h
          exact finv ha _ _ rfl (.tmp (v := .bool false) KR .nil) (.bool false) rfl ⟨rfl, HW.pick [] [] (by decide) (by decide) rfl KR⟩
      · skip
        replace h := ite_neg' h hp687
        replace ha := ha.bool 24 KR (str_eq_f hp687)
        refine stepo ha 25 KR ?_; clear ha a; intro a ha
        refine stepo ha 26 KR ?_; clear ha a; intro a ha
        refine stepo ha 27 KR ?_; clear ha a; intro a ha
        refine stepo ha 28 KR ?_; clear ha a; intro a ha
        refine stepo ha 29 KR ?_; clear ha a; intro a ha
        refine stepp ha 30 (.bool false) KR KR ?_; clear ha a; intro a ha
        refine stepp ha 31 (.bool false) KR KR ?_; clear ha a; intro a ha
        refine stepo ha 32 KR ?_; clear ha a; intro a ha
        refine stepo ha 33 KR ?_; clear ha a; intro a ha
        refine stepo ha 34 KR ?_; clear ha a; intro a ha
        refine stepo ha 35 KR ?_; clear ha a; intro a ha
        refine stepo ha 36 KR ?_; clear ha a; intro a ha
        refine stepp ha 37 (.bool false) KR KR ?_; clear ha a; intro a ha
        refine stepp ha 38 (.bool false) KR KR ?_; clear ha a; intro a ha
        refine stepo ha 39 KR ?_; clear ha a; intro a ha
        refine stepo ha 40 KR ?_; clear ha a; intro a ha
        refine stepo ha 41 KR ?_; clear ha a; intro a ha
        refine stepo ha 42 KR ?_; clear ha a; intro a ha
        refine stepo ha 43 KR ?_; clear ha a; intro a ha
        refine stepp ha 44 (.bool false) KR KR ?_; clear ha a; intro a ha
        refine stepp ha 45 (.bool false) KR KR ?_; clear ha a; intro a ha
        refine stepo ha 46 KR ?_; clear ha a; intro a ha
        refine stepo ha 47 KR ?_; clear ha a; intro a ha
        refine stepo ha 48 KR ?_; clear ha a; intro a ha
        refine stepo ha 49 KR ?_; clear ha a; intro a ha
        refine stepo ha 50 KR ?_; clear ha a; intro a ha
        refine stepp ha 51 (.bool false) KR KR ?_; clear ha a; intro a ha
        refine stepp ha 52 (.bool false) KR KR ?_; clear ha a; intro a ha
        refine stepo ha 53 KR ?_; clear ha a; intro a ha
        refine stepo ha 54 KR ?_; clear ha a; intro a ha
        refine stepo ha 55 KR ?_; clear ha a; intro a ha
        refine stepo ha 56 KR ?_; clear ha a; intro a ha
        refine stepo ha 57 KR ?_; clear ha a; intro a ha
        refine stepo ha 58 KR ?_; clear ha a; intro a ha
        refine stepo ha 59 KR ?_; clear ha a; intro a ha
        refine stepp ha 60 (.bool false) KR KR ?_; clear ha a; intro a ha
        refine stepp ha 61 (.bool false) KR KR ?_; clear ha a; intro a ha
        refine stepo ha 62 KR ?_; clear ha a; intro a ha
        refine stepo ha 63 KR ?_; clear ha a; intro a ha
        refine stepo ha 64 KR ?_; clear ha a; intro a ha
        refine stepo ha 65 KR ?_; clear ha a; intro a ha
        refine stepo ha 66 KR ?_; clear ha a; intro a ha
        refine stepp ha 67 (.bool false) KR KR ?_; clear ha a; intro a ha
        refine stepp ha 68 (.bool false) KR KR ?_; clear ha a; intro a ha
        refine stepo ha 69 KR ?_; clear ha a; intro a ha
        refine stepo ha 70 KR ?_; clear ha a; intro a ha
        refine stepo ha 71 KR ?_; clear ha a; intro a ha
        refine stepo ha 72 KR ?_; clear ha a; intro a ha
        refine stepo ha 73 KR ?_; clear ha a; intro a ha
        refine stepp ha 74 (.bool false) KR KR ?_; clear ha a; intro a ha
        refine stepp ha 75 (.bool false) KR KR ?_; clear ha a; intro a ha
        refine stepo ha 76 KR ?_; clear ha a; intro a ha
        refine stepo ha 77 KR ?_; clear ha a; intro a ha
        refine stepo ha 78 KR ?_; clear ha a; intro a ha
        refine stepo ha 79 KR ?_; clear ha a; intro a ha
        refine stepo ha 80 KR ?_; clear ha a; intro a ha
        refine stepp ha 81 (.bool false) KR KR ?_; clear ha a; intro a ha
        refine stepp ha 82 (.bool false) KR KR ?_; clear ha a; intro a ha
        refine stepo ha 83 KR ?_; clear ha a; intro a ha
        refine stepo ha 84 KR ?_; clear ha a; intro a ha
        refine stepo ha 85 KR ?_; clear ha a; intro a ha
        refine stepo ha 86 KR ?_; clear ha a; intro a ha
        refine stepo ha 87 KR ?_; clear ha a; intro a ha
        refine stepp ha 88 (.bool false) KR KR ?_; clear ha a; intro a ha
        refine stepp ha 89 (.bool false) KR KR ?_; clear ha a; intro a ha
        refine stepo ha 90 KR ?_; clear ha a; intro a ha
        refine stepo ha 91 KR ?_; clear ha a; intro a ha
        refine stepo ha 92 KR ?_; clear ha a; intro a ha
        refine stepo ha 93 KR ?_; clear ha a; intro a ha
        refine stepo ha 94 KR ?_; clear ha a; intro a ha
        refine stepp ha 95 (.bool false) KR KR ?_; clear ha a; intro a ha
        refine stepp ha 96 (.bool false) KR KR ?_; clear ha a; intro a ha
        refine stepo ha 97 KR ?_; clear ha a; intro a ha
        refine stepo ha 98 KR ?_; clear ha a; intro a ha
        refine stepo ha 99 KR ?_; clear ha a; intro a ha
        refine stepo ha 100 KR ?_; clear ha a; intro a ha
        refine stepo ha 101 KR ?_; clear ha a; intro a ha
        refine stepp ha 102 (.bool false) KR KR ?_; clear ha a; intro a ha
        refine stepp ha 4 (.bool false) KR KR ?_; clear ha a; intro a ha
        refine endl ?_
        refine thenN (hK684 _ _ ?_); clear hK684
        refine wp_ret ?_
        obtain rfl := Option.some.inj h
        exact finv ha _ _ rfl (.tmp (v := .bool false) KR .nil) (.bool false) rfl ⟨rfl, HW.pick [] [] (by decide) (by decide) rfl KR⟩
    · skip
      replace h := ite_neg' h hp686
      replace ha := ha.bool 17 KR (ieq_f hp686)
      refine stepo ha 18 KR ?_; clear ha a; intro a ha
      refine stepo ha 19 KR ?_; clear ha a; intro a ha
      refine stepo ha 20 KR ?_; clear ha a; intro a ha
      refine stepo ha 21 KR ?_; clear ha a; intro a ha
      refine stepo ha 22 KR ?_; clear ha a; intro a ha
      refine stepp ha 23 (.bool false) KR KR ?_; clear ha a; intro a ha
      refine stepp ha 24 (.bool false) KR KR ?_; clear ha a; intro a ha
      refine stepo ha 25 KR ?_; clear ha a; intro a ha
      refine stepo ha 26 KR ?_; clear ha a; intro a ha
      refine stepo ha 27 KR ?_; clear ha a; intro a ha
      refine stepo ha 28 KR ?_; clear ha a; intro a ha
      refine stepo ha 29 KR ?_; clear ha a; intro a ha
      refine stepp ha 30 (.bool false) KR KR ?_; clear ha a; intro a ha
      refine stepp ha 31 (.bool false) KR KR ?_; clear ha a; intro a ha
      refine stepo ha 32 KR ?_; clear ha a; intro a ha
      refine stepo ha 33 KR ?_; clear ha a; intro a ha
      refine stepo ha 34 KR ?_; clear ha a; intro a ha
      refine stepo ha 35 KR ?_; clear ha a; intro a ha
      refine stepo ha 36 KR ?_; clear ha a; intro a ha
      refine stepp ha 37 (.bool false) KR KR ?_; clear ha a; intro a ha
      refine stepp ha 38 (.bool false) KR KR ?_; clear ha a; intro a ha
      refine stepo ha 39 KR ?_; clear ha a; intro a ha
      refine stepo ha 40 KR ?_; clear ha a; intro a ha
      refine stepo ha 41 KR ?_; clear ha a; intro a ha
      refine stepo ha 42 KR ?_; clear ha a; intro a ha
      refine stepo ha 43 KR ?_; clear ha a; intro a ha
      refine stepp ha 44 (.bool false) KR KR ?_; clear ha a; intro a ha
      refine stepp ha 45 (.bool false) KR KR ?_; clear ha a; intro a ha
      refine stepo ha 46 KR ?_; clear ha a; intro a ha
      refine stepo ha 47 KR ?_; clear ha a; intro a ha
      refine stepo ha 48 KR ?_; clear ha a; intro a ha
      refine stepo ha 49 KR ?_; clear ha a; intro a ha
      refine stepo ha 50 KR ?_; clear ha a; intro a ha
      refine stepp ha 51 (.bool false) KR KR ?_; clear ha a; intro a ha
      refine stepp ha 52 (.bool false) KR KR ?_; clear ha a; intro a ha
      refine stepo ha 53 KR ?_; clear ha a; intro a ha
      refine stepo ha 54 KR ?_; clear ha a; intro a ha
      refine stepo ha 55 KR ?_; clear ha a; intro a ha
      refine stepo ha 56 KR ?_; clear ha a; intro a ha
      refine stepo ha 57 KR ?_; clear ha a; intro a ha
      refine stepo ha 58 KR ?_; clear ha a; intro a ha
      refine stepo ha 59 KR ?_; clear ha a; intro a ha
      refine stepp ha 60 (.bool false) KR KR ?_; clear ha a; intro a ha
      refine stepp ha 61 (.bool false) KR KR ?_; clear ha a; intro a ha
      refine stepo ha 62 KR ?_; clear ha a; intro a ha
      refine stepo ha 63 KR ?_; clear ha a; intro a ha
      refine stepo ha 64 KR ?_; clear ha a; intro a ha
      refine stepo ha 65 KR ?_; clear ha a; intro a ha
      refine stepo ha 66 KR ?_; clear ha a; intro a ha
      refine stepp ha 67 (.bool false) KR KR ?_; clear ha a; intro a ha
      refine stepp ha 68 (.bool false) KR KR ?_; clear ha a; intro a ha
      refine stepo ha 69 KR ?_; clear ha a; intro a ha
      refine stepo ha 70 KR ?_; clear ha a; intro a ha
      refine stepo ha 71 KR ?_; clear ha a; intro a ha
      refine stepo ha 72 KR ?_; clear ha a; intro a ha
      refine stepo ha 73 KR ?_; clear ha a; intro a ha
      refine stepp ha 74 (.bool false) KR KR ?_; clear ha a; intro a ha
      refine stepp ha 75 (.bool false) KR KR ?_; clear ha a; intro a ha
      refine stepo ha 76 KR ?_; clear ha a; intro a ha
      refine stepo ha 77 KR ?_; clear ha a; intro a ha
      refine stepo ha 78 KR ?_; clear ha a; intro a ha
      refine stepo ha 79 KR ?_; clear ha a; intro a ha
      refine stepo ha 80 KR ?_; clear ha a; intro a ha
      refine stepp ha 81 (.bool false) KR KR ?_; clear ha a; intro a ha
      refine stepp ha 82 (.bool false) KR KR ?_; clear ha a; intro a ha
      refine stepo ha 83 KR ?_; clear ha a; intro a ha
      refine stepo ha 84 KR ?_; clear ha a; intro a ha
      refine stepo ha 85 KR ?_; clear ha a; intro a ha
      refine stepo ha 86 KR ?_; clear ha a; intro a ha
      refine stepo ha 87 KR ?_; clear ha a; intro a ha
      refine stepp ha 88 (.bool false) KR KR ?_; clear ha a; intro a ha
      refine stepp ha 89 (.bool false) KR KR ?_; clear ha a; intro a ha
      refine stepo ha 90 KR ?_; clear ha a; intro a ha
      refine stepo ha 91 KR ?_; clear ha a; intro a ha
      refine stepo ha 92 KR ?_; clear ha a; intro a ha
      refine stepo ha 93 KR ?_; clear ha a; intro a ha
      refine stepo ha 94 KR ?_; clear ha a; intro a ha
      refine stepp ha 95 (.bool false) KR KR ?_; clear ha a; intro a ha
      refine stepp ha 96 (.bool false) KR KR ?_; clear ha a; intro a ha
      refine stepo ha 97 KR ?_; clear ha a; intro a ha
      refine stepo ha 98 KR ?_; clear ha a; intro a ha
      refine stepo ha 99 KR ?_; clear ha a; intro a ha
      refine stepo ha 100 KR ?_; clear ha a; intro a ha
      refine stepo ha 101 KR ?_; clear ha a; intro a ha
      refine stepp ha 102 (.bool false) KR KR ?_; clear ha a; intro a ha
      refine stepp ha 4 (.bool false) KR KR ?_; clear ha a; intro a ha
      refine endl ?_
      refine thenN (hK684 _ _ ?_); clear hK684
      refine wp_ret ?_
      obtain rfl := Option.some.inj h
      exact finv ha _ _ rfl (.tmp (v := .bool false) KR .nil) (.bool false) rfl ⟨rfl, HW.pick [] [] (by decide) (by decide) rfl KR⟩
  · skip
    replace h := ite_neg' h hp685
    replace ha := ha.bool 10 KR (ieq_f hp685)
    refine stepo ha 11 KR ?_; clear ha a; intro a ha
    refine stepo ha 12 KR ?_; clear ha a; intro a ha
    refine stepo ha 13 KR ?_; clear ha a; intro a ha
    refine stepo ha 14 KR ?_; clear ha a; intro a ha
    refine stepo ha 15 KR ?_; clear ha a; intro a ha
    refine stepp ha 16 (.bool false) KR KR ?_; clear ha a; intro a ha
    refine stepp ha 17 (.bool false) KR KR ?_; clear ha a; intro a ha
    refine stepo ha 18 KR ?_; clear ha a; intro a ha
    refine stepo ha 19 KR ?_; clear ha a; intro a ha
    refine stepo ha 20 KR ?_; clear ha a; intro a ha
    refine stepo ha 21 KR ?_; clear ha a; intro a ha
    refine stepo ha 22 KR ?_; clear ha a; intro a ha
    refine stepp ha 23 (.bool false) KR KR ?_; clear ha a; intro a ha
    refine stepp ha 24 (.bool false) KR KR ?_; clear ha a; intro a ha
    refine stepo ha 25 KR ?_; clear ha a; intro a ha
    refine stepo ha 26 KR ?_; clear ha a; intro a ha
    refine stepo ha 27 KR ?_; clear ha a; intro a ha
    refine stepo ha 28 KR ?_; clear ha a; intro a ha
    refine stepo ha 29 KR ?_; clear ha a; intro a ha
    refine stepp ha 30 (.bool false) KR KR ?_; clear ha a; intro a ha
    refine stepp ha 31 (.bool false) KR KR ?_; clear ha a; intro a ha
    refine stepo ha 32 KR ?_; clear ha a; intro a ha
    refine stepo ha 33 KR ?_; clear ha a; intro a ha
    refine stepo ha 34 KR ?_; clear ha a; intro a ha
    refine stepo ha 35 KR ?_; clear ha a; intro a ha
    refine stepo ha 36 KR ?_; clear ha a; intro a ha
    refine stepp ha 37 (.bool false) KR KR ?_; clear ha a; intro a ha
    refine stepp ha 38 (.bool false) KR KR ?_; clear ha a; intro a ha
    refine stepo ha 39 KR ?_; clear ha a; intro a ha
    refine stepo ha 40 KR ?_; clear ha a; intro a ha
    refine stepo ha 41 KR ?_; clear ha a; intro a ha
    refine stepo ha 42 KR ?_; clear ha a; intro a ha
    refine stepo ha 43 KR ?_; clear ha a; intro a ha
    refine stepp ha 44 (.bool false) KR KR ?_; clear ha a; intro a ha
    refine stepp ha 45 (.bool false) KR KR ?_; clear ha a; intro a ha
    refine stepo ha 46 KR ?_; clear ha a; intro a ha
    refine stepo ha 47 KR ?_; clear ha a; intro a ha
    refine stepo ha 48 KR ?_; clear ha a; intro a ha
    refine stepo ha 49 KR ?_; clear ha a; intro a ha
    refine stepo ha 50 KR ?_; clear ha a; intro a ha
    refine stepp ha 51 (.bool false) KR KR ?_; clear ha a; intro a ha
    refine stepp ha 52 (.bool false) KR KR ?_; clear ha a; intro a ha
    refine stepo ha 53 KR ?_; clear ha a; intro a ha
    refine stepo ha 54 KR ?_; clear ha a; intro a ha
    refine stepo ha 55 KR ?_; clear ha a; intro a ha
    refine stepo ha 56 KR ?_; clear ha a; intro a ha
    refine stepo ha 57 KR ?_; clear ha a; intro a ha
    refine stepo ha 58 KR ?_; clear ha a; intro a ha
    refine stepo ha 59 KR ?_; clear ha a; intro a ha
    refine stepp ha 60 (.bool false) KR KR ?_; clear ha a; intro a ha
    refine stepp ha 61 (.bool false) KR KR ?_; clear ha a; intro a ha
    refine stepo ha 62 KR ?_; clear ha a; intro a ha
    refine stepo ha 63 KR ?_; clear ha a; intro a ha
    refine stepo ha 64 KR ?_; clear ha a; intro a ha
    refine stepo ha 65 KR ?_; clear ha a; intro a ha
    refine stepo ha 66 KR ?_; clear ha a; intro a ha
    refine stepp ha 67 (.bool false) KR KR ?_; clear ha a; intro a ha
    refine stepp ha 68 (.bool false) KR KR ?_; clear ha a; intro a ha
    refine stepo ha 69 KR ?_; clear ha a; intro a ha
    refine stepo ha 70 KR ?_; clear ha a; intro a ha
    refine stepo ha 71 KR ?_; clear ha a; intro a ha
    refine stepo ha 72 KR ?_; clear ha a; intro a ha
    refine stepo ha 73 KR ?_; clear ha a; intro a ha
    refine stepp ha 74 (.bool false) KR KR ?_; clear ha a; intro a ha
    refine stepp ha 75 (.bool false) KR KR ?_; clear ha a; intro a ha
    refine stepo ha 76 KR ?_; clear ha a; intro a ha
    refine stepo ha 77 KR ?_; clear ha a; intro a ha
    refine stepo ha 78 KR ?_; clear ha a; intro a ha
    refine stepo ha 79 KR ?_; clear ha a; intro a ha
    refine stepo ha 80 KR ?_; clear ha a; intro a ha
    refine stepp ha 81 (.bool false) KR KR ?_; clear ha a; intro a ha
    refine stepp ha 82 (.bool false) KR KR ?_; clear ha a; intro a ha
    refine stepo ha 83 KR ?_; clear ha a; intro a ha
    refine stepo ha 84 KR ?_; clear ha a; intro a ha
    refine stepo ha 85 KR ?_; clear ha a; intro a ha
    refine stepo ha 86 KR ?_; clear ha a; intro a ha
    refine stepo ha 87 KR ?_; clear ha a; intro a ha
    refine stepp ha 88 (.bool false) KR KR ?_; clear ha a; intro a ha
    refine stepp ha 89 (.bool false) KR KR ?_; clear ha a; intro a ha
    refine stepo ha 90 KR ?_; clear ha a; intro a ha
    refine stepo ha 91 KR ?_; clear ha a; intro a ha
    refine stepo ha 92 KR ?_; clear ha a; intro a ha
    refine stepo ha 93 KR ?_; clear ha a; intro a ha
    refine stepo ha 94 KR ?_; clear ha a; intro a ha
    refine stepp ha 95 (.bool false) KR KR ?_; clear ha a; intro a ha
    refine stepp ha 96 (.bool false) KR KR ?_; clear ha a; intro a ha
    refine stepo ha 97 KR ?_; clear ha a; intro a ha
    refine stepo ha 98 KR ?_; clear ha a; intro a ha
    refine stepo ha 99 KR ?_; clear ha a; intro a ha
    refine stepo ha 100 KR ?_; clear ha a; intro a ha
    refine stepo ha 101 KR ?_; clear ha a; intro a ha
    refine stepp ha 102 (.bool false) KR KR ?_; clear ha a; intro a ha
    refine stepp ha 4 (.bool false) KR KR ?_; clear ha a; intro a ha
    refine endl ?_
    refine thenN (hK684 _ _ ?_); clear hK684
    refine wp_ret ?_
    obtain rfl := Option.some.inj h
    exact finv ha _ _ rfl (.tmp (v := .bool false) KR .nil) (.bool false) rfl ⟨rfl, HW.pick [] [] (by decide) (by decide) rfl KR⟩
end Go.Proofs.YtpjcipadjegmlaaDoor.F
