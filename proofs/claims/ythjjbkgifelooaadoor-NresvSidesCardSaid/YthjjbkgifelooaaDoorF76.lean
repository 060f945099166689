/- headgate/prout.same, headgate/prout.List: plain functions, and that the calls come to what they say. No condition. -/
import Derived.Test.YthjjbkgifelooaaDoorFT
import Derived.Test.YthjjbkgifelooaaDoorF68
namespace Go.Proofs.YthjjbkgifelooaaDoor.F
open Go Go.RowKit Go.Proofs.YthjjbkgifelooaaDoor.X
set_option linter.unusedVariables false
set_option linter.unusedSimpArgs false
/-! ### headgate/prout.same: function 76 -/
def prout_same.f (a0 : T_api_Cmd) (a1 : T_api_Cmd) : Option Bool :=
  if a0.f0 = a1.f0 then (if a0.f1 = a1.f1 then (if a0.f2 = a1.f2 then (if a0.f3 = a1.f3 then (if a0.f4 = a1.f4 then (if a0.f5 = a1.f5 then (if a0.f6 = a1.f6 then (if (a0.f7.length : Int) = (a1.f7.length : Int) then (if a0.f8 = a1.f8 then (if a0.f9 = a1.f9 then (if a0.f10 = a1.f10 then (if a0.f11 = a1.f11 then (if a0.f12 = a1.f12 then (some (a0.f13 == a1.f13)) else (some false)) else (some false)) else (some false)) else (some false)) else (some false)) else (some false)) else (some false)) else (some false)) else (some false)) else (some false)) else (some false)) else (some false)) else (some false)
set_option maxRecDepth 100000 in
set_option maxHeartbeats 4000000 in
theorem prout_same.calls (a0 : T_api_Cmd) (a1 : T_api_Cmd) (A0_0 : Option Addr) (c0_0 : Nat) (A1_1 : Option Addr) (c1_1 : Nat) (r : Bool) (w : World) (hr0_0 : Rd 2 w (.slice A0_0 a0.f7.length c0_0) a0.f7.length (encs T_api_Range.enc a0.f7)) (hr1_1 : Rd 2 w (.slice A1_1 a1.f7.length c1_1) a1.f7.length (encs T_api_Range.enc a1.f7)) (h : prout_same.f a0 a1 = some r) :
    Calls Tryd.prog 76 #[.agg #[.int .i64 a0.f0, .int .i64 a0.f1, .string a0.f2, .int .i64 a0.f3, .int .i64 a0.f4, .string a0.f5, .bool a0.f6, .slice A0_0 a0.f7.length c0_0, .int .u64 a0.f8, .int .u64 a0.f9, .int .u64 a0.f10, .int .i64 a0.f11, .bool a0.f12, .int .i64 a0.f13], .agg #[.int .i64 a1.f0, .int .i64 a1.f1, .string a1.f2, .int .i64 a1.f3, .int .i64 a1.f4, .string a1.f5, .bool a1.f6, .slice A1_1 a1.f7.length c1_1, .int .u64 a1.f8, .int .u64 a1.f9, .int .u64 a1.f10, .int .i64 a1.f11, .bool a1.f12, .int .i64 a1.f13]] w (fun e W' => e = .returned (.bool r) ∧ Wd w W' [] [] ) := by
  refine sxstart (n := 103) (l := [(0, .agg #[.int .i64 a0.f0, .int .i64 a0.f1, .string a0.f2, .int .i64 a0.f3, .int .i64 a0.f4, .string a0.f5, .bool a0.f6, .slice A0_0 a0.f7.length c0_0, .int .u64 a0.f8, .int .u64 a0.f9, .int .u64 a0.f10, .int .i64 a0.f11, .bool a0.f12, .int .i64 a0.f13]), (1, .agg #[.int .i64 a1.f0, .int .i64 a1.f1, .string a1.f2, .int .i64 a1.f3, .int .i64 a1.f4, .string a1.f5, .bool a1.f6, .slice A1_1 a1.f7.length c1_1, .int .u64 a1.f8, .int .u64 a1.f9, .int .u64 a1.f10, .int .i64 a1.f11, .bool a1.f12, .int .i64 a1.f13])]) Tryd.func76 rfl rfl (Nat.le_of_ble_eq_true KR) (subsA_cons rfl (subsA_cons rfl (subsA_nil _))) ?_
  intro a ha
  have HW := Wd.refl w
  unfold prout_same.f at h
  refine wp_seq_k (fun K5050 hK5051 => ?_)
  refine wp_region_lit ?_
  refine stepnew ha HW 2 #[.int .i64 a0.f0, .int .i64 a0.f1, .string a0.f2, .int .i64 a0.f3, .int .i64 a0.f4, .string a0.f5, .bool a0.f6, .slice A0_0 a0.f7.length c0_0, .int .u64 a0.f8, .int .u64 a0.f9, .int .u64 a0.f10, .int .i64 a0.f11, .bool a0.f12, .int .i64 a0.f13] 49 KR KR ?_; clear ha HW a; intro b5052 a W5053 HW ha
  refine stepnew ha HW 3 #[.int .i64 a1.f0, .int .i64 a1.f1, .string a1.f2, .int .i64 a1.f3, .int .i64 a1.f4, .string a1.f5, .bool a1.f6, .slice A1_1 a1.f7.length c1_1, .int .u64 a1.f8, .int .u64 a1.f9, .int .u64 a1.f10, .int .i64 a1.f11, .bool a1.f12, .int .i64 a1.f13] 49 KR KR ?_; clear ha HW a; intro b5054 a W5055 HW ha
  refine stepp ha 4 (.bool false) KR KR ?_; clear ha a; intro a ha
  refine endl ?_
  refine thenN (hK5051 _ _ ?_); clear hK5051
  refine wp_seq_k (fun K5056 hK5057 => ?_)
  refine wp_region_lit ?_
  refine stepp ha 5 (.pointer (some ⟨b5052, 0, none⟩)) KR KR ?_; clear ha a; intro a ha
  refine stepl ha 6 (HW.ca (i := 1) (b := b5052) (C := #[.int .i64 a0.f0, .int .i64 a0.f1, .string a0.f2, .int .i64 a0.f3, .int .i64 a0.f4, .string a0.f5, .bool a0.f6, .slice A0_0 a0.f7.length c0_0, .int .u64 a0.f8, .int .u64 a0.f9, .int .u64 a0.f10, .int .i64 a0.f11, .bool a0.f12, .int .i64 a0.f13]) (T := 49) (fr := (0, 0)) KR) 3 0 (.tmp 5) (.int .i64 a0.f0) rfl KR KR KR ?_; clear ha a; intro a ha
  refine stepp ha 7 (.pointer (some ⟨b5054, 0, none⟩)) KR KR ?_; clear ha a; intro a ha
  refine stepl ha 8 (HW.ca (i := 0) (b := b5054) (C := #[.int .i64 a1.f0, .int .i64 a1.f1, .string a1.f2, .int .i64 a1.f3, .int .i64 a1.f4, .string a1.f5, .bool a1.f6, .slice A1_1 a1.f7.length c1_1, .int .u64 a1.f8, .int .u64 a1.f9, .int .u64 a1.f10, .int .i64 a1.f11, .bool a1.f12, .int .i64 a1.f13]) (T := 49) (fr := (0, 0)) KR) 3 0 (.tmp 7) (.int .i64 a1.f0) rfl KR KR KR ?_; clear ha a; intro a ha
  refine stepp ha 9 (.bool (a0.f0 == a1.f0)) KR KR ?_; clear ha a; intro a ha
  refine stepp ha 10 (.bool (a0.f0 == a1.f0)) KR KR ?_; clear ha a; intro a ha
  by_cases hp5058 : a0.f0 = a1.f0
  · skip
    replace h := ite_pos' h hp5058
    replace ha := ha.bool 10 KR (ieq_t hp5058)
    refine stepp ha 11 (.pointer (some ⟨b5052, 1, none⟩)) KR KR ?_; clear ha a; intro a ha
    refine stepl ha 12 (HW.ca (i := 1) (b := b5052) (C := #[.int .i64 a0.f0, .int .i64 a0.f1, .string a0.f2, .int .i64 a0.f3, .int .i64 a0.f4, .string a0.f5, .bool a0.f6, .slice A0_0 a0.f7.length c0_0, .int .u64 a0.f8, .int .u64 a0.f9, .int .u64 a0.f10, .int .i64 a0.f11, .bool a0.f12, .int .i64 a0.f13]) (T := 49) (fr := (0, 0)) KR) 3 1 (.tmp 11) (.int .i64 a0.f1) rfl KR KR KR ?_; clear ha a; intro a ha
    refine stepp ha 13 (.pointer (some ⟨b5054, 1, none⟩)) KR KR ?_; clear ha a; intro a ha
    refine stepl ha 14 (HW.ca (i := 0) (b := b5054) (C := #[.int .i64 a1.f0, .int .i64 a1.f1, .string a1.f2, .int .i64 a1.f3, .int .i64 a1.f4, .string a1.f5, .bool a1.f6, .slice A1_1 a1.f7.length c1_1, .int .u64 a1.f8, .int .u64 a1.f9, .int .u64 a1.f10, .int .i64 a1.f11, .bool a1.f12, .int .i64 a1.f13]) (T := 49) (fr := (0, 0)) KR) 3 1 (.tmp 13) (.int .i64 a1.f1) rfl KR KR KR ?_; clear ha a; intro a ha
    refine stepp ha 15 (.bool (a0.f1 == a1.f1)) KR KR ?_; clear ha a; intro a ha
    refine stepp ha 16 (.bool (a0.f1 == a1.f1)) KR KR ?_; clear ha a; intro a ha
    refine stepp ha 17 (.bool (a0.f1 == a1.f1)) KR KR ?_; clear ha a; intro a ha
    by_cases hp5059 : a0.f1 = a1.f1
    · skip
      replace h := ite_pos' h hp5059
      replace ha := ha.bool 17 KR (ieq_t hp5059)
      refine stepp ha 18 (.pointer (some ⟨b5052, 2, none⟩)) KR KR ?_; clear ha a; intro a ha
      refine stepl ha 19 (HW.ca (i := 1) (b := b5052) (C := #[.int .i64 a0.f0, .int .i64 a0.f1, .string a0.f2, .int .i64 a0.f3, .int .i64 a0.f4, .string a0.f5, .bool a0.f6, .slice A0_0 a0.f7.length c0_0, .int .u64 a0.f8, .int .u64 a0.f9, .int .u64 a0.f10, .int .i64 a0.f11, .bool a0.f12, .int .i64 a0.f13]) (T := 49) (fr := (0, 0)) KR) 9 2 (.tmp 18) (.string a0.f2) rfl KR KR KR ?_; clear ha a; intro a ha
      refine stepp ha 20 (.pointer (some ⟨b5054, 2, none⟩)) KR KR ?_; clear ha a; intro a ha
      refine stepl ha 21 (HW.ca (i := 0) (b := b5054) (C := #[.int .i64 a1.f0, .int .i64 a1.f1, .string a1.f2, .int .i64 a1.f3, .int .i64 a1.f4, .string a1.f5, .bool a1.f6, .slice A1_1 a1.f7.length c1_1, .int .u64 a1.f8, .int .u64 a1.f9, .int .u64 a1.f10, .int .i64 a1.f11, .bool a1.f12, .int .i64 a1.f13]) (T := 49) (fr := (0, 0)) KR) 9 2 (.tmp 20) (.string a1.f2) rfl KR KR KR ?_; clear ha a; intro a ha
      refine stepp ha 22 (.bool (a0.f2.toList == a1.f2.toList)) KR KR ?_; clear ha a; intro a ha
      refine stepp ha 23 (.bool (a0.f2.toList == a1.f2.toList)) KR KR ?_; clear ha a; intro a ha
      refine stepp ha 24 (.bool (a0.f2.toList == a1.f2.toList)) KR KR ?_; clear ha a; intro a ha
      by_cases hp5060 : a0.f2 = a1.f2
      · skip
        replace h := ite_pos' h hp5060
        replace ha := ha.bool 24 KR (str_eq_t hp5060)
        refine stepp ha 25 (.pointer (some ⟨b5052, 3, none⟩)) KR KR ?_; clear ha a; intro a ha
        refine stepl ha 26 (HW.ca (i := 1) (b := b5052) (C := #[.int .i64 a0.f0, .int .i64 a0.f1, .string a0.f2, .int .i64 a0.f3, .int .i64 a0.f4, .string a0.f5, .bool a0.f6, .slice A0_0 a0.f7.length c0_0, .int .u64 a0.f8, .int .u64 a0.f9, .int .u64 a0.f10, .int .i64 a0.f11, .bool a0.f12, .int .i64 a0.f13]) (T := 49) (fr := (0, 0)) KR) 3 3 (.tmp 25) (.int .i64 a0.f3) rfl KR KR KR ?_; clear ha a; intro a ha
        refine stepp ha 27 (.pointer (some ⟨b5054, 3, none⟩)) KR KR ?_; clear ha a; intro a ha
        refine stepl ha 28 (HW.ca (i := 0) (b := b5054) (C := #[.int .i64 a1.f0, .int .i64 a1.f1, .string a1.f2, .int .i64 a1.f3, .int .i64 a1.f4, .string a1.f5, .bool a1.f6, .slice A1_1 a1.f7.length c1_1, .int .u64 a1.f8, .int .u64 a1.f9, .int .u64 a1.f10, .int .i64 a1.f11, .bool a1.f12, .int .i64 a1.f13]) (T := 49) (fr := (0, 0)) KR) 3 3 (.tmp 27) (.int .i64 a1.f3) rfl KR KR KR ?_; clear ha a; intro a ha
        refine stepp ha 29 (.bool (a0.f3 == a1.f3)) KR KR ?_; clear ha a; intro a ha
        refine stepp ha 30 (.bool (a0.f3 == a1.f3)) KR KR ?_; clear ha a; intro a ha
        refine stepp ha 31 (.bool (a0.f3 == a1.f3)) KR KR ?_; clear ha a; intro a ha
        by_cases hp5061 : a0.f3 = a1.f3
        · skip
          replace h := ite_pos' h hp5061
          replace ha := ha.bool 31 KR (ieq_t hp5061)
          refine stepp ha 32 (.pointer (some ⟨b5052, 4, none⟩)) KR KR ?_; clear ha a; intro a ha
          refine stepl ha 33 (HW.ca (i := 1) (b := b5052) (C := #[.int .i64 a0.f0, .int .i64 a0.f1, .string a0.f2, .int .i64 a0.f3, .int .i64 a0.f4, .string a0.f5, .bool a0.f6, .slice A0_0 a0.f7.length c0_0, .int .u64 a0.f8, .int .u64 a0.f9, .int .u64 a0.f10, .int .i64 a0.f11, .bool a0.f12, .int .i64 a0.f13]) (T := 49) (fr := (0, 0)) KR) 3 4 (.tmp 32) (.int .i64 a0.f4) rfl KR KR KR ?_; clear ha a; intro a ha
          refine stepp ha 34 (.pointer (some ⟨b5054, 4, none⟩)) KR KR ?_; clear ha a; intro a ha
          refine stepl ha 35 (HW.ca (i := 0) (b := b5054) (C := #[.int .i64 a1.f0, .int .i64 a1.f1, .string a1.f2, .int .i64 a1.f3, .int .i64 a1.f4, .string a1.f5, .bool a1.f6, .slice A1_1 a1.f7.length c1_1, .int .u64 a1.f8, .int .u64 a1.f9, .int .u64 a1.f10, .int .i64 a1.f11, .bool a1.f12, .int .i64 a1.f13]) (T := 49) (fr := (0, 0)) KR) 3 4 (.tmp 34) (.int .i64 a1.f4) rfl KR KR KR ?_; clear ha a; intro a ha
          refine stepp ha 36 (.bool (a0.f4 == a1.f4)) KR KR ?_; clear ha a; intro a ha
          refine stepp ha 37 (.bool (a0.f4 == a1.f4)) KR KR ?_; clear ha a; intro a ha
          refine stepp ha 38 (.bool (a0.f4 == a1.f4)) KR KR ?_; clear ha a; intro a ha
          by_cases hp5062 : a0.f4 = a1.f4
          · skip
            replace h := ite_pos' h hp5062
            replace ha := ha.bool 38 KR (ieq_t hp5062)
            refine stepp ha 39 (.pointer (some ⟨b5052, 5, none⟩)) KR KR ?_; clear ha a; intro a ha
            refine stepl ha 40 (HW.ca (i := 1) (b := b5052) (C := #[.int .i64 a0.f0, .int .i64 a0.f1, .string a0.f2, .int .i64 a0.f3, .int .i64 a0.f4, .string a0.f5, .bool a0.f6, .slice A0_0 a0.f7.length c0_0, .int .u64 a0.f8, .int .u64 a0.f9, .int .u64 a0.f10, .int .i64 a0.f11, .bool a0.f12, .int .i64 a0.f13]) (T := 49) (fr := (0, 0)) KR) 9 5 (.tmp 39) (.string a0.f5) rfl KR KR KR ?_; clear ha a; intro a ha
            refine stepp ha 41 (.pointer (some ⟨b5054, 5, none⟩)) KR KR ?_; clear ha a; intro a ha
            refine stepl ha 42 (HW.ca (i := 0) (b := b5054) (C := #[.int .i64 a1.f0, .int .i64 a1.f1, .string a1.f2, .int .i64 a1.f3, .int .i64 a1.f4, .string a1.f5, .bool a1.f6, .slice A1_1 a1.f7.length c1_1, .int .u64 a1.f8, .int .u64 a1.f9, .int .u64 a1.f10, .int .i64 a1.f11, .bool a1.f12, .int .i64 a1.f13]) (T := 49) (fr := (0, 0)) KR) 9 5 (.tmp 41) (.string a1.f5) rfl KR KR KR ?_; clear ha a; intro a ha
            refine stepp ha 43 (.bool (a0.f5.toList == a1.f5.toList)) KR KR ?_; clear ha a; intro a ha
            refine stepp ha 44 (.bool (a0.f5.toList == a1.f5.toList)) KR KR ?_; clear ha a; intro a ha
            refine stepp ha 45 (.bool (a0.f5.toList == a1.f5.toList)) KR KR ?_; clear ha a; intro a ha
            by_cases hp5063 : a0.f5 = a1.f5
            · skip
              replace h := ite_pos' h hp5063
              replace ha := ha.bool 45 KR (str_eq_t hp5063)
              refine stepp ha 46 (.pointer (some ⟨b5052, 6, none⟩)) KR KR ?_; clear ha a; intro a ha
              refine stepl ha 47 (HW.ca (i := 1) (b := b5052) (C := #[.int .i64 a0.f0, .int .i64 a0.f1, .string a0.f2, .int .i64 a0.f3, .int .i64 a0.f4, .string a0.f5, .bool a0.f6, .slice A0_0 a0.f7.length c0_0, .int .u64 a0.f8, .int .u64 a0.f9, .int .u64 a0.f10, .int .i64 a0.f11, .bool a0.f12, .int .i64 a0.f13]) (T := 49) (fr := (0, 0)) KR) 4 6 (.tmp 46) (.bool a0.f6) rfl KR KR KR ?_; clear ha a; intro a ha
              refine stepp ha 48 (.pointer (some ⟨b5054, 6, none⟩)) KR KR ?_; clear ha a; intro a ha
              refine stepl ha 49 (HW.ca (i := 0) (b := b5054) (C := #[.int .i64 a1.f0, .int .i64 a1.f1, .string a1.f2, .int .i64 a1.f3, .int .i64 a1.f4, .string a1.f5, .bool a1.f6, .slice A1_1 a1.f7.length c1_1, .int .u64 a1.f8, .int .u64 a1.f9, .int .u64 a1.f10, .int .i64 a1.f11, .bool a1.f12, .int .i64 a1.f13]) (T := 49) (fr := (0, 0)) KR) 4 6 (.tmp 48) (.bool a1.f6) rfl KR KR KR ?_; clear ha a; intro a ha
              refine stepp ha 50 (.bool (a0.f6 == a1.f6)) KR KR ?_; clear ha a; intro a ha
              refine stepp ha 51 (.bool (a0.f6 == a1.f6)) KR KR ?_; clear ha a; intro a ha
              refine stepp ha 52 (.bool (a0.f6 == a1.f6)) KR KR ?_; clear ha a; intro a ha
              by_cases hp5064 : a0.f6 = a1.f6
              · skip
                replace h := ite_pos' h hp5064
                replace ha := ha.bool 52 KR (beq_t hp5064)
                refine stepp ha 53 (.pointer (some ⟨b5052, 7, none⟩)) KR KR ?_; clear ha a; intro a ha
                refine stepl ha 54 (HW.ca (i := 1) (b := b5052) (C := #[.int .i64 a0.f0, .int .i64 a0.f1, .string a0.f2, .int .i64 a0.f3, .int .i64 a0.f4, .string a0.f5, .bool a0.f6, .slice A0_0 a0.f7.length c0_0, .int .u64 a0.f8, .int .u64 a0.f9, .int .u64 a0.f10, .int .i64 a0.f11, .bool a0.f12, .int .i64 a0.f13]) (T := 49) (fr := (0, 0)) KR) 47 7 (.tmp 53) (.slice A0_0 a0.f7.length c0_0) rfl KR KR KR ?_; clear ha a; intro a ha
                refine stepp ha 55 (.int .i64 (a0.f7.length : Int)) KR KR ?_; clear ha a; intro a ha
                refine stepp ha 56 (.pointer (some ⟨b5054, 7, none⟩)) KR KR ?_; clear ha a; intro a ha
                refine stepl ha 57 (HW.ca (i := 0) (b := b5054) (C := #[.int .i64 a1.f0, .int .i64 a1.f1, .string a1.f2, .int .i64 a1.f3, .int .i64 a1.f4, .string a1.f5, .bool a1.f6, .slice A1_1 a1.f7.length c1_1, .int .u64 a1.f8, .int .u64 a1.f9, .int .u64 a1.f10, .int .i64 a1.f11, .bool a1.f12, .int .i64 a1.f13]) (T := 49) (fr := (0, 0)) KR) 47 7 (.tmp 56) (.slice A1_1 a1.f7.length c1_1) rfl KR KR KR ?_; clear ha a; intro a ha
                refine stepp ha 58 (.int .i64 (a1.f7.length : Int)) KR KR ?_; clear ha a; intro a ha
                refine stepp ha 59 (.bool ((a0.f7.length : Int) == (a1.f7.length : Int))) KR KR ?_; clear ha a; intro a ha
                refine stepp ha 60 (.bool ((a0.f7.length : Int) == (a1.f7.length : Int))) KR KR ?_; clear ha a; intro a ha
                refine stepp ha 61 (.bool ((a0.f7.length : Int) == (a1.f7.length : Int))) KR KR ?_; clear ha a; intro a ha
                by_cases hp5065 : (a0.f7.length : Int) = (a1.f7.length : Int)
                · skip
                  replace h := ite_pos' h hp5065
                  replace ha := ha.bool 61 KR (ieq_t hp5065)
                  refine stepp ha 62 (.pointer (some ⟨b5052, 8, none⟩)) KR KR ?_; clear ha a; intro a ha
                  refine stepl ha 63 (HW.ca (i := 1) (b := b5052) (C := #[.int .i64 a0.f0, .int .i64 a0.f1, .string a0.f2, .int .i64 a0.f3, .int .i64 a0.f4, .string a0.f5, .bool a0.f6, .slice A0_0 a0.f7.length c0_0, .int .u64 a0.f8, .int .u64 a0.f9, .int .u64 a0.f10, .int .i64 a0.f11, .bool a0.f12, .int .i64 a0.f13]) (T := 49) (fr := (0, 0)) KR) 42 8 (.tmp 62) (.int .u64 a0.f8) rfl KR KR KR ?_; clear ha a; intro a ha
                  refine stepp ha 64 (.pointer (some ⟨b5054, 8, none⟩)) KR KR ?_; clear ha a; intro a ha
                  refine stepl ha 65 (HW.ca (i := 0) (b := b5054) (C := #[.int .i64 a1.f0, .int .i64 a1.f1, .string a1.f2, .int .i64 a1.f3, .int .i64 a1.f4, .string a1.f5, .bool a1.f6, .slice A1_1 a1.f7.length c1_1, .int .u64 a1.f8, .int .u64 a1.f9, .int .u64 a1.f10, .int .i64 a1.f11, .bool a1.f12, .int .i64 a1.f13]) (T := 49) (fr := (0, 0)) KR) 42 8 (.tmp 64) (.int .u64 a1.f8) rfl KR KR KR ?_; clear ha a; intro a ha
                  refine stepp ha 66 (.bool (a0.f8 == a1.f8)) KR KR ?_; clear ha a; intro a ha
                  refine stepp ha 67 (.bool (a0.f8 == a1.f8)) KR KR ?_; clear ha a; intro a ha
                  refine stepp ha 68 (.bool (a0.f8 == a1.f8)) KR KR ?_; clear ha a; intro a ha
                  by_cases hp5066 : a0.f8 = a1.f8
                  · skip
                    replace h := ite_pos' h hp5066
                    replace ha := ha.bool 68 KR (ieq_t hp5066)
                    refine stepp ha 69 (.pointer (some ⟨b5052, 9, none⟩)) KR KR ?_; clear ha a; intro a ha
                    refine stepl ha 70 (HW.ca (i := 1) (b := b5052) (C := #[.int .i64 a0.f0, .int .i64 a0.f1, .string a0.f2, .int .i64 a0.f3, .int .i64 a0.f4, .string a0.f5, .bool a0.f6, .slice A0_0 a0.f7.length c0_0, .int .u64 a0.f8, .int .u64 a0.f9, .int .u64 a0.f10, .int .i64 a0.f11, .bool a0.f12, .int .i64 a0.f13]) (T := 49) (fr := (0, 0)) KR) 42 9 (.tmp 69) (.int .u64 a0.f9) rfl KR KR KR ?_; clear ha a; intro a ha
                    refine stepp ha 71 (.pointer (some ⟨b5054, 9, none⟩)) KR KR ?_; clear ha a; intro a ha
                    refine stepl ha 72 (HW.ca (i := 0) (b := b5054) (C := #[.int .i64 a1.f0, .int .i64 a1.f1, .string a1.f2, .int .i64 a1.f3, .int .i64 a1.f4, .string a1.f5, .bool a1.f6, .slice A1_1 a1.f7.length c1_1, .int .u64 a1.f8, .int .u64 a1.f9, .int .u64 a1.f10, .int .i64 a1.f11, .bool a1.f12, .int .i64 a1.f13]) (T := 49) (fr := (0, 0)) KR) 42 9 (.tmp 71) (.int .u64 a1.f9) rfl KR KR KR ?_; clear ha a; intro a ha
                    refine stepp ha 73 (.bool (a0.f9 == a1.f9)) KR KR ?_; clear ha a; intro a ha
                    refine stepp ha 74 (.bool (a0.f9 == a1.f9)) KR KR ?_; clear ha a; intro a ha
                    refine stepp ha 75 (.bool (a0.f9 == a1.f9)) KR KR ?_; clear ha a; intro a ha
                    by_cases hp5067 : a0.f9 = a1.f9
                    · skip
                      replace h := ite_pos' h hp5067
                      replace ha := ha.bool 75 KR (ieq_t hp5067)
                      refine stepp ha 76 (.pointer (some ⟨b5052, 10, none⟩)) KR KR ?_; clear ha a; intro a ha
                      refine stepl ha 77 (HW.ca (i := 1) (b := b5052) (C := #[.int .i64 a0.f0, .int .i64 a0.f1, .string a0.f2, .int .i64 a0.f3, .int .i64 a0.f4, .string a0.f5, .bool a0.f6, .slice A0_0 a0.f7.length c0_0, .int .u64 a0.f8, .int .u64 a0.f9, .int .u64 a0.f10, .int .i64 a0.f11, .bool a0.f12, .int .i64 a0.f13]) (T := 49) (fr := (0, 0)) KR) 42 10 (.tmp 76) (.int .u64 a0.f10) rfl KR KR KR ?_; clear ha a; intro a ha
                      refine stepp ha 78 (.pointer (some ⟨b5054, 10, none⟩)) KR KR ?_; clear ha a; intro a ha
                      refine stepl ha 79 (HW.ca (i := 0) (b := b5054) (C := #[.int .i64 a1.f0, .int .i64 a1.f1, .string a1.f2, .int .i64 a1.f3, .int .i64 a1.f4, .string a1.f5, .bool a1.f6, .slice A1_1 a1.f7.length c1_1, .int .u64 a1.f8, .int .u64 a1.f9, .int .u64 a1.f10, .int .i64 a1.f11, .bool a1.f12, .int .i64 a1.f13]) (T := 49) (fr := (0, 0)) KR) 42 10 (.tmp 78) (.int .u64 a1.f10) rfl KR KR KR ?_; clear ha a; intro a ha
                      refine stepp ha 80 (.bool (a0.f10 == a1.f10)) KR KR ?_; clear ha a; intro a ha
                      refine stepp ha 81 (.bool (a0.f10 == a1.f10)) KR KR ?_; clear ha a; intro a ha
                      refine stepp ha 82 (.bool (a0.f10 == a1.f10)) KR KR ?_; clear ha a; intro a ha
                      by_cases hp5068 : a0.f10 = a1.f10
                      · skip
                        replace h := ite_pos' h hp5068
                        replace ha := ha.bool 82 KR (ieq_t hp5068)
                        refine stepp ha 83 (.pointer (some ⟨b5052, 11, none⟩)) KR KR ?_; clear ha a; intro a ha
                        refine stepl ha 84 (HW.ca (i := 1) (b := b5052) (C := #[.int .i64 a0.f0, .int .i64 a0.f1, .string a0.f2, .int .i64 a0.f3, .int .i64 a0.f4, .string a0.f5, .bool a0.f6, .slice A0_0 a0.f7.length c0_0, .int .u64 a0.f8, .int .u64 a0.f9, .int .u64 a0.f10, .int .i64 a0.f11, .bool a0.f12, .int .i64 a0.f13]) (T := 49) (fr := (0, 0)) KR) 3 11 (.tmp 83) (.int .i64 a0.f11) rfl KR KR KR ?_; clear ha a; intro a ha
                        refine stepp ha 85 (.pointer (some ⟨b5054, 11, none⟩)) KR KR ?_; clear ha a; intro a ha
                        refine stepl ha 86 (HW.ca (i := 0) (b := b5054) (C := #[.int .i64 a1.f0, .int .i64 a1.f1, .string a1.f2, .int .i64 a1.f3, .int .i64 a1.f4, .string a1.f5, .bool a1.f6, .slice A1_1 a1.f7.length c1_1, .int .u64 a1.f8, .int .u64 a1.f9, .int .u64 a1.f10, .int .i64 a1.f11, .bool a1.f12, .int .i64 a1.f13]) (T := 49) (fr := (0, 0)) KR) 3 11 (.tmp 85) (.int .i64 a1.f11) rfl KR KR KR ?_; clear ha a; intro a ha
                        refine stepp ha 87 (.bool (a0.f11 == a1.f11)) KR KR ?_; clear ha a; intro a ha
                        refine stepp ha 88 (.bool (a0.f11 == a1.f11)) KR KR ?_; clear ha a; intro a ha
                        refine stepp ha 89 (.bool (a0.f11 == a1.f11)) KR KR ?_; clear ha a; intro a ha
                        by_cases hp5069 : a0.f11 = a1.f11
                        · skip
                          replace h := ite_pos' h hp5069
                          replace ha := ha.bool 89 KR (ieq_t hp5069)
                          refine stepp ha 90 (.pointer (some ⟨b5052, 12, none⟩)) KR KR ?_; clear ha a; intro a ha
                          refine stepl ha 91 (HW.ca (i := 1) (b := b5052) (C := #[.int .i64 a0.f0, .int .i64 a0.f1, .string a0.f2, .int .i64 a0.f3, .int .i64 a0.f4, .string a0.f5, .bool a0.f6, .slice A0_0 a0.f7.length c0_0, .int .u64 a0.f8, .int .u64 a0.f9, .int .u64 a0.f10, .int .i64 a0.f11, .bool a0.f12, .int .i64 a0.f13]) (T := 49) (fr := (0, 0)) KR) 4 12 (.tmp 90) (.bool a0.f12) rfl KR KR KR ?_; clear ha a; intro a ha
                          refine stepp ha 92 (.pointer (some ⟨b5054, 12, none⟩)) KR KR ?_; clear ha a; intro a ha
                          refine stepl ha 93 (HW.ca (i := 0) (b := b5054) (C := #[.int .i64 a1.f0, .int .i64 a1.f1, .string a1.f2, .int .i64 a1.f3, .int .i64 a1.f4, .string a1.f5, .bool a1.f6, .slice A1_1 a1.f7.length c1_1, .int .u64 a1.f8, .int .u64 a1.f9, .int .u64 a1.f10, .int .i64 a1.f11, .bool a1.f12, .int .i64 a1.f13]) (T := 49) (fr := (0, 0)) KR) 4 12 (.tmp 92) (.bool a1.f12) rfl KR KR KR ?_; clear ha a; intro a ha
                          refine stepp ha 94 (.bool (a0.f12 == a1.f12)) KR KR ?_; clear ha a; intro a ha
                          refine stepp ha 95 (.bool (a0.f12 == a1.f12)) KR KR ?_; clear ha a; intro a ha
                          refine stepp ha 96 (.bool (a0.f12 == a1.f12)) KR KR ?_; clear ha a; intro a ha
                          by_cases hp5070 : a0.f12 = a1.f12
                          · skip
                            replace h := ite_pos' h hp5070
                            replace ha := ha.bool 96 KR (beq_t hp5070)
                            refine stepp ha 97 (.pointer (some ⟨b5052, 13, none⟩)) KR KR ?_; clear ha a; intro a ha
                            refine stepl ha 98 (HW.ca (i := 1) (b := b5052) (C := #[.int .i64 a0.f0, .int .i64 a0.f1, .string a0.f2, .int .i64 a0.f3, .int .i64 a0.f4, .string a0.f5, .bool a0.f6, .slice A0_0 a0.f7.length c0_0, .int .u64 a0.f8, .int .u64 a0.f9, .int .u64 a0.f10, .int .i64 a0.f11, .bool a0.f12, .int .i64 a0.f13]) (T := 49) (fr := (0, 0)) KR) 3 13 (.tmp 97) (.int .i64 a0.f13) rfl KR KR KR ?_; clear ha a; intro a ha
                            refine stepp ha 99 (.pointer (some ⟨b5054, 13, none⟩)) KR KR ?_; clear ha a; intro a ha
                            refine stepl ha 100 (HW.ca (i := 0) (b := b5054) (C := #[.int .i64 a1.f0, .int .i64 a1.f1, .string a1.f2, .int .i64 a1.f3, .int .i64 a1.f4, .string a1.f5, .bool a1.f6, .slice A1_1 a1.f7.length c1_1, .int .u64 a1.f8, .int .u64 a1.f9, .int .u64 a1.f10, .int .i64 a1.f11, .bool a1.f12, .int .i64 a1.f13]) (T := 49) (fr := (0, 0)) KR) 3 13 (.tmp 99) (.int .i64 a1.f13) rfl KR KR KR ?_; clear ha a; intro a ha
                            refine stepp ha 101 (.bool (a0.f13 == a1.f13)) KR KR ?_; clear ha a; intro a ha
                            refine stepp ha 102 (.bool (a0.f13 == a1.f13)) KR KR ?_; clear ha a; intro a ha
                            refine stepp ha 4 (.bool (a0.f13 == a1.f13)) KR KR ?_; clear ha a; intro a ha
                            refine endl ?_
                            refine thenN (hK5057 _ _ ?_); clear hK5057
                            refine wp_ret ?_
                            obtain rfl := Option.some.inj h
                            exact finv ha _ _ rfl (.tmp (v := .bool (a0.f13 == a1.f13)) KR .nil) (.bool (a0.f13 == a1.f13)) rfl ⟨rfl, HW.pick [] [] (by decide) (by decide) rfl KR⟩
                          · skip
                            replace h := ite_neg' h hp5070
                            replace ha := ha.bool 96 KR (beq_f hp5070)
                            refine stepo ha 97 KR ?_; clear ha a; intro a ha
                            refine stepo ha 98 KR ?_; clear ha a; intro a ha
                            refine stepo ha 99 KR ?_; clear ha a; intro a ha
                            refine stepo ha 100 KR ?_; clear ha a; intro a ha
                            refine stepo ha 101 KR ?_; clear ha a; intro a ha
                            refine stepp ha 102 (.bool false) KR KR ?_; clear ha a; intro a ha
                            refine stepp ha 4 (.bool false) KR KR ?_; clear ha a; intro a ha
                            refine endl ?_
                            refine thenN (hK5057 _ _ ?_); clear hK5057
                            refine wp_ret ?_
                            obtain rfl := Option.some.inj h
                            exact finv ha _ _ rfl (.tmp (v := .bool false) KR .nil) (.bool false) rfl ⟨rfl, HW.pick [] [] (by decide) (by decide) rfl KR⟩
                        · skip
                          replace h := ite_neg' h hp5069
                          replace ha := ha.bool 89 KR (ieq_f hp5069)
                          refine stepo ha 90 KR ?_; clear ha a; intro a ha
                          refine stepo ha 91 KR ?_; clear ha a; intro a ha
                          refine stepo ha 92 KR ?_; clear ha a; intro a ha
                          refine stepo ha 93 KR ?_; clear ha a; intro a ha
                          refine stepo ha 94 KR ?_; clear ha a; intro a ha
                          refine stepp ha 95 (.bool false) KR KR ?_; clear ha a; intro a ha
                          refine stepp ha 96 (.bool false) KR KR ?_; clear ha a; intro a ha
                          refine stepo ha 97 KR ?_; clear ha a; intro a ha
                          refine stepo ha 98 KR ?_; clear ha a; intro a ha
                          refine stepo ha 99 KR ?_; clear ha a; intro a ha
                          refine stepo ha 100 KR ?_; clear ha a; intro a ha
                          refine stepo ha 101 KR ?_; clear ha a; intro a ha
                          refine stepp ha 102 (.bool false) KR KR ?_; clear ha a; intro a ha
                          refine stepp ha 4 (.bool false) KR KR ?_; clear ha a; intro a ha
                          refine endl ?_
                          refine thenN (hK5057 _ _ ?_); clear hK5057
                          refine wp_ret ?_
                          obtain rfl := Option.some.inj h
                          exact finv ha _ _ rfl (.tmp (v := .bool false) KR .nil) (.bool false) rfl ⟨rfl, HW.pick [] [] (by decide) (by decide) rfl KR⟩
                      · skip
                        replace h := ite_neg' h hp5068
                        replace ha := ha.bool 82 KR (ieq_f hp5068)
                        refine stepo ha 83 KR ?_; clear ha a; intro a ha
                        refine stepo ha 84 KR ?_; clear ha a; intro a ha
                        refine stepo ha 85 KR ?_; clear ha a; intro a ha
                        refine stepo ha 86 KR ?_; clear ha a; intro a ha
                        refine stepo ha 87 KR ?_; clear ha a; intro a ha
                        refine stepp ha 88 (.bool false) KR KR ?_; clear ha a; intro a ha
                        refine stepp ha 89 (.bool false) KR KR ?_; clear ha a; intro a ha
                        refine stepo ha 90 KR ?_; clear ha a; intro a ha
                        refine stepo ha 91 KR ?_; clear ha a; intro a ha
                        refine stepo ha 92 KR ?_; clear ha a; intro a ha
                        refine stepo ha 93 KR ?_; clear ha a; intro a ha
                        refine stepo ha 94 KR ?_; clear ha a; intro a ha
                        refine stepp ha 95 (.bool false) KR KR ?_; clear ha a; intro a ha
                        refine stepp ha 96 (.bool false) KR KR ?_; clear ha a; intro a ha
                        refine stepo ha 97 KR ?_; clear ha a; intro a ha
                        refine stepo ha 98 KR ?_; clear ha a; intro a ha
                        refine stepo ha 99 KR ?_; clear ha a; intro a ha
                        refine stepo ha 100 KR ?_; clear ha a; intro a ha
                        refine stepo ha 101 KR ?_; clear ha a; intro a ha
                        refine stepp ha 102 (.bool false) KR KR ?_; clear ha a; intro a ha
                        refine stepp ha 4 (.bool false) KR KR ?_; clear ha a; intro a ha
                        refine endl ?_
                        refine thenN (hK5057 _ _ ?_); clear hK5057
                        refine wp_ret ?_
                        obtain rfl := Option.some.inj h
                        exact finv ha _ _ rfl (.tmp (v := .bool false) KR .nil) (.bool false) rfl ⟨rfl, HW.pick [] [] (by decide) (by decide) rfl KR⟩
                    · skip
                      replace h := ite_neg' h hp5067
                      replace ha := ha.bool 75 KR (ieq_f hp5067)
                      refine stepo ha 76 KR ?_; clear ha a; intro a ha
                      refine stepo ha 77 KR ?_; clear ha a; intro a ha
                      refine stepo ha 78 KR ?_; clear ha a; intro a ha
                      refine stepo ha 79 KR ?_; clear ha a; intro a ha
                      refine stepo ha 80 KR ?_; clear ha a; intro a ha
                      refine stepp ha 81 (.bool false) KR KR ?_; clear ha a; intro a ha
                      refine stepp ha 82 (.bool false) KR KR ?_; clear ha a; intro a ha
                      refine stepo ha 83 KR ?_; clear ha a; intro a ha
                      refine stepo ha 84 KR ?_; clear ha a; intro a ha
                      refine stepo ha 85 KR ?_; clear ha a; intro a ha
                      refine stepo ha 86 KR ?_; clear ha a; intro a ha
                      refine stepo ha 87 KR ?_; clear ha a; intro a ha
                      refine stepp ha 88 (.bool false) KR KR ?_; clear ha a; intro a ha
                      refine stepp ha 89 (.bool false) KR KR ?_; clear ha a; intro a ha
                      refine stepo ha 90 KR ?_; clear ha a; intro a ha
                      refine stepo ha 91 KR ?_; clear ha a; intro a ha
                      refine stepo ha 92 KR ?_; clear ha a; intro a ha
                      refine stepo ha 93 KR ?_; clear ha a; intro a ha
                      refine stepo ha 94 KR ?_; clear ha a; intro a ha
                      refine stepp ha 95 (.bool false) KR KR ?_; clear ha a; intro a ha
                      refine stepp ha 96 (.bool false) KR KR ?_; clear ha a; intro a ha
                      refine stepo ha 97 KR ?_; clear ha a; intro a ha
                      refine stepo ha 98 KR ?_; clear ha a; intro a ha
                      refine stepo ha 99 KR ?_; clear ha a; intro a ha
                      refine stepo ha 100 KR ?_; clear ha a; intro a ha
                      refine stepo ha 101 KR ?_; clear ha a; intro a ha
                      refine stepp ha 102 (.bool false) KR KR ?_; clear ha a; intro a ha
                      refine stepp ha 4 (.bool false) KR KR ?_; clear ha a; intro a ha
                      refine endl ?_
                      refine thenN (hK5057 _ _ ?_); clear hK5057
                      refine wp_ret ?_
                      obtain rfl := Option.some.inj h
                      exact finv ha _ _ rfl (.tmp (v := .bool false) KR .nil) (.bool false) rfl ⟨rfl, HW.pick [] [] (by decide) (by decide) rfl KR⟩
                  · skip
                    replace h := ite_neg' h hp5066
                    replace ha := ha.bool 68 KR (ieq_f hp5066)
                    refine stepo ha 69 KR ?_; clear ha a; intro a ha
                    refine stepo ha 70 KR ?_; clear ha a; intro a ha
                    refine stepo ha 71 KR ?_; clear ha a; intro a ha
                    refine stepo ha 72 KR ?_; clear ha a; intro a ha
                    refine stepo ha 73 KR ?_; clear ha a; intro a ha
                    refine stepp ha 74 (.bool false) KR KR ?_; clear ha a; intro a ha
                    refine stepp ha 75 (.bool false) KR KR ?_; clear ha a; intro a ha
                    refine stepo ha 76 KR ?_; clear ha a; intro a ha
                    refine stepo ha 77 KR ?_; clear ha a; intro a ha
                    refine stepo ha 78 KR ?_; clear ha a; intro a ha
                    refine stepo ha 79 KR ?_; clear ha a; intro a ha
                    refine stepo ha 80 KR ?_; clear ha a; intro a ha
                    refine stepp ha 81 (.bool false) KR KR ?_; clear ha a; intro a ha
                    refine stepp ha 82 (.bool false) KR KR ?_; clear ha a; intro a ha
                    refine stepo ha 83 KR ?_; clear ha a; intro a ha
                    refine stepo ha 84 KR ?_; clear ha a; intro a ha
                    refine stepo ha 85 KR ?_; clear ha a; intro a ha
                    refine stepo ha 86 KR ?_; clear ha a; intro a ha
                    refine stepo ha 87 KR ?_; clear ha a; intro a ha
                    refine stepp ha 88 (.bool false) KR KR ?_; clear ha a; intro a ha
                    refine stepp ha 89 (.bool false) KR KR ?_; clear ha a; intro a ha
                    refine stepo ha 90 KR ?_; clear ha a; intro a ha
                    refine stepo ha 91 KR ?_; clear ha a; intro a ha
                    refine stepo ha 92 KR ?_; clear ha a; intro a ha
                    refine stepo ha 93 KR ?_; clear ha a; intro a ha
                    refine stepo ha 94 KR ?_; clear ha a; intro a ha
                    refine stepp ha 95 (.bool false) KR KR ?_; clear ha a; intro a ha
                    refine stepp ha 96 (.bool false) KR KR ?_; clear ha a; intro a ha
                    refine stepo ha 97 KR ?_; clear ha a; intro a ha
                    refine stepo ha 98 KR ?_; clear ha a; intro a ha
                    refine stepo ha 99 KR ?_; clear ha a; intro a ha
                    refine stepo ha 100 KR ?_; clear ha a; intro a ha
                    refine stepo ha 101 KR ?_; clear ha a; intro a ha
                    refine stepp ha 102 (.bool false) KR KR ?_; clear ha a; intro a ha
                    refine stepp ha 4 (.bool false) KR KR ?_; clear ha a; intro a ha
                    refine endl ?_
                    refine thenN (hK5057 _ _ ?_); clear hK5057
                    refine wp_ret ?_
                    obtain rfl := Option.some.inj h
                    exact finv ha _ _ rfl (.tmp (v := .bool false) KR .nil) (.bool false) rfl ⟨rfl, HW.pick [] [] (by decide) (by decide) rfl KR⟩
                · skip
                  replace h := ite_neg' h hp5065
                  replace ha := ha.bool 61 KR (ieq_f hp5065)
                  refine stepo ha 62 KR ?_; clear ha a; intro a ha
                  refine stepo ha 63 KR ?_; clear ha a; intro a ha
                  refine stepo ha 64 KR ?_; clear ha a; intro a ha
                  refine stepo ha 65 KR ?_; clear ha a; intro a ha
                  refine stepo ha 66 KR ?_; clear ha a; intro a ha
                  refine stepp ha 67 (.bool false) KR KR ?_; clear ha a; intro a ha
                  refine stepp ha 68 (.bool false) KR KR ?_; clear ha a; intro a ha
                  refine stepo ha 69 KR ?_; clear ha a; intro a ha
                  refine stepo ha 70 KR ?_; clear ha a; intro a ha
                  refine stepo ha 71 KR ?_; clear ha a; intro a ha
                  refine stepo ha 72 KR ?_; clear ha a; intro a ha
                  refine stepo ha 73 KR ?_; clear ha a; intro a ha
                  refine stepp ha 74 (.bool false) KR KR ?_; clear ha a; intro a ha
                  refine stepp ha 75 (.bool false) KR KR ?_; clear ha a; intro a ha
                  refine stepo ha 76 KR ?_; clear ha a; intro a ha
                  refine stepo ha 77 KR ?_; clear ha a; intro a ha
                  refine stepo ha 78 KR ?_; clear ha a; intro a ha
                  refine stepo ha 79 KR ?_; clear ha a; intro a ha
                  refine stepo ha 80 KR ?_; clear ha a; intro a ha
                  refine stepp ha 81 (.bool false) KR KR ?_; clear ha a; intro a ha
                  refine stepp ha 82 (.bool false) KR KR ?_; clear ha a; intro a ha
                  refine stepo ha 83 KR ?_; clear ha a; intro a ha
                  refine stepo ha 84 KR ?_; clear ha a; intro a ha
                  refine stepo ha 85 KR ?_; clear ha a; intro a ha
                  refine stepo ha 86 KR ?_; clear ha a; intro a ha
                  refine stepo ha 87 KR ?_; clear ha a; intro a ha
                  refine stepp ha 88 (.bool false) KR KR ?_; clear ha a; intro a ha
                  refine stepp ha 89 (.bool false) KR KR ?_; clear ha a; intro a ha
                  refine stepo ha 90 KR ?_; clear ha a; intro a ha
                  refine stepo ha 91 KR ?_; clear ha a; intro a ha
                  refine stepo ha 92 KR ?_; clear ha a; intro a ha
                  refine stepo ha 93 KR ?_; clear ha a; intro a ha
                  refine stepo ha 94 KR ?_; clear ha a; intro a ha
                  refine stepp ha 95 (.bool false) KR KR ?_; clear ha a; intro a ha
                  refine stepp ha 96 (.bool false) KR KR ?_; clear ha a; intro a ha
                  refine stepo ha 97 KR ?_; clear ha a; intro a ha
                  refine stepo ha 98 KR ?_; clear ha a; intro a ha
                  refine stepo ha 99 KR ?_; clear ha a; intro a ha
                  refine stepo ha 100 KR ?_; clear ha a; intro a ha
                  refine stepo ha 101 KR ?_; clear ha a; intro a ha
                  refine stepp ha 102 (.bool false) KR KR ?_; clear ha a; intro a ha
                  refine stepp ha 4 (.bool false) KR KR ?_; clear ha a; intro a ha
                  refine endl ?_
                  refine thenN (hK5057 _ _ ?_); clear hK5057
                  refine wp_ret ?_
                  obtain rfl := Option.some.inj h
                  exact finv ha _ _ rfl (.tmp (v := .bool false) KR .nil) (.bool false) rfl ⟨rfl, HW.pick [] [] (by decide) (by decide) rfl KR⟩
              · skip
                replace h := ite_neg' h hp5064
                replace ha := ha.bool 52 KR (beq_f hp5064)
                refine stepo ha 53 KR ?_; clear ha a; intro a ha
                refine stepo ha 54 KR ?_; clear ha a; intro a ha
                refine stepo ha 55 KR ?_; clear ha a; intro a ha
                refine stepo ha 56 KR ?_; clear ha a; intro a ha
                refine stepo ha 57 KR ?_; clear ha a; intro a ha
                refine stepo ha 58 KR ?_; clear ha a; intro a ha
                refine stepo ha 59 KR ?_; clear ha a; intro a ha
                refine stepp ha 60 (.bool false) KR KR ?_; clear ha a; intro a ha
                refine stepp ha 61 (.bool false) KR KR ?_; clear ha a; intro a ha
                refine stepo ha 62 KR ?_; clear ha a; intro a ha
                refine stepo ha 63 KR ?_; clear ha a; intro a ha
                refine stepo ha 64 KR ?_; clear ha a; intro a ha
                refine stepo ha 65 KR ?_; clear ha a; intro a ha
                refine stepo ha 66 KR ?_; clear ha a; intro a ha
                refine stepp ha 67 (.bool false) KR KR ?_; clear ha a; intro a ha
                refine stepp ha 68 (.bool false) KR KR ?_; clear ha a; intro a ha
                refine stepo ha 69 KR ?_; clear ha a; intro a ha
                refine stepo ha 70 KR ?_; clear ha a; intro a ha
                refine stepo ha 71 KR ?_; clear ha a; intro a ha
                refine stepo ha 72 KR ?_; clear ha a; intro a ha
                refine stepo ha 73 KR ?_; clear ha a; intro a ha
                refine stepp ha 74 (.bool false) KR KR ?_; clear ha a; intro a ha
                refine stepp ha 75 (.bool false) KR KR ?_; clear ha a; intro a ha
                refine stepo ha 76 KR ?_; clear ha a; intro a ha
                refine stepo ha 77 KR ?_; clear ha a; intro a ha
                refine stepo ha 78 KR ?_; clear ha a; intro a ha
                refine stepo ha 79 KR ?_; clear ha a; intro a ha
                refine stepo ha 80 KR ?_; clear ha a; intro a ha
                refine stepp ha 81 (.bool false) KR KR ?_; clear ha a; intro a ha
                refine stepp ha 82 (.bool false) KR KR ?_; clear ha a; intro a ha
                refine stepo ha 83 KR ?_; clear ha a; intro a ha
                refine stepo ha 84 KR ?_; clear ha a; intro a ha
                refine stepo ha 85 KR ?_; clear ha a; intro a ha
                refine stepo ha 86 KR ?_; clear ha a; intro a ha
                refine stepo ha 87 KR ?_; clear ha a; intro a ha
                refine stepp ha 88 (.bool false) KR KR ?_; clear ha a; intro a ha
                refine stepp ha 89 (.bool false) KR KR ?_; clear ha a; intro a ha
                refine stepo ha 90 KR ?_; clear ha a; intro a ha
                refine stepo ha 91 KR ?_; clear ha a; intro a ha
                refine stepo ha 92 KR ?_; clear ha a; intro a ha
                refine stepo ha 93 KR ?_; clear ha a; intro a ha
                refine stepo ha 94 KR ?_; clear ha a; intro a ha
                refine stepp ha 95 (.bool false) KR KR ?_; clear ha a; intro a ha
                refine stepp ha 96 (.bool false) KR KR ?_; clear ha a; intro a ha
                refine stepo ha 97 KR ?_; clear ha a; intro a ha
                refine stepo ha 98 KR ?_; clear ha a; intro a ha
                refine stepo ha 99 KR ?_; clear ha a; intro a ha
                refine stepo ha 100 KR ?_; clear ha a; intro a ha
                refine stepo ha 101 KR ?_; clear ha a; intro a ha
                refine stepp ha 102 (.bool false) KR KR ?_; clear ha a; intro a ha
                refine stepp ha 4 (.bool false) KR KR ?_; clear ha a; intro a ha
                refine endl ?_
                refine thenN (hK5057 _ _ ?_); clear hK5057
                refine wp_ret ?_
                obtain rfl := Option.some.inj h
                exact finv ha _ _ rfl (.tmp (v := .bool false) KR .nil) (.bool false) rfl ⟨rfl, HW.pick [] [] (by decide) (by decide) rfl KR⟩
            · skip
              replace h := ite_neg' h hp5063
              replace ha := ha.bool 45 KR (str_eq_f hp5063)
              refine stepo ha 46 KR ?_; clear ha a; intro a ha
              refine stepo ha 47 KR ?_; clear ha a; intro a ha
              refine stepo ha 48 KR ?_; clear ha a; intro a ha
              refine stepo ha 49 KR ?_; clear ha a; intro a ha
              refine stepo ha 50 KR ?_; clear ha a; intro a ha
              refine stepp ha 51 (.bool false) KR KR ?_; clear ha a; intro a ha
              refine stepp ha 52 (.bool false) KR KR ?_; clear ha a; intro a ha
              refine stepo ha 53 KR ?_; clear ha a; intro a ha
              refine stepo ha 54 KR ?_; clear ha a; intro a ha
              refine stepo ha 55 KR ?_; clear ha a; intro a ha
              refine stepo ha 56 KR ?_; clear ha a; intro a ha
              refine stepo ha 57 KR ?_; clear ha a; intro a ha
              refine stepo ha 58 KR ?_; clear ha a; intro a ha
              refine stepo ha 59 KR ?_; clear ha a; intro a ha
              refine stepp ha 60 (.bool false) KR KR ?_; clear ha a; intro a ha
              refine stepp ha 61 (.bool false) KR KR ?_; clear ha a; intro a ha
              refine stepo ha 62 KR ?_; clear ha a; intro a ha
              refine stepo ha 63 KR ?_; clear ha a; intro a ha
              refine stepo ha 64 KR ?_; clear ha a; intro a ha
              refine stepo ha 65 KR ?_; clear ha a; intro a ha
              refine stepo ha 66 KR ?_; clear ha a; intro a ha
              refine stepp ha 67 (.bool false) KR KR ?_; clear ha a; intro a ha
              refine stepp ha 68 (.bool false) KR KR ?_; clear ha a; intro a ha
              refine stepo ha 69 KR ?_; clear ha a; intro a ha
              refine stepo ha 70 KR ?_; clear ha a; intro a ha
              refine stepo ha 71 KR ?_; clear ha a; intro a ha
              refine stepo ha 72 KR ?_; clear ha a; intro a ha
              refine stepo ha 73 KR ?_; clear ha a; intro a ha
              refine stepp ha 74 (.bool false) KR KR ?_; clear ha a; intro a ha
              refine stepp ha 75 (.bool false) KR KR ?_; clear ha a; intro a ha
              refine stepo ha 76 KR ?_; clear ha a; intro a ha
              refine stepo ha 77 KR ?_; clear ha a; intro a ha
              refine stepo ha 78 KR ?_; clear ha a; intro a ha
              refine stepo ha 79 KR ?_; clear ha a; intro a ha
              refine stepo ha 80 KR ?_; clear ha a; intro a ha
              refine stepp ha 81 (.bool false) KR KR ?_; clear ha a; intro a ha
              refine stepp ha 82 (.bool false) KR KR ?_; clear ha a; intro a ha
              refine stepo ha 83 KR ?_; clear ha a; intro a ha
              refine stepo ha 84 KR ?_; clear ha a; intro a ha
              refine stepo ha 85 KR ?_; clear ha a; intro a ha
              refine stepo ha 86 KR ?_; clear ha a; intro a ha
              refine stepo ha 87 KR ?_; clear ha a; intro a ha
              refine stepp ha 88 (.bool false) KR KR ?_; clear ha a; intro a ha
              refine stepp ha 89 (.bool false) KR KR ?_; clear ha a; intro a ha
              refine stepo ha 90 KR ?_; clear ha a; intro a ha
              refine stepo ha 91 KR ?_; clear ha a; intro a ha
              refine stepo ha 92 KR ?_; clear ha a; intro a ha
              refine stepo ha 93 KR ?_; clear ha a; intro a ha
              refine stepo ha 94 KR ?_; clear ha a; intro a ha
              refine stepp ha 95 (.bool false) KR KR ?_; clear ha a; intro a ha
              refine stepp ha 96 (.bool false) KR KR ?_; clear ha a; intro a ha
              refine stepo ha 97 KR ?_; clear ha a; intro a ha
              refine stepo ha 98 KR ?_; clear ha a; intro a ha
              refine stepo ha 99 KR ?_; clear ha a; intro a ha
              refine stepo ha 100 KR ?_; clear ha a; intro a ha
              refine stepo ha 101 KR ?_; clear ha a; intro a ha
              refine stepp ha 102 (.bool false) KR KR ?_; clear ha a; intro a ha
              refine stepp ha 4 (.bool false) KR KR ?_; clear ha a; intro a ha
              refine endl ?_
              refine thenN (hK5057 _ _ ?_); clear hK5057
              refine wp_ret ?_
              obtain rfl := Option.some.inj h
              exact finv ha _ _ rfl (.tmp (v := .bool false) KR .nil) (.bool false) rfl ⟨rfl, HW.pick [] [] (by decide) (by decide) rfl KR⟩
          · skip
            replace h := ite_neg' h hp5062
            replace ha := ha.bool 38 KR (ieq_f hp5062)
            refine stepo ha 39 KR ?_; clear ha a; intro a ha
            refine stepo ha 40 KR ?_; clear ha a; intro a ha
            refine stepo ha 41 KR ?_; clear ha a; intro a ha
            refine stepo ha 42 KR ?_; clear ha a; intro a ha
            refine stepo ha 43 KR ?_; clear ha a; intro a ha
            refine stepp ha 44 (.bool false) KR KR ?_; clear ha a; intro a ha
            refine stepp ha 45 (.bool false) KR KR ?_; clear ha a; intro a ha
            refine stepo ha 46 KR ?_; clear ha a; intro a ha
            refine stepo ha 47 KR ?_; clear ha a; intro a ha
            refine stepo ha 48 KR ?_; clear ha a; intro a ha
            refine stepo ha 49 KR ?_; clear ha a; intro a ha
            refine stepo ha 50 KR ?_; clear ha a; intro a ha
            refine stepp ha 51 (.bool false) KR KR ?_; clear ha a; intro a ha
            refine stepp ha 52 (.bool false) KR KR ?_; clear ha a; intro a ha
            refine stepo ha 53 KR ?_; clear ha a; intro a ha
            refine stepo ha 54 KR ?_; clear ha a; intro a ha
            refine stepo ha 55 KR ?_; clear ha a; intro a ha
            refine stepo ha 56 KR ?_; clear ha a; intro a ha
            refine stepo ha 57 KR ?_; clear ha a; intro a ha
            refine stepo ha 58 KR ?_; clear ha a; intro a ha
            refine stepo ha 59 KR ?_; clear ha a; intro a ha
            refine stepp ha 60 (.bool false) KR KR ?_; clear ha a; intro a ha
            refine stepp ha 61 (.bool false) KR KR ?_; clear ha a; intro a ha
            refine stepo ha 62 KR ?_; clear ha a; intro a ha
            refine stepo ha 63 KR ?_; clear ha a; intro a ha
            refine stepo ha 64 KR ?_; clear ha a; intro a ha
            refine stepo ha 65 KR ?_; clear ha a; intro a ha
            refine stepo ha 66 KR ?_; clear ha a; intro a ha
            refine stepp ha 67 (.bool false) KR KR ?_; clear ha a; intro a ha
            refine stepp ha 68 (.bool false) KR KR ?_; clear ha a; intro a ha
            refine stepo ha 69 KR ?_; clear ha a; intro a ha
            refine stepo ha 70 KR ?_; clear ha a; intro a ha
            refine stepo ha 71 KR ?_; clear ha a; intro a ha
            refine stepo ha 72 KR ?_; clear ha a; intro a ha
            refine stepo ha 73 KR ?_; clear ha a; intro a ha
            refine stepp ha 74 (.bool false) KR KR ?_; clear ha a; intro a ha
            refine stepp ha 75 (.bool false) KR KR ?_; clear ha a; intro a ha
            refine stepo ha 76 KR ?_; clear ha a; intro a ha
            refine stepo ha 77 KR ?_; clear ha a; intro a ha
            refine stepo ha 78 KR ?_; clear ha a; intro a ha
            refine stepo ha 79 KR ?_; clear ha a; intro a ha
            refine stepo ha 80 KR ?_; clear ha a; intro a ha
            refine stepp ha 81 (.bool false) KR KR ?_; clear ha a; intro a ha
            refine stepp ha 82 (.bool false) KR KR ?_; clear ha a; intro a ha
            refine stepo ha 83 KR ?_; clear ha a; intro a ha
            refine stepo ha 84 KR ?_; clear ha a; intro a ha
            refine stepo ha 85 KR ?_; clear ha a; intro a ha
            refine stepo ha 86 KR ?_; clear ha a; intro a ha
            refine stepo ha 87 KR ?_; clear ha a; intro a ha
            refine stepp ha 88 (.bool false) KR KR ?_; clear ha a; intro a ha
            refine stepp ha 89 (.bool false) KR KR ?_; clear ha a; intro a ha
            refine stepo ha 90 KR ?_; clear ha a; intro a ha
            refine stepo ha 91 KR ?_; clear ha a; intro a ha
            refine stepo ha 92 KR ?_; clear ha a; intro a ha
            refine stepo ha 93 KR ?_; clear ha a; intro a ha
            refine stepo ha 94 KR ?_; clear ha a; intro a ha
            refine stepp ha 95 (.bool false) KR KR ?_; clear ha a; intro a ha
            refine stepp ha 96 (.bool false) KR KR ?_; clear ha a; intro a ha
            refine stepo ha 97 KR ?_; clear ha a; intro a ha
            refine stepo ha 98 KR ?_; clear ha a; intro a ha
            refine stepo ha 99 KR ?_; clear ha a; intro a ha
            refine stepo ha 100 KR ?_; clear ha a; intro a ha
            refine stepo ha 101 KR ?_; clear ha a; intro a ha
            refine stepp ha 102 (.bool false) KR KR ?_; clear ha a; intro a ha
            refine stepp ha 4 (.bool false) KR KR ?_; clear ha a; intro a ha
            refine endl ?_
            refine thenN (hK5057 _ _ ?_); clear hK5057
            refine wp_ret ?_
            obtain rfl := Option.some.inj h
            exact finv ha _ _ rfl (.tmp (v := .bool false) KR .nil) (.bool false) rfl ⟨rfl, HW.pick [] [] (by decide) (by decide) rfl KR⟩
        · skip
          replace h := ite_neg' h hp5061
          replace ha := ha.bool 31 KR (ieq_f hp5061)
          refine stepo ha 32 KR ?_; clear ha a; intro a ha
          refine stepo ha 33 KR ?_; clear ha a; intro a ha
          refine stepo ha 34 KR ?_; clear ha a; intro a ha
          refine stepo ha 35 KR ?_; clear ha a; intro a ha
          refine stepo ha 36 KR ?_; clear ha a; intro a ha
          refine stepp ha 37 (.bool false) KR KR ?_; clear ha a; intro a ha
          refine stepp ha 38 (.bool false) KR KR ?_; clear ha a; intro a ha
          refine stepo ha 39 KR ?_; clear ha a; intro a ha
          refine stepo ha 40 KR ?_; clear ha a; intro a ha
          refine stepo ha 41 KR ?_; clear ha a; intro a ha
          refine stepo ha 42 KR ?_; clear ha a; intro a ha
          refine stepo ha 43 KR ?_; clear ha a; intro a ha
          refine stepp ha 44 (.bool false) KR KR ?_; clear ha a; intro a ha
          refine stepp ha 45 (.bool false) KR KR ?_; clear ha a; intro a ha
          refine stepo ha 46 KR ?_; clear ha a; intro a ha
          refine stepo ha 47 KR ?_; clear ha a; intro a ha
          refine stepo ha 48 KR ?_; clear ha a; intro a ha
          refine stepo ha 49 KR ?_; clear ha a; intro a ha
          refine stepo ha 50 KR ?_; clear ha a; intro a ha
          refine stepp ha 51 (.bool false) KR KR ?_; clear ha a; intro a ha
          refine stepp ha 52 (.bool false) KR KR ?_; clear ha a; intro a ha
          refine stepo ha 53 KR ?_; clear ha a; intro a ha
          refine stepo ha 54 KR ?_; clear ha a; intro a ha
          refine stepo ha 55 KR ?_; clear ha a; intro a ha
          refine stepo ha 56 KR ?_; clear ha a; intro a ha
          refine stepo ha 57 KR ?_; clear ha a; intro a ha
          refine stepo ha 58 KR ?_; clear ha a; intro a ha
          refine stepo ha 59 KR ?_; clear ha a; intro a ha
          refine stepp ha 60 (.bool false) KR KR ?_; clear ha a; intro a ha
          refine stepp ha 61 (.bool false) KR KR ?_; clear ha a; intro a ha
          refine stepo ha 62 KR ?_; clear ha a; intro a ha
          refine stepo ha 63 KR ?_; clear ha a; intro a ha
          refine stepo ha 64 KR ?_; clear ha a; intro a ha
          refine stepo ha 65 KR ?_; clear ha a; intro a ha
          refine stepo ha 66 KR ?_; clear ha a; intro a ha
          refine stepp ha 67 (.bool false) KR KR ?_; clear ha a; intro a ha
          refine stepp ha 68 (.bool false) KR KR ?_; clear ha a; intro a ha
          refine stepo ha 69 KR ?_; clear ha a; intro a ha
          refine stepo ha 70 KR ?_; clear ha a; intro a ha
          refine stepo ha 71 KR ?_; clear ha a; intro a ha
          refine stepo ha 72 KR ?_; clear ha a; intro a ha
          refine stepo ha 73 KR ?_; clear ha a; intro a ha
          refine stepp ha 74 (.bool false) KR KR ?_; clear ha a; intro a ha
          refine stepp ha 75 (.bool false) KR KR ?_; clear ha a; intro a ha
          refine stepo ha 76 KR ?_; clear ha a; intro a ha
          refine stepo ha 77 KR ?_; clear ha a; intro a ha
          refine stepo ha 78 KR ?_; clear ha a; intro a ha
          refine stepo ha 79 KR ?_; clear ha a; intro a ha
          refine stepo ha 80 KR ?_; clear ha a; intro a ha
          refine stepp ha 81 (.bool false) KR KR ?_; clear ha a; intro a ha
          refine stepp ha 82 (.bool false) KR KR ?_; clear ha a; intro a ha
          refine stepo ha 83 KR ?_; clear ha a; intro a ha
          refine stepo ha 84 KR ?_; clear ha a; intro a ha
          refine stepo ha 85 KR ?_; clear ha a; intro a ha
          refine stepo ha 86 KR ?_; clear ha a; intro a ha
          refine stepo ha 87 KR ?_; clear ha a; intro a ha
          refine stepp ha 88 (.bool false) KR KR ?_; clear ha a; intro a ha
          refine stepp ha 89 (.bool false) KR KR ?_; clear ha a; intro a ha
          refine stepo ha 90 KR ?_; clear ha a; intro a ha
          refine stepo ha 91 KR ?_; clear ha a; intro a ha
          refine stepo ha 92 KR ?_; clear ha a; intro a ha
          refine stepo ha 93 KR ?_; clear ha a; intro a ha
          refine stepo ha 94 KR ?_; clear ha a; intro a ha
          refine stepp ha 95 (.bool false) KR KR ?_; clear ha a; intro a ha
          refine stepp ha 96 (.bool false) KR KR ?_; clear ha a; intro a ha
          refine stepo ha 97 KR ?_; clear ha a; intro a ha
          refine stepo ha 98 KR ?_; clear ha a; intro a ha
          refine stepo ha 99 KR ?_; clear ha a; intro a ha
          refine stepo ha 100 KR ?_; clear ha a; intro a ha
          refine stepo ha 101 KR ?_; clear ha a; intro a ha
          refine stepp ha 102 (.bool false) KR KR ?_; clear ha a; intro a ha
          refine stepp ha 4 (.bool false) KR KR ?_; clear ha a; intro a ha
          refine endl ?_
          refine thenN (hK5057 _ _ ?_); clear hK5057
          refine wp_ret ?_
          obtain rfl := Option.some.inj h
          exact finv ha _ _ rfl (.tmp (v := .bool false) KR .nil) (.bool false) rfl ⟨rfl, HW.pick [] [] (by decide) (by decide) rfl KR⟩
      · skip
        replace h := ite_neg' h hp5060
        replace ha := ha.bool 24 KR (str_eq_f hp5060)
        refine stepo ha 25 KR ?_; clear ha a; intro a ha
        refine stepo ha 26 KR ?_; clear ha a; intro a ha
        refine stepo ha 27 KR ?_; clear ha a; intro a ha
        refine stepo ha 28 KR ?_; clear ha a; intro a ha
        refine stepo ha 29 KR ?_; clear ha a; intro a ha
        refine stepp ha 30 (.bool false) KR KR ?_; clear ha a; intro a ha
        refine stepp ha 31 (.bool false) KR KR ?_; clear ha a; intro a ha
        refine stepo ha 32 KR ?_; clear ha a; intro a ha
        refine stepo ha 33 KR ?_; clear ha a; intro a ha
        refine stepo ha 34 KR ?_; clear ha a; intro a ha
        refine stepo ha 35 KR ?_; clear ha a; intro a ha
        refine stepo ha 36 KR ?_; clear ha a; intro a ha
        refine stepp ha 37 (.bool false) KR KR ?_; clear ha a; intro a ha
        refine stepp ha 38 (.bool false) KR KR ?_; clear ha a; intro a ha
        refine stepo ha 39 KR ?_; clear ha a; intro a ha
        refine stepo ha 40 KR ?_; clear ha a; intro a ha
        refine stepo ha 41 KR ?_; clear ha a; intro a ha
        refine stepo ha 42 KR ?_; clear ha a; intro a ha
        refine stepo ha 43 KR ?_; clear ha a; intro a ha
        refine stepp ha 44 (.bool false) KR KR ?_; clear ha a; intro a ha
        refine stepp ha 45 (.bool false) KR KR ?_; clear ha a; intro a ha
        refine stepo ha 46 KR ?_; clear ha a; intro a ha
        refine stepo ha 47 KR ?_; clear ha a; intro a ha
        refine stepo ha 48 KR ?_; clear ha a; intro a ha
        refine stepo ha 49 KR ?_; clear ha a; intro a ha
        refine stepo ha 50 KR ?_; clear ha a; intro a ha
        refine stepp ha 51 (.bool false) KR KR ?_; clear ha a; intro a ha
        refine stepp ha 52 (.bool false) KR KR ?_; clear ha a; intro a ha
        refine stepo ha 53 KR ?_; clear ha a; intro a ha
        refine stepo ha 54 KR ?_; clear ha a; intro a ha
        refine stepo ha 55 KR ?_; clear ha a; intro a ha
        refine stepo ha 56 KR ?_; clear ha a; intro a ha
        refine stepo ha 57 KR ?_; clear ha a; intro a ha
        refine stepo ha 58 KR ?_; clear ha a; intro a ha
        refine stepo ha 59 KR ?_; clear ha a; intro a ha
        refine stepp ha 60 (.bool false) KR KR ?_; clear ha a; intro a ha
        refine stepp ha 61 (.bool false) KR KR ?_; clear ha a; intro a ha
        refine stepo ha 62 KR ?_; clear ha a; intro a ha
        refine stepo ha 63 KR ?_; clear ha a; intro a ha
        refine stepo ha 64 KR ?_; clear ha a; intro a ha
        refine stepo ha 65 KR ?_; clear ha a; intro a ha
        refine stepo ha 66 KR ?_; clear ha a; intro a ha
        refine stepp ha 67 (.bool false) KR KR ?_; clear ha a; intro a ha
        refine stepp ha 68 (.bool false) KR KR ?_; clear ha a; intro a ha
        refine stepo ha 69 KR ?_; clear ha a; intro a ha
        refine stepo ha 70 KR ?_; clear ha a; intro a ha
        refine stepo ha 71 KR ?_; clear ha a; intro a ha
        refine stepo ha 72 KR ?_; clear ha a; intro a ha
        refine stepo ha 73 KR ?_; clear ha a; intro a ha
        refine stepp ha 74 (.bool false) KR KR ?_; clear ha a; intro a ha
        refine stepp ha 75 (.bool false) KR KR ?_; clear ha a; intro a ha
        refine stepo ha 76 KR ?_; clear ha a; intro a ha
        refine stepo ha 77 KR ?_; clear ha a; intro a ha
        refine stepo ha 78 KR ?_; clear ha a; intro a ha
        refine stepo ha 79 KR ?_; clear ha a; intro a ha
        refine stepo ha 80 KR ?_; clear ha a; intro a ha
        refine stepp ha 81 (.bool false) KR KR ?_; clear ha a; intro a ha
        refine stepp ha 82 (.bool false) KR KR ?_; clear ha a; intro a ha
        refine stepo ha 83 KR ?_; clear ha a; intro a ha
        refine stepo ha 84 KR ?_; clear ha a; intro a ha
        refine stepo ha 85 KR ?_; clear ha a; intro a ha
        refine stepo ha 86 KR ?_; clear ha a; intro a ha
        refine stepo ha 87 KR ?_; clear ha a; intro a ha
        refine stepp ha 88 (.bool false) KR KR ?_; clear ha a; intro a ha
        refine stepp ha 89 (.bool false) KR KR ?_; clear ha a; intro a ha
        refine stepo ha 90 KR ?_; clear ha a; intro a ha
        refine stepo ha 91 KR ?_; clear ha a; intro a ha
        refine stepo ha 92 KR ?_; clear ha a; intro a ha
        refine stepo ha 93 KR ?_; clear ha a; intro a ha
        refine stepo ha 94 KR ?_; clear ha a; intro a ha
        refine stepp ha 95 (.bool false) KR KR ?_; clear ha a; intro a ha
        refine stepp ha 96 (.bool false) KR KR ?_; clear ha a; intro a ha
        refine stepo ha 97 KR ?_; clear ha a; intro a ha
        refine stepo ha 98 KR ?_; clear ha a; intro a ha
        refine stepo ha 99 KR ?_; clear ha a; intro a ha
        refine stepo ha 100 KR ?_; clear ha a; intro a ha
        refine stepo ha 101 KR ?_; clear ha a; intro a ha
        refine stepp ha 102 (.bool false) KR KR ?_; clear ha a; intro a ha
        refine stepp ha 4 (.bool false) KR KR ?_; clear ha a; intro a ha
        refine endl ?_
        refine thenN (hK5057 _ _ ?_); clear hK5057
        refine wp_ret ?_
        obtain rfl := Option.some.inj h
        exact finv ha _ _ rfl (.tmp (v := .bool false) KR .nil) (.bool false) rfl ⟨rfl, HW.pick [] [] (by decide) (by decide) rfl KR⟩
    · skip
      replace h := ite_neg' h hp5059
      replace ha := ha.bool 17 KR (ieq_f hp5059)
      refine stepo ha 18 KR ?_; clear ha a; intro a ha
      refine stepo ha 19 KR ?_; clear ha a; intro a ha
      refine stepo ha 20 KR ?_; clear ha a; intro a ha
      refine stepo ha 21 KR ?_; clear ha a; intro a ha
      refine stepo ha 22 KR ?_; clear ha a; intro a ha
      refine stepp ha 23 (.bool false) KR KR ?_; clear ha a; intro a ha
      refine stepp ha 24 (.bool false) KR KR ?_; clear ha a; intro a ha
      refine stepo ha 25 KR ?_; clear ha a; intro a ha
      refine stepo ha 26 KR ?_; clear ha a; intro a ha
      refine stepo ha 27 KR ?_; clear ha a; intro a ha
      refine stepo ha 28 KR ?_; clear ha a; intro a ha
      refine stepo ha 29 KR ?_; clear ha a; intro a ha
      refine stepp ha 30 (.bool false) KR KR ?_; clear ha a; intro a ha
      refine stepp ha 31 (.bool false) KR KR ?_; clear ha a; intro a ha
      refine stepo ha 32 KR ?_; clear ha a; intro a ha
      refine stepo ha 33 KR ?_; clear ha a; intro a ha
      refine stepo ha 34 KR ?_; clear ha a; intro a ha
      refine stepo ha 35 KR ?_; clear ha a; intro a ha
      refine stepo ha 36 KR ?_; clear ha a; intro a ha
      refine stepp ha 37 (.bool false) KR KR ?_; clear ha a; intro a ha
      refine stepp ha 38 (.bool false) KR KR ?_; clear ha a; intro a ha
      refine stepo ha 39 KR ?_; clear ha a; intro a ha
      refine stepo ha 40 KR ?_; clear ha a; intro a ha
      refine stepo ha 41 KR ?_; clear ha a; intro a ha
      refine stepo ha 42 KR ?_; clear ha a; intro a ha
      refine stepo ha 43 KR ?_; clear ha a; intro a ha
      refine stepp ha 44 (.bool false) KR KR ?_; clear ha a; intro a ha
      refine stepp ha 45 (.bool false) KR KR ?_; clear ha a; intro a ha
      refine stepo ha 46 KR ?_; clear ha a; intro a ha
      refine stepo ha 47 KR ?_; clear ha a; intro a ha
      refine stepo ha 48 KR ?_; clear ha a; intro a ha
      refine stepo ha 49 KR ?_; clear ha a; intro a ha
      refine stepo ha 50 KR ?_; clear ha a; intro a ha
      refine stepp ha 51 (.bool false) KR KR ?_; clear ha a; intro a ha
      refine stepp ha 52 (.bool false) KR KR ?_; clear ha a; intro a ha
      refine stepo ha 53 KR ?_; clear ha a; intro a ha
      refine stepo ha 54 KR ?_; clear ha a; intro a ha
      refine stepo ha 55 KR ?_; clear ha a; intro a ha
      refine stepo ha 56 KR ?_; clear ha a; intro a ha
      refine stepo ha 57 KR ?_; clear ha a; intro a ha
      refine stepo ha 58 KR ?_; clear ha a; intro a ha
      refine stepo ha 59 KR ?_; clear ha a; intro a ha
      refine stepp ha 60 (.bool false) KR KR ?_; clear ha a; intro a ha
      refine stepp ha 61 (.bool false) KR KR ?_; clear ha a; intro a ha
      refine stepo ha 62 KR ?_; clear ha a; intro a ha
      refine stepo ha 63 KR ?_; clear ha a; intro a ha
      refine stepo ha 64 KR ?_; clear ha a; intro a ha
      refine stepo ha 65 KR ?_; clear ha a; intro a ha
      refine stepo ha 66 KR ?_; clear ha a; intro a ha
      refine stepp ha 67 (.bool false) KR KR ?_; clear ha a; intro a ha
      refine stepp ha 68 (.bool false) KR KR ?_; clear ha a; intro a ha
      refine stepo ha 69 KR ?_; clear ha a; intro a ha
      refine stepo ha 70 KR ?_; clear ha a; intro a ha
      refine stepo ha 71 KR ?_; clear ha a; intro a ha
      refine stepo ha 72 KR ?_; clear ha a; intro a ha
      refine stepo ha 73 KR ?_; clear ha a; intro a ha
      refine stepp ha 74 (.bool false) KR KR ?_; clear ha a; intro a ha
      refine stepp ha 75 (.bool false) KR KR ?_; clear ha a; intro a ha
      refine stepo ha 76 KR ?_; clear ha a; intro a ha
      refine stepo ha 77 KR ?_; clear ha a; intro a ha
      refine stepo ha 78 KR ?_; clear ha a; intro a ha
      refine stepo ha 79 KR ?_; clear ha a; intro a ha
      refine stepo ha 80 KR ?_; clear ha a; intro a ha
      refine stepp ha 81 (.bool false) KR KR ?_; clear ha a; intro a ha
      refine stepp ha 82 (.bool false) KR KR ?_; clear ha a; intro a ha
      refine stepo ha 83 KR ?_; clear ha a; intro a ha
      refine stepo ha 84 KR ?_; clear ha a; intro a ha
      refine stepo ha 85 KR ?_; clear ha a; intro a ha
      refine stepo ha 86 KR ?_; clear ha a; intro a ha
      refine stepo ha 87 KR ?_; clear ha a; intro a ha
      refine stepp ha 88 (.bool false) KR KR ?_; clear ha a; intro a ha
      refine stepp ha 89 (.bool false) KR KR ?_; clear ha a; intro a ha
      refine stepo ha 90 KR ?_; clear ha a; intro a ha
      refine stepo ha 91 KR ?_; clear ha a; intro a ha
      refine stepo ha 92 KR ?_; clear ha a; intro a ha
      refine stepo ha 93 KR ?_; clear ha a; intro a ha
      refine stepo ha 94 KR ?_; clear ha a; intro a ha
      refine stepp ha 95 (.bool false) KR KR ?_; clear ha a; intro a ha
      refine stepp ha 96 (.bool false) KR KR ?_; clear ha a; intro a ha
      refine stepo ha 97 KR ?_; clear ha a; intro a ha
      refine stepo ha 98 KR ?_; clear ha a; intro a ha
      refine stepo ha 99 KR ?_; clear ha a; intro a ha
      refine stepo ha 100 KR ?_; clear ha a; intro a ha
      refine stepo ha 101 KR ?_; clear ha a; intro a ha
      refine stepp ha 102 (.bool false) KR KR ?_; clear ha a; intro a ha
      refine stepp ha 4 (.bool false) KR KR ?_; clear ha a; intro a ha
      refine endl ?_
      refine thenN (hK5057 _ _ ?_); clear hK5057
      refine wp_ret ?_
      obtain rfl := Option.some.inj h
      exact finv ha _ _ rfl (.tmp (v := .bool false) KR .nil) (.bool false) rfl ⟨rfl, HW.pick [] [] (by decide) (by decide) rfl KR⟩
  · skip
    replace h := ite_neg' h hp5058
    replace ha := ha.bool 10 KR (ieq_f hp5058)
    refine stepo ha 11 KR ?_; clear ha a; intro a ha
    refine stepo ha 12 KR ?_; clear ha a; intro a ha
    refine stepo ha 13 KR ?_; clear ha a; intro a ha
    refine stepo ha 14 KR ?_; clear ha a; intro a ha
    refine stepo ha 15 KR ?_; clear ha a; intro a ha
    refine stepp ha 16 (.bool false) KR KR ?_; clear ha a; intro a ha
    refine stepp ha 17 (.bool false) KR KR ?_; clear ha a; intro a ha
    refine stepo ha 18 KR ?_; clear ha a; intro a ha
    refine stepo ha 19 KR ?_; clear ha a; intro a ha
    refine stepo ha 20 KR ?_; clear ha a; intro a ha
    refine stepo ha 21 KR ?_; clear ha a; intro a ha
    refine stepo ha 22 KR ?_; clear ha a; intro a ha
    refine stepp ha 23 (.bool false) KR KR ?_; clear ha a; intro a ha
    refine stepp ha 24 (.bool false) KR KR ?_; clear ha a; intro a ha
    refine stepo ha 25 KR ?_; clear ha a; intro a ha
    refine stepo ha 26 KR ?_; clear ha a; intro a ha
    refine stepo ha 27 KR ?_; clear ha a; intro a ha
    refine stepo ha 28 KR ?_; clear ha a; intro a ha
    refine stepo ha 29 KR ?_; clear ha a; intro a ha
    refine stepp ha 30 (.bool false) KR KR ?_; clear ha a; intro a ha
    refine stepp ha 31 (.bool false) KR KR ?_; clear ha a; intro a ha
    refine stepo ha 32 KR ?_; clear ha a; intro a ha
    refine stepo ha 33 KR ?_; clear ha a; intro a ha
    refine stepo ha 34 KR ?_; clear ha a; intro a ha
    refine stepo ha 35 KR ?_; clear ha a; intro a ha
    refine stepo ha 36 KR ?_; clear ha a; intro a ha
    refine stepp ha 37 (.bool false) KR KR ?_; clear ha a; intro a ha
    refine stepp ha 38 (.bool false) KR KR ?_; clear ha a; intro a ha
    refine stepo ha 39 KR ?_; clear ha a; intro a ha
    refine stepo ha 40 KR ?_; clear ha a; intro a ha
    refine stepo ha 41 KR ?_; clear ha a; intro a ha
    refine stepo ha 42 KR ?_; clear ha a; intro a ha
    refine stepo ha 43 KR ?_; clear ha a; intro a ha
    refine stepp ha 44 (.bool false) KR KR ?_; clear ha a; intro a ha
    refine stepp ha 45 (.bool false) KR KR ?_; clear ha a; intro a ha
    refine stepo ha 46 KR ?_; clear ha a; intro a ha
    refine stepo ha 47 KR ?_; clear ha a; intro a ha
    refine stepo ha 48 KR ?_; clear ha a; intro a ha
    refine stepo ha 49 KR ?_; clear ha a; intro a ha
    refine stepo ha 50 KR ?_; clear ha a; intro a ha
    refine stepp ha 51 (.bool false) KR KR ?_; clear ha a; intro a ha
    refine stepp ha 52 (.bool false) KR KR ?_; clear ha a; intro a ha
    refine stepo ha 53 KR ?_; clear ha a; intro a ha
    refine stepo ha 54 KR ?_; clear ha a; intro a ha
    refine stepo ha 55 KR ?_; clear ha a; intro a ha
    refine stepo ha 56 KR ?_; clear ha a; intro a ha
    refine stepo ha 57 KR ?_; clear ha a; intro a ha
    refine stepo ha 58 KR ?_; clear ha a; intro a ha
    refine stepo ha 59 KR ?_; clear ha a; intro a ha
    refine stepp ha 60 (.bool false) KR KR ?_; clear ha a; intro a ha
    refine stepp ha 61 (.bool false) KR KR ?_; clear ha a; intro a ha
    refine stepo ha 62 KR ?_; clear ha a; intro a ha
    refine stepo ha 63 KR ?_; clear ha a; intro a ha
    refine stepo ha 64 KR ?_; clear ha a; intro a ha
    refine stepo ha 65 KR ?_; clear ha a; intro a ha
    refine stepo ha 66 KR ?_; clear ha a; intro a ha
    refine stepp ha 67 (.bool false) KR KR ?_; clear ha a; intro a ha
    refine stepp ha 68 (.bool false) KR KR ?_; clear ha a; intro a ha
    refine stepo ha 69 KR ?_; clear ha a; intro a ha
    refine stepo ha 70 KR ?_; clear ha a; intro a ha
    refine stepo ha 71 KR ?_; clear ha a; intro a ha
    refine stepo ha 72 KR ?_; clear ha a; intro a ha
    refine stepo ha 73 KR ?_; clear ha a; intro a ha
    refine stepp ha 74 (.bool false) KR KR ?_; clear ha a; intro a ha
    refine stepp ha 75 (.bool false) KR KR ?_; clear ha a; intro a ha
    refine stepo ha 76 KR ?_; clear ha a; intro a ha
    refine stepo ha 77 KR ?_; clear ha a; intro a ha
    refine stepo ha 78 KR ?_; clear ha a; intro a ha
    refine stepo ha 79 KR ?_; clear ha a; intro a ha
    refine stepo ha 80 KR ?_; clear ha a; intro a ha
    refine stepp ha 81 (.bool false) KR KR ?_; clear ha a; intro a ha
    refine stepp ha 82 (.bool false) KR KR ?_; clear ha a; intro a ha
    refine stepo ha 83 KR ?_; clear ha a; intro a ha
    refine stepo ha 84 KR ?_; clear ha a; intro a ha
    refine stepo ha 85 KR ?_; clear ha a; intro a ha
    refine stepo ha 86 KR ?_; clear ha a; intro a ha
    refine stepo ha 87 KR ?_; clear ha a; intro a ha
    refine stepp ha 88 (.bool false) KR KR ?_; clear ha a; intro a ha
    refine stepp ha 89 (.bool false) KR KR ?_; clear ha a; intro a ha
    refine stepo ha 90 KR ?_; clear ha a; intro a ha
    refine stepo ha 91 KR ?_; clear ha a; intro a ha
    refine stepo ha 92 KR ?_; clear ha a; intro a ha
    refine stepo ha 93 KR ?_; clear ha a; intro a ha
    refine stepo ha 94 KR ?_; clear ha a; intro a ha
    refine stepp ha 95 (.bool false) KR KR ?_; clear ha a; intro a ha
    refine stepp ha 96 (.bool false) KR KR ?_; clear ha a; intro a ha
    refine stepo ha 97 KR ?_; clear ha a; intro a ha
    refine stepo ha 98 KR ?_; clear ha a; intro a ha
    refine stepo ha 99 KR ?_; clear ha a; intro a ha
    refine stepo ha 100 KR ?_; clear ha a; intro a ha
    refine stepo ha 101 KR ?_; clear ha a; intro a ha
    refine stepp ha 102 (.bool false) KR KR ?_; clear ha a; intro a ha
    refine stepp ha 4 (.bool false) KR KR ?_; clear ha a; intro a ha
    refine endl ?_
    refine thenN (hK5057 _ _ ?_); clear hK5057
    refine wp_ret ?_
    obtain rfl := Option.some.inj h
    exact finv ha _ _ rfl (.tmp (v := .bool false) KR .nil) (.bool false) rfl ⟨rfl, HW.pick [] [] (by decide) (by decide) rfl KR⟩
/-! ### headgate/prout.List: function 41 -/
def prout_List.j1 (K : Nat) (a0 : T_api_Cmd) (again5226 : Int → Option (Int × ByteArray × Int)) (x5227 : Int) (t5254 : ByteArray) (t5258 : ByteArray) (x5271 : Int) : Option (Int × ByteArray × Int) :=
  (prout_key.f K x5271).bind fun t5275 => (asrt ((t5254 ++ t5258).size + t5275.size ≤ 9223372036854775807) ((prout_Change.f K x5227 a0.f11 ((t5254 ++ t5258) ++ t5275)).bind fun t5282 => (if t5282.2 = 0 then ((prout_same.f (⟨t5282.1.f0, t5282.1.f1, t5282.1.f2, t5282.1.f3, t5282.1.f4, t5282.1.f5, t5282.1.f6, t5282.1.f7, t5282.1.f8, t5282.1.f9, t5282.1.f10, t5282.1.f11, t5282.1.f12, t5282.1.f13⟩ : T_api_Cmd) a0).bind fun t5295 => (if t5295 = true then (some (x5227, (t5254 ++ t5258) ++ t5275, 0)) else (again5226 (IntKind.wrap .i64 (x5227 + 1))))) else (again5226 (IntKind.wrap .i64 (x5227 + 1))))))
def prout_List.j0 (K : Nat) (a0 : T_api_Cmd) (again5226 : Int → Option (Int × ByteArray × Int)) (x5227 : Int) (x5249 : Bool) (x5250 : Bool) : Option (Int × ByteArray × Int) :=
  (prout_key.f K a0.f8).bind fun t5254 => ((prout_key.f K (bor .u64 a0.f9 a0.f10)).bind fun t5258 => (asrt (t5254.size + t5258.size ≤ 9223372036854775807) (if a0.f13 = 2 then (prout_List.j1 K a0 again5226 x5227 t5254 t5258 16777216) else (prout_List.j1 K a0 again5226 x5227 t5254 t5258 0))))
def prout_List.b0 (K : Nat) (a0 : T_api_Cmd) (t5079 : T_arr7_3) (again5226 : Int → Option (Int × ByteArray × Int)) (x5227 : Int) : Option (Int × ByteArray × Int) :=
  if x5227 < 7 then (asrt (0 ≤ x5227) (if (rdL (0 : Int) ([t5079.f0, t5079.f1, t5079.f2, t5079.f3, t5079.f4, t5079.f5, t5079.f6] : List Int) x5227) = a0.f0 then (if (rdL (0 : Int) ([t5079.f0, t5079.f1, t5079.f2, t5079.f3, t5079.f4, t5079.f5, t5079.f6] : List Int) x5227) = 0 then (again5226 (IntKind.wrap .i64 (x5227 + 1))) else (if (rdL (0 : Int) ([t5079.f0, t5079.f1, t5079.f2, t5079.f3, t5079.f4, t5079.f5, t5079.f6] : List Int) x5227) = 8 then (if (x5227 == 6) = a0.f12 then (prout_List.j0 K a0 again5226 x5227 true ((x5227 == 6) != a0.f12)) else (again5226 (IntKind.wrap .i64 (x5227 + 1)))) else (prout_List.j0 K a0 again5226 x5227 false false))) else (again5226 (IntKind.wrap .i64 (x5227 + 1))))) else (some (0, (⟨#[]⟩ : ByteArray), 180))
def prout_List.l0 (K : Nat) (a0 : T_api_Cmd) (t5079 : T_arr7_3) : Nat → Int → Option (Int × ByteArray × Int)
  | 0, _ => none
  | k_ + 1, x5227 => prout_List.b0 K a0 t5079 (prout_List.l0 K a0 t5079 k_) x5227
def prout_List.f (K : Nat) (a0 : T_api_Cmd) : Option (Int × ByteArray × Int) :=
  (prout_ops.f).bind fun t5079 => (prout_List.l0 K a0 t5079 K 0)
set_option maxRecDepth 100000 in
set_option maxHeartbeats 4000000 in
theorem prout_List.calls (K : Nat) (a0 : T_api_Cmd) (A0_0 : Option Addr) (c0_0 : Nat) (r : Int × ByteArray × Int) (w : World) (hr0_0 : Rd 2 w (.slice A0_0 a0.f7.length c0_0) a0.f7.length (encs T_api_Range.enc a0.f7)) (h : prout_List.f K a0 = some r) :
    Calls Tryd.prog 41 #[.agg #[.int .i64 a0.f0, .int .i64 a0.f1, .string a0.f2, .int .i64 a0.f3, .int .i64 a0.f4, .string a0.f5, .bool a0.f6, .slice A0_0 a0.f7.length c0_0, .int .u64 a0.f8, .int .u64 a0.f9, .int .u64 a0.f10, .int .i64 a0.f11, .bool a0.f12, .int .i64 a0.f13]] w (fun e W' => e = .returned (.tuple #[.int .i64 r.1, .string r.2.1, .int .i64 r.2.2]) ∧ Wd w W' [] [] ) := by
  refine sxstart (n := 69) (l := [(0, .agg #[.int .i64 a0.f0, .int .i64 a0.f1, .string a0.f2, .int .i64 a0.f3, .int .i64 a0.f4, .string a0.f5, .bool a0.f6, .slice A0_0 a0.f7.length c0_0, .int .u64 a0.f8, .int .u64 a0.f9, .int .u64 a0.f10, .int .i64 a0.f11, .bool a0.f12, .int .i64 a0.f13])]) Tryd.func41 rfl rfl (Nat.le_of_ble_eq_true KR) (subsA_cons rfl (subsA_nil _)) ?_
  intro a ha
  have HW := Wd.refl w
  unfold prout_List.f at h
  refine wp_seq_k (fun K5071 hK5072 => ?_)
  refine wp_region_lit ?_
  refine stepnew ha HW 1 #[.int .i64 a0.f0, .int .i64 a0.f1, .string a0.f2, .int .i64 a0.f3, .int .i64 a0.f4, .string a0.f5, .bool a0.f6, .slice A0_0 a0.f7.length c0_0, .int .u64 a0.f8, .int .u64 a0.f9, .int .u64 a0.f10, .int .i64 a0.f11, .bool a0.f12, .int .i64 a0.f13] 49 KR KR ?_; clear ha HW a; intro b5073 a W5074 HW ha
  refine stepp ha 2 (.int .i64 0) KR KR ?_; clear ha a; intro a ha
  refine stepp ha 3 (.string (⟨#[]⟩ : ByteArray)) KR KR ?_; clear ha a; intro a ha
  refine stepp ha 4 (.int .i64 0) KR KR ?_; clear ha a; intro a ha
  refine endl ?_
  refine thenN (hK5072 _ _ ?_); clear hK5072
  refine wp_seq_k (fun K5075 hK5076 => ?_)
  refine wp_seq_k (fun K5077 hK5078 => ?_)
  refine wp_region_lit ?_
  obtain ⟨t5079, ht5080, h_⟩ := bind_some' h; clear h; have h := h_; clear h_
  refine stepc ha 10 KR KR (prout_ops.calls t5079 _ ht5080) ?_; clear ha a; rintro e W5081 ⟨rfl, HX5082⟩
  refine ⟨_, rfl, ?_⟩; intro a ha; replace HW := HW.callw HX5082; clear HX5082
  refine stepp ha 11 (.int .i64 0) KR KR ?_; clear ha a; intro a ha
  refine endl ?_
  refine thenN (hK5078 _ _ ?_); clear hK5078
  refine wp_block ?_
  refine loopk (fun k => fun a W5228 => ∃ (x5227 : Int), prout_List.l0 K a0 t5079 k x5227 = some r ∧ Has 69 [(1, .pointer (some ⟨b5073, 0, none⟩)), (10, .agg #[.int .i64 t5079.f0, .int .i64 t5079.f1, .int .i64 t5079.f2, .int .i64 t5079.f3, .int .i64 t5079.f4, .int .i64 t5079.f5, .int .i64 t5079.f6]), (11, .int .i64 x5227)] a ∧ Wd w W5228 [(b5073, .cells #[.int .i64 a0.f0, .int .i64 a0.f1, .string a0.f2, .int .i64 a0.f3, .int .i64 a0.f4, .string a0.f5, .bool a0.f6, .slice A0_0 a0.f7.length c0_0, .int .u64 a0.f8, .int .u64 a0.f9, .int .u64 a0.f10, .int .i64 a0.f11, .bool a0.f12, .int .i64 a0.f13] 49 (0, 0))] []) K ?_ ?_
  · skip
    exact ⟨0, h, ha.sub (subs_cons KR (subs_cons KR (subs_cons KR (subs_nil _)))), HW.pick [0] [] (by decide) (by decide) KR KR⟩
  · skip
    intro k a W5228 hI
    obtain ⟨x5227, h, ha, HW⟩ := hI
    cases k with
    | zero => exact (none_some (show none = some r from h)).elim
    | succ k5229 =>
      replace h : prout_List.b0 K a0 t5079 (prout_List.l0 K a0 t5079 k5229) x5227 = some r := h
      obtain ⟨again5226, hag5230⟩ : ∃ g_, g_ = prout_List.l0 K a0 t5079 k5229 := ⟨_, rfl⟩
      rw [← hag5230] at h
      unfold prout_List.b0 at h
      refine wp_seq_k (fun K5231 hK5232 => ?_)
      refine wp_region_lit ?_
      refine stepp ha 12 (.bool (decide (x5227 < 7))) KR KR ?_; clear ha a; intro a ha
      refine endl ?_
      refine thenN (hK5232 _ _ ?_); clear hK5232
      refine wp_seq_k (fun K5233 hK5234 => ?_)
      by_cases hp5235 : x5227 < 7
      · skip
        replace h := ite_pos' h hp5235
        refine condT ha KR KR (t := decide (x5227 < 7)) (decide_eq_true hp5235) ?_
        refine wp_skip ?_
        refine thenN (hK5234 _ _ ?_); clear hK5234
        refine wp_seq_k (fun K5236 hK5237 => ?_)
        refine wp_block ?_
        refine wp_seq_k (fun K5238 hK5239 => ?_)
        refine wp_region_lit ?_
        refine stepp ha 13 (.int .i64 x5227) KR KR ?_; clear ha a; intro a ha
        obtain ⟨hA5240, h_⟩ := asrt_some h; clear h; have h := h_; clear h_
        refine stepai (Value.int .i64) (0 : Int) ha 14 96 7 3 (.tmp 10) (.tmp 11) .i64 x5227 ([t5079.f0, t5079.f1, t5079.f2, t5079.f3, t5079.f4, t5079.f5, t5079.f6] : List Int) rfl KR KR KR KR hA5240 hp5235 KR ?_; clear ha a; intro a ha
        refine stepp ha 5 (.int .i64 x5227) KR KR ?_; clear ha a; intro a ha
        refine stepp ha 6 (.int .i64 (rdL (0 : Int) ([t5079.f0, t5079.f1, t5079.f2, t5079.f3, t5079.f4, t5079.f5, t5079.f6] : List Int) x5227)) KR KR ?_; clear ha a; intro a ha
        refine endl ?_
        refine thenN (hK5239 _ _ ?_); clear hK5239
        refine wp_seq_k (fun K5241 hK5242 => ?_)
        refine cutn (fun a W5251 => ∃ (x5249 : Bool), ∃ (x5250 : Bool), prout_List.j0 K a0 again5226 x5227 x5249 x5250 = some r ∧ Has 69 [(1, .pointer (some ⟨b5073, 0, none⟩)), (5, .int .i64 x5227), (10, .agg #[.int .i64 t5079.f0, .int .i64 t5079.f1, .int .i64 t5079.f2, .int .i64 t5079.f3, .int .i64 t5079.f4, .int .i64 t5079.f5, .int .i64 t5079.f6]), (11, .int .i64 x5227), (20, .int .i64 (rdL (0 : Int) ([t5079.f0, t5079.f1, t5079.f2, t5079.f3, t5079.f4, t5079.f5, t5079.f6] : List Int) x5227)), (21, .bool ((rdL (0 : Int) ([t5079.f0, t5079.f1, t5079.f2, t5079.f3, t5079.f4, t5079.f5, t5079.f6] : List Int) x5227) == 0)), (24, .int .i64 (rdL (0 : Int) ([t5079.f0, t5079.f1, t5079.f2, t5079.f3, t5079.f4, t5079.f5, t5079.f6] : List Int) x5227)), (25, .bool ((rdL (0 : Int) ([t5079.f0, t5079.f1, t5079.f2, t5079.f3, t5079.f4, t5079.f5, t5079.f6] : List Int) x5227) == 8)), (26, .bool x5249), (32, .bool x5250)] a ∧ Wd w W5251 [(b5073, .cells #[.int .i64 a0.f0, .int .i64 a0.f1, .string a0.f2, .int .i64 a0.f3, .int .i64 a0.f4, .string a0.f5, .bool a0.f6, .slice A0_0 a0.f7.length c0_0, .int .u64 a0.f8, .int .u64 a0.f9, .int .u64 a0.f10, .int .i64 a0.f11, .bool a0.f12, .int .i64 a0.f13] 49 (0, 0))] []) ?_ ?_
        · skip
          refine wp_seq_k (fun K5243 hK5244 => ?_)
          refine wp_region_lit ?_
          refine stepp ha 15 (.int .i64 (rdL (0 : Int) ([t5079.f0, t5079.f1, t5079.f2, t5079.f3, t5079.f4, t5079.f5, t5079.f6] : List Int) x5227)) KR KR ?_; clear ha a; intro a ha
          refine stepp ha 16 (.pointer (some ⟨b5073, 0, none⟩)) KR KR ?_; clear ha a; intro a ha
          refine stepl ha 17 (HW.ca (i := 0) (b := b5073) (C := #[.int .i64 a0.f0, .int .i64 a0.f1, .string a0.f2, .int .i64 a0.f3, .int .i64 a0.f4, .string a0.f5, .bool a0.f6, .slice A0_0 a0.f7.length c0_0, .int .u64 a0.f8, .int .u64 a0.f9, .int .u64 a0.f10, .int .i64 a0.f11, .bool a0.f12, .int .i64 a0.f13]) (T := 49) (fr := (0, 0)) KR) 3 0 (.tmp 16) (.int .i64 a0.f0) rfl KR KR KR ?_; clear ha a; intro a ha
          refine stepp ha 18 (.bool ((rdL (0 : Int) ([t5079.f0, t5079.f1, t5079.f2, t5079.f3, t5079.f4, t5079.f5, t5079.f6] : List Int) x5227) != a0.f0)) KR KR ?_; clear ha a; intro a ha
          refine stepp ha 19 (.bool ((rdL (0 : Int) ([t5079.f0, t5079.f1, t5079.f2, t5079.f3, t5079.f4, t5079.f5, t5079.f6] : List Int) x5227) != a0.f0)) KR KR ?_; clear ha a; intro a ha
          by_cases hp5245 : (rdL (0 : Int) ([t5079.f0, t5079.f1, t5079.f2, t5079.f3, t5079.f4, t5079.f5, t5079.f6] : List Int) x5227) = a0.f0
          · skip
            replace h := ite_pos' h hp5245
            replace ha := ha.bool 19 KR (ineq_f hp5245)
            refine stepp ha 20 (.int .i64 (rdL (0 : Int) ([t5079.f0, t5079.f1, t5079.f2, t5079.f3, t5079.f4, t5079.f5, t5079.f6] : List Int) x5227)) KR KR ?_; clear ha a; intro a ha
            refine stepp ha 21 (.bool ((rdL (0 : Int) ([t5079.f0, t5079.f1, t5079.f2, t5079.f3, t5079.f4, t5079.f5, t5079.f6] : List Int) x5227) == 0)) KR KR ?_; clear ha a; intro a ha
            refine stepp ha 22 (.bool ((rdL (0 : Int) ([t5079.f0, t5079.f1, t5079.f2, t5079.f3, t5079.f4, t5079.f5, t5079.f6] : List Int) x5227) == 0)) KR KR ?_; clear ha a; intro a ha
            refine stepp ha 23 (.bool ((rdL (0 : Int) ([t5079.f0, t5079.f1, t5079.f2, t5079.f3, t5079.f4, t5079.f5, t5079.f6] : List Int) x5227) == 0)) KR KR ?_; clear ha a; intro a ha
            by_cases hp5246 : (rdL (0 : Int) ([t5079.f0, t5079.f1, t5079.f2, t5079.f3, t5079.f4, t5079.f5, t5079.f6] : List Int) x5227) = 0
            · skip
              replace h := ite_pos' h hp5246
              replace ha := ha.bool 23 KR (ieq_t hp5246)
              refine stepo ha 24 KR ?_; clear ha a; intro a ha
              refine stepo ha 25 KR ?_; clear ha a; intro a ha
              refine stepo ha 26 KR ?_; clear ha a; intro a ha
              refine stepo ha 27 KR ?_; clear ha a; intro a ha
              refine stepo ha 28 KR ?_; clear ha a; intro a ha
              refine stepo ha 29 KR ?_; clear ha a; intro a ha
              refine stepo ha 30 KR ?_; clear ha a; intro a ha
              refine stepo ha 31 KR ?_; clear ha a; intro a ha
              refine stepo ha 32 KR ?_; clear ha a; intro a ha
              refine stepp ha 33 (.bool true) KR KR ?_; clear ha a; intro a ha
              refine endl ?_
              refine thenN (hK5244 _ _ ?_); clear hK5244
              refine condT ha KR KR (t := true) (rfl) ?_
              refine wp_exit ?_
              refine thenE ?_
              refine inBlk ?_
              refine thenN (hK5237 _ _ ?_); clear hK5237
              refine wp_region_lit ?_
              refine stepp ha 68 (.int .i64 (IntKind.wrap .i64 (x5227 + 1))) KR KR ?_; clear ha a; intro a ha
              refine stepp ha 11 (.int .i64 (IntKind.wrap .i64 (x5227 + 1))) KR KR ?_; clear ha a; intro a ha
              refine endl ?_
              exact thenN ⟨k5229, Nat.lt_succ_self k5229, IntKind.wrap .i64 (x5227 + 1), (by rw [← hag5230]; exact h), ha.sub (subs_cons KR (subs_cons KR (subs_cons KR (subs_nil _)))), HW.pick [0] [] (by decide) (by decide) KR KR⟩
            · skip
              replace h := ite_neg' h hp5246
              replace ha := ha.bool 23 KR (ieq_f hp5246)
              refine stepp ha 24 (.int .i64 (rdL (0 : Int) ([t5079.f0, t5079.f1, t5079.f2, t5079.f3, t5079.f4, t5079.f5, t5079.f6] : List Int) x5227)) KR KR ?_; clear ha a; intro a ha
              refine stepp ha 25 (.bool ((rdL (0 : Int) ([t5079.f0, t5079.f1, t5079.f2, t5079.f3, t5079.f4, t5079.f5, t5079.f6] : List Int) x5227) == 8)) KR KR ?_; clear ha a; intro a ha
              refine stepp ha 26 (.bool ((rdL (0 : Int) ([t5079.f0, t5079.f1, t5079.f2, t5079.f3, t5079.f4, t5079.f5, t5079.f6] : List Int) x5227) == 8)) KR KR ?_; clear ha a; intro a ha
              by_cases hp5247 : (rdL (0 : Int) ([t5079.f0, t5079.f1, t5079.f2, t5079.f3, t5079.f4, t5079.f5, t5079.f6] : List Int) x5227) = 8
              · skip
                replace h := ite_pos' h hp5247
                replace ha := ha.bool 26 KR (ieq_t hp5247)
                refine stepp ha 27 (.int .i64 x5227) KR KR ?_; clear ha a; intro a ha
                refine stepp ha 28 (.bool (x5227 == 6)) KR KR ?_; clear ha a; intro a ha
                refine stepp ha 29 (.pointer (some ⟨b5073, 12, none⟩)) KR KR ?_; clear ha a; intro a ha
                refine stepl ha 30 (HW.ca (i := 0) (b := b5073) (C := #[.int .i64 a0.f0, .int .i64 a0.f1, .string a0.f2, .int .i64 a0.f3, .int .i64 a0.f4, .string a0.f5, .bool a0.f6, .slice A0_0 a0.f7.length c0_0, .int .u64 a0.f8, .int .u64 a0.f9, .int .u64 a0.f10, .int .i64 a0.f11, .bool a0.f12, .int .i64 a0.f13]) (T := 49) (fr := (0, 0)) KR) 4 12 (.tmp 29) (.bool a0.f12) rfl KR KR KR ?_; clear ha a; intro a ha
                refine stepp ha 31 (.bool ((x5227 == 6) != a0.f12)) KR KR ?_; clear ha a; intro a ha
                refine stepp ha 32 (.bool ((x5227 == 6) != a0.f12)) KR KR ?_; clear ha a; intro a ha
                refine stepp ha 33 (.bool ((x5227 == 6) != a0.f12)) KR KR ?_; clear ha a; intro a ha
                refine endl ?_
                refine thenN (hK5244 _ _ ?_); clear hK5244
                by_cases hp5248 : (x5227 == 6) = a0.f12
                · skip
                  replace h := ite_pos' h hp5248
                  refine condF ha KR KR (t := ((x5227 == 6) != a0.f12)) (bne_f hp5248) ?_
                  refine wp_skip ?_
                  exact thenN ⟨true, ((x5227 == 6) != a0.f12), h, ha.sub (subs_cons KR (subs_cons KR (subs_cons KR (subs_cons KR (subs_cons KR (subs_cons KR (subs_cons KR (subs_cons KR (subs_cons KR (subs_cons KR (subs_nil _))))))))))), HW.pick [0] [] (by decide) (by decide) KR KR⟩
                · skip
                  replace h := ite_neg' h hp5248
                  refine condT ha KR KR (t := ((x5227 == 6) != a0.f12)) (bne_t hp5248) ?_
                  refine wp_exit ?_
                  refine thenE ?_
                  refine inBlk ?_
                  refine thenN (hK5237 _ _ ?_); clear hK5237
                  refine wp_region_lit ?_
                  refine stepp ha 68 (.int .i64 (IntKind.wrap .i64 (x5227 + 1))) KR KR ?_; clear ha a; intro a ha
                  refine stepp ha 11 (.int .i64 (IntKind.wrap .i64 (x5227 + 1))) KR KR ?_; clear ha a; intro a ha
                  refine endl ?_
                  exact thenN ⟨k5229, Nat.lt_succ_self k5229, IntKind.wrap .i64 (x5227 + 1), (by rw [← hag5230]; exact h), ha.sub (subs_cons KR (subs_cons KR (subs_cons KR (subs_nil _)))), HW.pick [0] [] (by decide) (by decide) KR KR⟩
              · skip
                replace h := ite_neg' h hp5247
                replace ha := ha.bool 26 KR (ieq_f hp5247)
                refine stepo ha 27 KR ?_; clear ha a; intro a ha
                refine stepo ha 28 KR ?_; clear ha a; intro a ha
                refine stepo ha 29 KR ?_; clear ha a; intro a ha
                refine stepo ha 30 KR ?_; clear ha a; intro a ha
                refine stepo ha 31 KR ?_; clear ha a; intro a ha
                refine stepp ha 32 (.bool false) KR KR ?_; clear ha a; intro a ha
                refine stepp ha 33 (.bool false) KR KR ?_; clear ha a; intro a ha
                refine endl ?_
                refine thenN (hK5244 _ _ ?_); clear hK5244
                refine condF ha KR KR (t := false) (rfl) ?_
                refine wp_skip ?_
                exact thenN ⟨false, false, h, ha.sub (subs_cons KR (subs_cons KR (subs_cons KR (subs_cons KR (subs_cons KR (subs_cons KR (subs_cons KR (subs_cons KR (subs_cons KR (subs_cons KR (subs_nil _))))))))))), HW.pick [0] [] (by decide) (by decide) KR KR⟩
          · skip
            replace h := ite_neg' h hp5245
            replace ha := ha.bool 19 KR (ineq_t hp5245)
            refine stepo ha 20 KR ?_; clear ha a; intro a ha
            refine stepo ha 21 KR ?_; clear ha a; intro a ha
            refine stepp ha 22 (.bool true) KR KR ?_; clear ha a; intro a ha
            refine stepp ha 23 (.bool true) KR KR ?_; clear ha a; intro a ha
            refine stepo ha 24 KR ?_; clear ha a; intro a ha
            refine stepo ha 25 KR ?_; clear ha a; intro a ha
            refine stepo ha 26 KR ?_; clear ha a; intro a ha
            refine stepo ha 27 KR ?_; clear ha a; intro a ha
            refine stepo ha 28 KR ?_; clear ha a; intro a ha
            refine stepo ha 29 KR ?_; clear ha a; intro a ha
            refine stepo ha 30 KR ?_; clear ha a; intro a ha
            refine stepo ha 31 KR ?_; clear ha a; intro a ha
            refine stepo ha 32 KR ?_; clear ha a; intro a ha
            refine stepp ha 33 (.bool true) KR KR ?_; clear ha a; intro a ha
            refine endl ?_
            refine thenN (hK5244 _ _ ?_); clear hK5244
            refine condT ha KR KR (t := true) (rfl) ?_
            refine wp_exit ?_
            refine thenE ?_
            refine inBlk ?_
            refine thenN (hK5237 _ _ ?_); clear hK5237
            refine wp_region_lit ?_
            refine stepp ha 68 (.int .i64 (IntKind.wrap .i64 (x5227 + 1))) KR KR ?_; clear ha a; intro a ha
            refine stepp ha 11 (.int .i64 (IntKind.wrap .i64 (x5227 + 1))) KR KR ?_; clear ha a; intro a ha
            refine endl ?_
            exact thenN ⟨k5229, Nat.lt_succ_self k5229, IntKind.wrap .i64 (x5227 + 1), (by rw [← hag5230]; exact h), ha.sub (subs_cons KR (subs_cons KR (subs_cons KR (subs_nil _)))), HW.pick [0] [] (by decide) (by decide) KR KR⟩
        · skip
          intro a W5251 hJ
          obtain ⟨x5249, x5250, h, ha, HW⟩ := hJ
          replace h : prout_List.j0 K a0 again5226 x5227 x5249 x5250 = some r := h
          unfold prout_List.j0 at h
          refine hK5242 _ _ ?_; clear hK5242
          refine wp_seq_k (fun K5252 hK5253 => ?_)
          obtain ⟨t5254, ht5255, h_⟩ := bind_some' h; clear h; have h := h_; clear h_
          obtain ⟨t5258, ht5259, h_⟩ := bind_some' h; clear h; have h := h_; clear h_
          obtain ⟨hA5262, h_⟩ := asrt_some h; clear h; have h := h_; clear h_
          refine regionG 10 KR KR ha HW [.fix (.pointer (some ⟨b5073, 8, none⟩)), .fix (.int .u64 a0.f8), .fix (.string t5254), .fix (.pointer (some ⟨b5073, 9, none⟩)), .fix (.int .u64 a0.f9), .fix (.pointer (some ⟨b5073, 10, none⟩)), .fix (.int .u64 a0.f10), .fix (.int .u64 (bor .u64 a0.f9 a0.f10)), .fix (.string t5258), .fix (.string (t5254 ++ t5258))] ?_ ?_
          · skip
            refine ⟨?_, ?_, ?_, ?_, ?_, ?_, ?_, ?_, ?_, ?_, trivial⟩
            · skip
              intro a wr hn hd HW hs; have ha := hasNil hn hd
              have ha := ha.add (seeE hs 1 (.pointer (some ⟨b5073, 0, none⟩)) KR KR)
              refine yStep ha 34 KR ?_; intro l_ ha HK
              refine stepp ha 34 (.pointer (some ⟨b5073, 8, none⟩)) KR KR ?_; intro ax hax; exact HK _ _ _ hax rfl (Below.refl _ _)
            · skip
              intro a wr hn hd HW hs; have ha := hasNil hn hd
              have ha := ha.add (seeF hs 34 0 (.pointer (some ⟨b5073, 8, none⟩)) KR KR)
              refine yStep ha 35 KR ?_; intro l_ ha HK
              refine stepl ha 35 (HW.ca (i := 0) (b := b5073) (C := #[.int .i64 a0.f0, .int .i64 a0.f1, .string a0.f2, .int .i64 a0.f3, .int .i64 a0.f4, .string a0.f5, .bool a0.f6, .slice A0_0 a0.f7.length c0_0, .int .u64 a0.f8, .int .u64 a0.f9, .int .u64 a0.f10, .int .i64 a0.f11, .bool a0.f12, .int .i64 a0.f13]) (T := 49) (fr := (0, 0)) KR) 42 8 (.tmp 34) (.int .u64 a0.f8) rfl KR KR KR ?_; intro ax hax; exact HK _ _ _ hax rfl (Below.refl _ _)
            · skip
              intro a wr hn hd HW hs; have ha := hasNil hn hd
              have ha := ha.add (seeF hs 35 1 (.int .u64 a0.f8) KR KR)
              refine yStep ha 36 KR ?_; intro l_ ha HK
              refine stepc ha 36 KR KR (prout_key.calls K a0.f8 t5254 _ ht5255) ?_; rintro e W5256 ⟨rfl, HX5257⟩
              refine ⟨_, rfl, ?_⟩; intro ax hax; exact HK _ _ _ hax rfl HX5257.below
            · skip
              intro a wr hn hd HW hs; have ha := hasNil hn hd
              have ha := ha.add (seeE hs 1 (.pointer (some ⟨b5073, 0, none⟩)) KR KR)
              refine yStep ha 37 KR ?_; intro l_ ha HK
              refine stepp ha 37 (.pointer (some ⟨b5073, 9, none⟩)) KR KR ?_; intro ax hax; exact HK _ _ _ hax rfl (Below.refl _ _)
            · skip
              intro a wr hn hd HW hs; have ha := hasNil hn hd
              have ha := ha.add (seeF hs 37 3 (.pointer (some ⟨b5073, 9, none⟩)) KR KR)
              refine yStep ha 38 KR ?_; intro l_ ha HK
              refine stepl ha 38 (HW.ca (i := 0) (b := b5073) (C := #[.int .i64 a0.f0, .int .i64 a0.f1, .string a0.f2, .int .i64 a0.f3, .int .i64 a0.f4, .string a0.f5, .bool a0.f6, .slice A0_0 a0.f7.length c0_0, .int .u64 a0.f8, .int .u64 a0.f9, .int .u64 a0.f10, .int .i64 a0.f11, .bool a0.f12, .int .i64 a0.f13]) (T := 49) (fr := (0, 0)) KR) 42 9 (.tmp 37) (.int .u64 a0.f9) rfl KR KR KR ?_; intro ax hax; exact HK _ _ _ hax rfl (Below.refl _ _)
            · skip
              intro a wr hn hd HW hs; have ha := hasNil hn hd
              have ha := ha.add (seeE hs 1 (.pointer (some ⟨b5073, 0, none⟩)) KR KR)
              refine yStep ha 39 KR ?_; intro l_ ha HK
              refine stepp ha 39 (.pointer (some ⟨b5073, 10, none⟩)) KR KR ?_; intro ax hax; exact HK _ _ _ hax rfl (Below.refl _ _)
            · skip
              intro a wr hn hd HW hs; have ha := hasNil hn hd
              have ha := ha.add (seeF hs 39 5 (.pointer (some ⟨b5073, 10, none⟩)) KR KR)
              refine yStep ha 40 KR ?_; intro l_ ha HK
              refine stepl ha 40 (HW.ca (i := 0) (b := b5073) (C := #[.int .i64 a0.f0, .int .i64 a0.f1, .string a0.f2, .int .i64 a0.f3, .int .i64 a0.f4, .string a0.f5, .bool a0.f6, .slice A0_0 a0.f7.length c0_0, .int .u64 a0.f8, .int .u64 a0.f9, .int .u64 a0.f10, .int .i64 a0.f11, .bool a0.f12, .int .i64 a0.f13]) (T := 49) (fr := (0, 0)) KR) 42 10 (.tmp 39) (.int .u64 a0.f10) rfl KR KR KR ?_; intro ax hax; exact HK _ _ _ hax rfl (Below.refl _ _)
            · skip
              intro a wr hn hd HW hs; have ha := hasNil hn hd
              have ha := ha.add (seeF hs 38 4 (.int .u64 a0.f9) KR KR)
              have ha := ha.add (seeF hs 40 6 (.int .u64 a0.f10) KR KR)
              refine yStep ha 41 KR ?_; intro l_ ha HK
              refine stepp ha 41 (.int .u64 (bor .u64 a0.f9 a0.f10)) KR KR ?_; intro ax hax; exact HK _ _ _ hax rfl (Below.refl _ _)
            · skip
              intro a wr hn hd HW hs; have ha := hasNil hn hd
              have ha := ha.add (seeF hs 41 7 (.int .u64 (bor .u64 a0.f9 a0.f10)) KR KR)
              refine yStep ha 42 KR ?_; intro l_ ha HK
              refine stepc ha 42 KR KR (prout_key.calls K (bor .u64 a0.f9 a0.f10) t5258 _ ht5259) ?_; rintro e W5260 ⟨rfl, HX5261⟩
              refine ⟨_, rfl, ?_⟩; intro ax hax; exact HK _ _ _ hax rfl HX5261.below
            · skip
              intro a wr hn hd HW hs; have ha := hasNil hn hd
              have ha := ha.add (seeF hs 36 2 (.string t5254) KR KR)
              have ha := ha.add (seeF hs 42 8 (.string t5258) KR KR)
              refine yStep ha 43 KR ?_; intro l_ ha HK
              refine stepsa ha 43 9 9 (.tmp 36) (.tmp 42) t5254 t5258 rfl KR KR (show (t5254).size + (t5258).size ≤ 9223372036854775807 from hA5262) KR ?_; intro ax hax; exact HK _ _ _ hax rfl (Below.refl _ _)
          · skip
            intro a W5263 ha HW he hf
            replace ha := ha.add (he 1 (.pointer (some ⟨b5073, 0, none⟩)) KR KR)
            replace ha := ha.add (he 5 (.int .i64 x5227) KR KR)
            replace ha := ha.add (he 10 (.agg #[.int .i64 t5079.f0, .int .i64 t5079.f1, .int .i64 t5079.f2, .int .i64 t5079.f3, .int .i64 t5079.f4, .int .i64 t5079.f5, .int .i64 t5079.f6]) KR KR)
            replace ha := ha.add (he 11 (.int .i64 x5227) KR KR)
            replace ha := ha.add (he 20 (.int .i64 (rdL (0 : Int) ([t5079.f0, t5079.f1, t5079.f2, t5079.f3, t5079.f4, t5079.f5, t5079.f6] : List Int) x5227)) KR KR)
            replace ha := ha.add (he 21 (.bool ((rdL (0 : Int) ([t5079.f0, t5079.f1, t5079.f2, t5079.f3, t5079.f4, t5079.f5, t5079.f6] : List Int) x5227) == 0)) KR KR)
            replace ha := ha.add (he 24 (.int .i64 (rdL (0 : Int) ([t5079.f0, t5079.f1, t5079.f2, t5079.f3, t5079.f4, t5079.f5, t5079.f6] : List Int) x5227)) KR KR)
            replace ha := ha.add (he 25 (.bool ((rdL (0 : Int) ([t5079.f0, t5079.f1, t5079.f2, t5079.f3, t5079.f4, t5079.f5, t5079.f6] : List Int) x5227) == 8)) KR KR)
            replace ha := ha.add (he 26 (.bool x5249) KR KR)
            replace ha := ha.add (he 32 (.bool x5250) KR KR)
            replace ha := ha.add (gotF (m := 10) (j := 9) (d := 43) (v := .string (t5254 ++ t5258)) hf KR KR KR)
            clear he hf
            refine stepp ha 3 (.string (t5254 ++ t5258)) KR KR ?_; clear ha a; intro a ha
            refine endl ?_
            refine thenN (hK5253 _ _ ?_); clear hK5253
            refine wp_seq_k (fun K5264 hK5265 => ?_)
            refine wp_region_lit ?_
            refine stepp ha 7 (.int .u64 0) KR KR ?_; clear ha a; intro a ha
            refine endl ?_
            refine thenN (hK5265 _ _ ?_); clear hK5265
            refine wp_seq_k (fun K5266 hK5267 => ?_)
            refine cutn (fun a W5272 => ∃ (x5271 : Int), prout_List.j1 K a0 again5226 x5227 t5254 t5258 x5271 = some r ∧ Has 69 [(1, .pointer (some ⟨b5073, 0, none⟩)), (3, .string (t5254 ++ t5258)), (5, .int .i64 x5227), (7, .int .u64 x5271), (10, .agg #[.int .i64 t5079.f0, .int .i64 t5079.f1, .int .i64 t5079.f2, .int .i64 t5079.f3, .int .i64 t5079.f4, .int .i64 t5079.f5, .int .i64 t5079.f6]), (11, .int .i64 x5227), (20, .int .i64 (rdL (0 : Int) ([t5079.f0, t5079.f1, t5079.f2, t5079.f3, t5079.f4, t5079.f5, t5079.f6] : List Int) x5227)), (21, .bool ((rdL (0 : Int) ([t5079.f0, t5079.f1, t5079.f2, t5079.f3, t5079.f4, t5079.f5, t5079.f6] : List Int) x5227) == 0)), (24, .int .i64 (rdL (0 : Int) ([t5079.f0, t5079.f1, t5079.f2, t5079.f3, t5079.f4, t5079.f5, t5079.f6] : List Int) x5227)), (25, .bool ((rdL (0 : Int) ([t5079.f0, t5079.f1, t5079.f2, t5079.f3, t5079.f4, t5079.f5, t5079.f6] : List Int) x5227) == 8)), (26, .bool x5249), (32, .bool x5250)] a ∧ Wd w W5272 [(b5073, .cells #[.int .i64 a0.f0, .int .i64 a0.f1, .string a0.f2, .int .i64 a0.f3, .int .i64 a0.f4, .string a0.f5, .bool a0.f6, .slice A0_0 a0.f7.length c0_0, .int .u64 a0.f8, .int .u64 a0.f9, .int .u64 a0.f10, .int .i64 a0.f11, .bool a0.f12, .int .i64 a0.f13] 49 (0, 0))] []) ?_ ?_
            · skip
              refine wp_seq_k (fun K5268 hK5269 => ?_)
              refine wp_region_lit ?_
              refine stepp ha 44 (.pointer (some ⟨b5073, 13, none⟩)) KR KR ?_; clear ha a; intro a ha
              refine stepl ha 45 (HW.ca (i := 0) (b := b5073) (C := #[.int .i64 a0.f0, .int .i64 a0.f1, .string a0.f2, .int .i64 a0.f3, .int .i64 a0.f4, .string a0.f5, .bool a0.f6, .slice A0_0 a0.f7.length c0_0, .int .u64 a0.f8, .int .u64 a0.f9, .int .u64 a0.f10, .int .i64 a0.f11, .bool a0.f12, .int .i64 a0.f13]) (T := 49) (fr := (0, 0)) KR) 3 13 (.tmp 44) (.int .i64 a0.f13) rfl KR KR KR ?_; clear ha a; intro a ha
              refine stepp ha 46 (.bool (a0.f13 == 2)) KR KR ?_; clear ha a; intro a ha
              refine endl ?_
              refine thenN (hK5269 _ _ ?_); clear hK5269
              by_cases hp5270 : a0.f13 = 2
              · skip
                replace h := ite_pos' h hp5270
                refine condT ha KR KR (t := (a0.f13 == 2)) (ieq_t hp5270) ?_
                refine wp_region_lit ?_
                refine stepp ha 7 (.int .u64 16777216) KR KR ?_; clear ha a; intro a ha
                refine endl ?_
                exact thenN ⟨16777216, h, ha.sub (subs_cons KR (subs_cons KR (subs_cons KR (subs_cons KR (subs_cons KR (subs_cons KR (subs_cons KR (subs_cons KR (subs_cons KR (subs_cons KR (subs_cons KR (subs_cons KR (subs_nil _))))))))))))), HW.pick [0] [] (by decide) (by decide) KR KR⟩
              · skip
                replace h := ite_neg' h hp5270
                refine condF ha KR KR (t := (a0.f13 == 2)) (ieq_f hp5270) ?_
                refine wp_skip ?_
                exact thenN ⟨0, h, ha.sub (subs_cons KR (subs_cons KR (subs_cons KR (subs_cons KR (subs_cons KR (subs_cons KR (subs_cons KR (subs_cons KR (subs_cons KR (subs_cons KR (subs_cons KR (subs_cons KR (subs_nil _))))))))))))), HW.pick [0] [] (by decide) (by decide) KR KR⟩
            · skip
              intro a W5272 hJ
              obtain ⟨x5271, h, ha, HW⟩ := hJ
              replace h : prout_List.j1 K a0 again5226 x5227 t5254 t5258 x5271 = some r := h
              unfold prout_List.j1 at h
              refine hK5267 _ _ ?_; clear hK5267
              refine wp_seq_k (fun K5273 hK5274 => ?_)
              refine wp_region_lit ?_
              refine stepp ha 47 (.string (t5254 ++ t5258)) KR KR ?_; clear ha a; intro a ha
              refine stepp ha 48 (.int .u64 x5271) KR KR ?_; clear ha a; intro a ha
              obtain ⟨t5275, ht5276, h_⟩ := bind_some' h; clear h; have h := h_; clear h_
              refine stepc ha 49 KR KR (prout_key.calls K x5271 t5275 _ ht5276) ?_; clear ha a; rintro e W5277 ⟨rfl, HX5278⟩
              refine ⟨_, rfl, ?_⟩; intro a ha; replace HW := HW.callw HX5278; clear HX5278
              obtain ⟨hA5279, h_⟩ := asrt_some h; clear h; have h := h_; clear h_
              refine stepsa ha 50 9 9 (.tmp 47) (.tmp 49) (t5254 ++ t5258) t5275 rfl KR KR (show (t5254 ++ t5258).size + (t5275).size ≤ 9223372036854775807 from hA5279) KR ?_; clear ha a; intro a ha
              refine stepp ha 3 (.string ((t5254 ++ t5258) ++ t5275)) KR KR ?_; clear ha a; intro a ha
              refine endl ?_
              refine thenN (hK5274 _ _ ?_); clear hK5274
              refine wp_seq_k (fun K5280 hK5281 => ?_)
              refine wp_region_lit ?_
              refine stepp ha 52 (.int .i64 x5227) KR KR ?_; clear ha a; intro a ha
              refine stepp ha 53 (.pointer (some ⟨b5073, 11, none⟩)) KR KR ?_; clear ha a; intro a ha
              refine stepl ha 54 (HW.ca (i := 0) (b := b5073) (C := #[.int .i64 a0.f0, .int .i64 a0.f1, .string a0.f2, .int .i64 a0.f3, .int .i64 a0.f4, .string a0.f5, .bool a0.f6, .slice A0_0 a0.f7.length c0_0, .int .u64 a0.f8, .int .u64 a0.f9, .int .u64 a0.f10, .int .i64 a0.f11, .bool a0.f12, .int .i64 a0.f13]) (T := 49) (fr := (0, 0)) KR) 3 11 (.tmp 53) (.int .i64 a0.f11) rfl KR KR KR ?_; clear ha a; intro a ha
              refine stepp ha 55 (.string ((t5254 ++ t5258) ++ t5275)) KR KR ?_; clear ha a; intro a ha
              obtain ⟨t5282, ht5283, h_⟩ := bind_some' h; clear h; have h := h_; clear h_
              refine stepc ha 56 KR KR (prout_Change.calls K x5227 a0.f11 ((t5254 ++ t5258) ++ t5275) t5282 _ ht5283) ?_; clear ha a; rintro e W5287 ⟨A5284, c5285, rfl, HX5288⟩
              refine ⟨_, rfl, ?_⟩; intro a ha; replace HW := HW.callw HX5288; clear HX5288
              refine stepp ha 51 (.tuple #[.agg #[.int .i64 t5282.1.f0, .int .i64 t5282.1.f1, .string t5282.1.f2, .int .i64 t5282.1.f3, .int .i64 t5282.1.f4, .string t5282.1.f5, .bool t5282.1.f6, .slice A5284 t5282.1.f7.length c5285, .int .u64 t5282.1.f8, .int .u64 t5282.1.f9, .int .u64 t5282.1.f10, .int .i64 t5282.1.f11, .bool t5282.1.f12, .int .i64 t5282.1.f13], .int .i64 t5282.2]) KR KR ?_; clear ha a; intro a ha
              refine stepp ha 57 (.agg #[.int .i64 t5282.1.f0, .int .i64 t5282.1.f1, .string t5282.1.f2, .int .i64 t5282.1.f3, .int .i64 t5282.1.f4, .string t5282.1.f5, .bool t5282.1.f6, .slice A5284 t5282.1.f7.length c5285, .int .u64 t5282.1.f8, .int .u64 t5282.1.f9, .int .u64 t5282.1.f10, .int .i64 t5282.1.f11, .bool t5282.1.f12, .int .i64 t5282.1.f13]) KR KR ?_; clear ha a; intro a ha
              refine stepp ha 58 (.int .i64 t5282.2) KR KR ?_; clear ha a; intro a ha
              refine stepnew ha HW 8 #[.int .i64 0, .int .i64 0, .string (⟨#[]⟩ : ByteArray), .int .i64 0, .int .i64 0, .string (⟨#[]⟩ : ByteArray), .bool false, .slice none 0 0, .int .u64 0, .int .u64 0, .int .u64 0, .int .i64 0, .bool false, .int .i64 0] 49 KR KR ?_; clear ha HW a; intro b5289 a W5290 HW ha
              refine stepst ha HW 0 (b := b5289) (C := #[.int .i64 0, .int .i64 0, .string (⟨#[]⟩ : ByteArray), .int .i64 0, .int .i64 0, .string (⟨#[]⟩ : ByteArray), .bool false, .slice none 0 0, .int .u64 0, .int .u64 0, .int .u64 0, .int .i64 0, .bool false, .int .i64 0]) (T := 49) KR 49 0 (.tmp 8) (.tmp 57) (.agg #[.int .i64 t5282.1.f0, .int .i64 t5282.1.f1, .string t5282.1.f2, .int .i64 t5282.1.f3, .int .i64 t5282.1.f4, .string t5282.1.f5, .bool t5282.1.f6, .slice A5284 t5282.1.f7.length c5285, .int .u64 t5282.1.f8, .int .u64 t5282.1.f9, .int .u64 t5282.1.f10, .int .i64 t5282.1.f11, .bool t5282.1.f12, .int .i64 t5282.1.f13]) #[.int .i64 t5282.1.f0, .int .i64 t5282.1.f1, .string t5282.1.f2, .int .i64 t5282.1.f3, .int .i64 t5282.1.f4, .string t5282.1.f5, .bool t5282.1.f6, .slice A5284 t5282.1.f7.length c5285, .int .u64 t5282.1.f8, .int .u64 t5282.1.f9, .int .u64 t5282.1.f10, .int .i64 t5282.1.f11, .bool t5282.1.f12, .int .i64 t5282.1.f13] rfl KR KR KR KR KR KR KR ?_; clear ha HW a; intro a W5291 HW ha
              refine stepp ha 9 (.int .i64 t5282.2) KR KR ?_; clear ha a; intro a ha
              refine endl ?_
              refine thenN (hK5281 _ _ ?_); clear hK5281
              refine wp_seq_k (fun K5292 hK5293 => ?_)
              refine wp_region_lit ?_
              refine stepp ha 59 (.int .i64 t5282.2) KR KR ?_; clear ha a; intro a ha
              refine stepp ha 60 (.bool (t5282.2 == 0)) KR KR ?_; clear ha a; intro a ha
              refine stepp ha 61 (.bool (t5282.2 == 0)) KR KR ?_; clear ha a; intro a ha
              by_cases hp5294 : t5282.2 = 0
              · skip
                replace h := ite_pos' h hp5294
                replace ha := ha.bool 61 KR (ieq_t hp5294)
                refine stepl ha 62 (HW.ca (i := 0) (b := b5289) (C := #[.int .i64 t5282.1.f0, .int .i64 t5282.1.f1, .string t5282.1.f2, .int .i64 t5282.1.f3, .int .i64 t5282.1.f4, .string t5282.1.f5, .bool t5282.1.f6, .slice A5284 t5282.1.f7.length c5285, .int .u64 t5282.1.f8, .int .u64 t5282.1.f9, .int .u64 t5282.1.f10, .int .i64 t5282.1.f11, .bool t5282.1.f12, .int .i64 t5282.1.f13]) (T := 49) (fr := (0, 0)) KR) 49 0 (.tmp 8) (.agg #[.int .i64 t5282.1.f0, .int .i64 t5282.1.f1, .string t5282.1.f2, .int .i64 t5282.1.f3, .int .i64 t5282.1.f4, .string t5282.1.f5, .bool t5282.1.f6, .slice A5284 t5282.1.f7.length c5285, .int .u64 t5282.1.f8, .int .u64 t5282.1.f9, .int .u64 t5282.1.f10, .int .i64 t5282.1.f11, .bool t5282.1.f12, .int .i64 t5282.1.f13]) rfl KR KR KR ?_; clear ha a; intro a ha
                refine stepl ha 63 (HW.ca (i := 1) (b := b5073) (C := #[.int .i64 a0.f0, .int .i64 a0.f1, .string a0.f2, .int .i64 a0.f3, .int .i64 a0.f4, .string a0.f5, .bool a0.f6, .slice A0_0 a0.f7.length c0_0, .int .u64 a0.f8, .int .u64 a0.f9, .int .u64 a0.f10, .int .i64 a0.f11, .bool a0.f12, .int .i64 a0.f13]) (T := 49) (fr := (0, 0)) KR) 49 0 (.tmp 1) (.agg #[.int .i64 a0.f0, .int .i64 a0.f1, .string a0.f2, .int .i64 a0.f3, .int .i64 a0.f4, .string a0.f5, .bool a0.f6, .slice A0_0 a0.f7.length c0_0, .int .u64 a0.f8, .int .u64 a0.f9, .int .u64 a0.f10, .int .i64 a0.f11, .bool a0.f12, .int .i64 a0.f13]) rfl KR KR KR ?_; clear ha a; intro a ha
                obtain ⟨t5295, ht5296, h_⟩ := bind_some' h; clear h; have h := h_; clear h_
                refine stepc ha 64 KR KR (prout_same.calls (⟨t5282.1.f0, t5282.1.f1, t5282.1.f2, t5282.1.f3, t5282.1.f4, t5282.1.f5, t5282.1.f6, t5282.1.f7, t5282.1.f8, t5282.1.f9, t5282.1.f10, t5282.1.f11, t5282.1.f12, t5282.1.f13⟩ : T_api_Cmd) a0 A5284 c5285 A0_0 c0_0 t5295 _ (HW.rdo (i := 0) (q := ⟨128, 2, .slice A5284 t5282.1.f7.length c5285, t5282.1.f7.length, encs T_api_Range.enc t5282.1.f7⟩) KR) ((HW.rd0 hr0_0)) ht5296) ?_; clear ha a; rintro e W5297 ⟨rfl, HX5298⟩
                refine ⟨_, rfl, ?_⟩; intro a ha; replace HW := HW.callw HX5298; clear HX5298
                refine stepp ha 65 (.bool t5295) KR KR ?_; clear ha a; intro a ha
                refine endl ?_
                refine thenN (hK5293 _ _ ?_); clear hK5293
                by_cases hp5299 : t5295 = true
                · skip
                  replace h := ite_pos' h hp5299
                  refine condT ha KR KR (t := t5295) (hp5299) ?_
                  refine wp_seq_k (fun K5300 hK5301 => ?_)
                  refine wp_region_lit ?_
                  refine stepp ha 66 (.int .i64 x5227) KR KR ?_; clear ha a; intro a ha
                  refine stepp ha 67 (.string ((t5254 ++ t5258) ++ t5275)) KR KR ?_; clear ha a; intro a ha
                  refine stepp ha 2 (.int .i64 x5227) KR KR ?_; clear ha a; intro a ha
                  refine stepp ha 3 (.string ((t5254 ++ t5258) ++ t5275)) KR KR ?_; clear ha a; intro a ha
                  refine stepp ha 4 (.int .i64 0) KR KR ?_; clear ha a; intro a ha
                  refine endl ?_
                  refine thenN (hK5301 _ _ ?_); clear hK5301
                  refine wp_ret ?_
                  refine blkR ?_
                  refine thenR ?_
                  refine thenR ?_
                  refine blkR ?_
                  refine thenR ?_
                  obtain rfl := Option.some.inj h
                  exact finv ha _ _ rfl (.tmp (v := .int .i64 x5227) KR (.tmp (v := .string ((t5254 ++ t5258) ++ t5275)) KR (.tmp (v := .int .i64 0) KR .nil))) (.tuple #[.int .i64 x5227, .string ((t5254 ++ t5258) ++ t5275), .int .i64 0]) rfl ⟨rfl, HW.pick [] [] (by decide) (by decide) rfl KR⟩
                · skip
                  replace h := ite_neg' h hp5299
                  refine condF ha KR KR (t := t5295) (bool_f hp5299) ?_
                  refine wp_skip ?_
                  refine blkN ?_
                  refine thenN (hK5237 _ _ ?_); clear hK5237
                  refine wp_region_lit ?_
                  refine stepp ha 68 (.int .i64 (IntKind.wrap .i64 (x5227 + 1))) KR KR ?_; clear ha a; intro a ha
                  refine stepp ha 11 (.int .i64 (IntKind.wrap .i64 (x5227 + 1))) KR KR ?_; clear ha a; intro a ha
                  refine endl ?_
                  exact thenN ⟨k5229, Nat.lt_succ_self k5229, IntKind.wrap .i64 (x5227 + 1), (by rw [← hag5230]; exact h), ha.sub (subs_cons KR (subs_cons KR (subs_cons KR (subs_nil _)))), HW.pick [1] [] (by decide) (by decide) KR KR⟩
              · skip
                replace h := ite_neg' h hp5294
                replace ha := ha.bool 61 KR (ieq_f hp5294)
                refine stepo ha 62 KR ?_; clear ha a; intro a ha
                refine stepo ha 63 KR ?_; clear ha a; intro a ha
                refine stepo ha 64 KR ?_; clear ha a; intro a ha
                refine stepp ha 65 (.bool false) KR KR ?_; clear ha a; intro a ha
                refine endl ?_
                refine thenN (hK5293 _ _ ?_); clear hK5293
                refine condF ha KR KR (t := false) (rfl) ?_
                refine wp_skip ?_
                refine blkN ?_
                refine thenN (hK5237 _ _ ?_); clear hK5237
                refine wp_region_lit ?_
                refine stepp ha 68 (.int .i64 (IntKind.wrap .i64 (x5227 + 1))) KR KR ?_; clear ha a; intro a ha
                refine stepp ha 11 (.int .i64 (IntKind.wrap .i64 (x5227 + 1))) KR KR ?_; clear ha a; intro a ha
                refine endl ?_
                exact thenN ⟨k5229, Nat.lt_succ_self k5229, IntKind.wrap .i64 (x5227 + 1), (by rw [← hag5230]; exact h), ha.sub (subs_cons KR (subs_cons KR (subs_cons KR (subs_nil _)))), HW.pick [1] [] (by decide) (by decide) KR KR⟩
      · skip
        replace h := ite_neg' h hp5235
        refine condF ha KR KR (t := decide (x5227 < 7)) (decide_eq_false hp5235) ?_
        refine wp_exit ?_
        refine thenE ?_
        refine thenE ?_
        refine inBlk ?_
        refine thenN (hK5076 _ _ ?_); clear hK5076
        refine wp_seq_k (fun K5302 hK5303 => ?_)
        refine wp_region_lit ?_
        refine stepp ha 2 (.int .i64 0) KR KR ?_; clear ha a; intro a ha
        refine stepp ha 3 (.string (⟨#[]⟩ : ByteArray)) KR KR ?_; clear ha a; intro a ha
        refine stepp ha 4 (.int .i64 180) KR KR ?_; clear ha a; intro a ha
        refine endl ?_
        refine thenN (hK5303 _ _ ?_); clear hK5303
        refine wp_ret ?_
        obtain rfl := Option.some.inj h
        exact finv ha _ _ rfl (.tmp (v := .int .i64 0) KR (.tmp (v := .string (⟨#[]⟩ : ByteArray)) KR (.tmp (v := .int .i64 180) KR .nil))) (.tuple #[.int .i64 0, .string (⟨#[]⟩ : ByteArray), .int .i64 180]) rfl ⟨rfl, HW.pick [] [] (by decide) (by decide) rfl KR⟩
end Go.Proofs.YthjjbkgifelooaaDoor.F
