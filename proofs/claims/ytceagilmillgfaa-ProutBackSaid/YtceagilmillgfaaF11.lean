/- headgate/headgatekeep.Cmds: a plain function, and that the call comes to what it says. No condition. -/
import Derived.Test.YtceagilmillgfaaFT
import Derived.Test.YtceagilmillgfaaF19
namespace Go.Proofs.Ytceagilmillgfaa.F
open Go Go.RowKit Go.Proofs.Ytceagilmillgfaa.X
set_option linter.unusedVariables false
set_option linter.unusedSimpArgs false
/-! ### headgate/headgatekeep.Cmds: function 11 -/
def headgatekeep_Cmds.f (K : Nat) (a0 : T_api_Cmd) (a1 : T_api_Cmd) : Option Bool :=
  if a0.f0 = a1.f0 then (if a0.f1 = a1.f1 then (if a0.f2 = a1.f2 then (if a0.f3 = a1.f3 then (if a0.f4 = a1.f4 then (if a0.f5 = a1.f5 then (if a0.f6 = a1.f6 then ((headgatekeep_Ranges.f K a0.f7 a1.f7).bind fun t1432 => (if t1432 = true then (if a0.f8 = a1.f8 then (if a0.f9 = a1.f9 then (if a0.f10 = a1.f10 then (if a0.f11 = a1.f11 then (if a0.f12 = a1.f12 then (some (a0.f13 == a1.f13)) else (some false)) else (some false)) else (some false)) else (some false)) else (some false)) else (some false))) else (some false)) else (some false)) else (some false)) else (some false)) else (some false)) else (some false)) else (some false)
set_option maxRecDepth 100000 in
set_option maxHeartbeats 4000000 in
theorem headgatekeep_Cmds.calls (K : Nat) (a0 : T_api_Cmd) (a1 : T_api_Cmd) (A0_0 : Option Addr) (c0_0 : Nat) (A1_1 : Option Addr) (c1_1 : Nat) (r : Bool) (w : World) (hr0_0 : Rd 2 w (.slice A0_0 a0.f7.length c0_0) a0.f7.length (encs T_api_Range.enc a0.f7)) (hr1_1 : Rd 2 w (.slice A1_1 a1.f7.length c1_1) a1.f7.length (encs T_api_Range.enc a1.f7)) (h : headgatekeep_Cmds.f K a0 a1 = some r) :
    Calls Try.prog 11 #[.agg #[.int .i64 a0.f0, .int .i64 a0.f1, .string a0.f2, .int .i64 a0.f3, .int .i64 a0.f4, .string a0.f5, .bool a0.f6, .slice A0_0 a0.f7.length c0_0, .int .u64 a0.f8, .int .u64 a0.f9, .int .u64 a0.f10, .int .i64 a0.f11, .bool a0.f12, .int .i64 a0.f13], .agg #[.int .i64 a1.f0, .int .i64 a1.f1, .string a1.f2, .int .i64 a1.f3, .int .i64 a1.f4, .string a1.f5, .bool a1.f6, .slice A1_1 a1.f7.length c1_1, .int .u64 a1.f8, .int .u64 a1.f9, .int .u64 a1.f10, .int .i64 a1.f11, .bool a1.f12, .int .i64 a1.f13]] w (fun e W' => e = .returned (.bool r) ∧ Wd w W' [] [] ) := by
  refine sxstart (n := 101) (l := [(0, .agg #[.int .i64 a0.f0, .int .i64 a0.f1, .string a0.f2, .int .i64 a0.f3, .int .i64 a0.f4, .string a0.f5, .bool a0.f6, .slice A0_0 a0.f7.length c0_0, .int .u64 a0.f8, .int .u64 a0.f9, .int .u64 a0.f10, .int .i64 a0.f11, .bool a0.f12, .int .i64 a0.f13]), (1, .agg #[.int .i64 a1.f0, .int .i64 a1.f1, .string a1.f2, .int .i64 a1.f3, .int .i64 a1.f4, .string a1.f5, .bool a1.f6, .slice A1_1 a1.f7.length c1_1, .int .u64 a1.f8, .int .u64 a1.f9, .int .u64 a1.f10, .int .i64 a1.f11, .bool a1.f12, .int .i64 a1.f13])]) Try.func11 rfl rfl (Nat.le_of_ble_eq_true (by kernel_rfl)) (subsA_cons rfl (subsA_cons rfl (subsA_nil _))) ?_
  intro a ha
  have HW := Wd.refl w
  unfold headgatekeep_Cmds.f at h
  refine wp_seq_k (fun K1417 hK1418 => ?_)
  refine wp_region_lit ?_
  refine stepnew ha HW 2 #[.int .i64 a0.f0, .int .i64 a0.f1, .string a0.f2, .int .i64 a0.f3, .int .i64 a0.f4, .string a0.f5, .bool a0.f6, .slice A0_0 a0.f7.length c0_0, .int .u64 a0.f8, .int .u64 a0.f9, .int .u64 a0.f10, .int .i64 a0.f11, .bool a0.f12, .int .i64 a0.f13] 26 (by kernel_rfl) (by kernel_rfl) ?_; clear ha HW a; intro b1419 a W1420 HW ha
  refine stepnew ha HW 3 #[.int .i64 a1.f0, .int .i64 a1.f1, .string a1.f2, .int .i64 a1.f3, .int .i64 a1.f4, .string a1.f5, .bool a1.f6, .slice A1_1 a1.f7.length c1_1, .int .u64 a1.f8, .int .u64 a1.f9, .int .u64 a1.f10, .int .i64 a1.f11, .bool a1.f12, .int .i64 a1.f13] 26 (by kernel_rfl) (by kernel_rfl) ?_; clear ha HW a; intro b1421 a W1422 HW ha
  refine stepp ha 4 (.bool false) (by kernel_rfl) (by kernel_rfl) ?_; clear ha a; intro a ha
  refine endl ?_
  refine thenN (hK1418 _ _ ?_); clear hK1418
  refine wp_seq_k (fun K1423 hK1424 => ?_)
  refine wp_region_lit ?_
  refine stepp ha 5 (.pointer (some ⟨b1419, 0, none⟩)) (by kernel_rfl) (by kernel_rfl) ?_; clear ha a; intro a ha
  refine stepl ha 6 (HW.ca (i := 1) (b := b1419) (C := #[.int .i64 a0.f0, .int .i64 a0.f1, .string a0.f2, .int .i64 a0.f3, .int .i64 a0.f4, .string a0.f5, .bool a0.f6, .slice A0_0 a0.f7.length c0_0, .int .u64 a0.f8, .int .u64 a0.f9, .int .u64 a0.f10, .int .i64 a0.f11, .bool a0.f12, .int .i64 a0.f13]) (T := 26) (fr := (0, 0)) (by kernel_rfl)) 3 0 (.tmp 5) (.int .i64 a0.f0) rfl (by kernel_rfl) (by kernel_rfl) (by kernel_rfl) ?_; clear ha a; intro a ha
  refine stepp ha 7 (.pointer (some ⟨b1421, 0, none⟩)) (by kernel_rfl) (by kernel_rfl) ?_; clear ha a; intro a ha
  refine stepl ha 8 (HW.ca (i := 0) (b := b1421) (C := #[.int .i64 a1.f0, .int .i64 a1.f1, .string a1.f2, .int .i64 a1.f3, .int .i64 a1.f4, .string a1.f5, .bool a1.f6, .slice A1_1 a1.f7.length c1_1, .int .u64 a1.f8, .int .u64 a1.f9, .int .u64 a1.f10, .int .i64 a1.f11, .bool a1.f12, .int .i64 a1.f13]) (T := 26) (fr := (0, 0)) (by kernel_rfl)) 3 0 (.tmp 7) (.int .i64 a1.f0) rfl (by kernel_rfl) (by kernel_rfl) (by kernel_rfl) ?_; clear ha a; intro a ha
  refine stepp ha 9 (.bool (a0.f0 == a1.f0)) (by kernel_rfl) (by kernel_rfl) ?_; clear ha a; intro a ha
  refine stepp ha 10 (.bool (a0.f0 == a1.f0)) (by kernel_rfl) (by kernel_rfl) ?_; clear ha a; intro a ha
  by_cases hp1425 : a0.f0 = a1.f0
  · skip
    replace h := ite_pos' h hp1425
    replace ha := ha.bool 10 (by kernel_rfl) (ieq_t hp1425)
    refine stepp ha 11 (.pointer (some ⟨b1419, 1, none⟩)) (by kernel_rfl) (by kernel_rfl) ?_; clear ha a; intro a ha
    refine stepl ha 12 (HW.ca (i := 1) (b := b1419) (C := #[.int .i64 a0.f0, .int .i64 a0.f1, .string a0.f2, .int .i64 a0.f3, .int .i64 a0.f4, .string a0.f5, .bool a0.f6, .slice A0_0 a0.f7.length c0_0, .int .u64 a0.f8, .int .u64 a0.f9, .int .u64 a0.f10, .int .i64 a0.f11, .bool a0.f12, .int .i64 a0.f13]) (T := 26) (fr := (0, 0)) (by kernel_rfl)) 3 1 (.tmp 11) (.int .i64 a0.f1) rfl (by kernel_rfl) (by kernel_rfl) (by kernel_rfl) ?_; clear ha a; intro a ha
    refine stepp ha 13 (.pointer (some ⟨b1421, 1, none⟩)) (by kernel_rfl) (by kernel_rfl) ?_; clear ha a; intro a ha
    refine stepl ha 14 (HW.ca (i := 0) (b := b1421) (C := #[.int .i64 a1.f0, .int .i64 a1.f1, .string a1.f2, .int .i64 a1.f3, .int .i64 a1.f4, .string a1.f5, .bool a1.f6, .slice A1_1 a1.f7.length c1_1, .int .u64 a1.f8, .int .u64 a1.f9, .int .u64 a1.f10, .int .i64 a1.f11, .bool a1.f12, .int .i64 a1.f13]) (T := 26) (fr := (0, 0)) (by kernel_rfl)) 3 1 (.tmp 13) (.int .i64 a1.f1) rfl (by kernel_rfl) (by kernel_rfl) (by kernel_rfl) ?_; clear ha a; intro a ha
    refine stepp ha 15 (.bool (a0.f1 == a1.f1)) (by kernel_rfl) (by kernel_rfl) ?_; clear ha a; intro a ha
    refine stepp ha 16 (.bool (a0.f1 == a1.f1)) (by kernel_rfl) (by kernel_rfl) ?_; clear ha a; intro a ha
    refine stepp ha 17 (.bool (a0.f1 == a1.f1)) (by kernel_rfl) (by kernel_rfl) ?_; clear ha a; intro a ha
    by_cases hp1426 : a0.f1 = a1.f1
    · skip
      replace h := ite_pos' h hp1426
      replace ha := ha.bool 17 (by kernel_rfl) (ieq_t hp1426)
      refine stepp ha 18 (.pointer (some ⟨b1419, 2, none⟩)) (by kernel_rfl) (by kernel_rfl) ?_; clear ha a; intro a ha
      refine stepl ha 19 (HW.ca (i := 1) (b := b1419) (C := #[.int .i64 a0.f0, .int .i64 a0.f1, .string a0.f2, .int .i64 a0.f3, .int .i64 a0.f4, .string a0.f5, .bool a0.f6, .slice A0_0 a0.f7.length c0_0, .int .u64 a0.f8, .int .u64 a0.f9, .int .u64 a0.f10, .int .i64 a0.f11, .bool a0.f12, .int .i64 a0.f13]) (T := 26) (fr := (0, 0)) (by kernel_rfl)) 9 2 (.tmp 18) (.string a0.f2) rfl (by kernel_rfl) (by kernel_rfl) (by kernel_rfl) ?_; clear ha a; intro a ha
      refine stepp ha 20 (.pointer (some ⟨b1421, 2, none⟩)) (by kernel_rfl) (by kernel_rfl) ?_; clear ha a; intro a ha
      refine stepl ha 21 (HW.ca (i := 0) (b := b1421) (C := #[.int .i64 a1.f0, .int .i64 a1.f1, .string a1.f2, .int .i64 a1.f3, .int .i64 a1.f4, .string a1.f5, .bool a1.f6, .slice A1_1 a1.f7.length c1_1, .int .u64 a1.f8, .int .u64 a1.f9, .int .u64 a1.f10, .int .i64 a1.f11, .bool a1.f12, .int .i64 a1.f13]) (T := 26) (fr := (0, 0)) (by kernel_rfl)) 9 2 (.tmp 20) (.string a1.f2) rfl (by kernel_rfl) (by kernel_rfl) (by kernel_rfl) ?_; clear ha a; intro a ha
      refine stepp ha 22 (.bool (a0.f2.toList == a1.f2.toList)) (by kernel_rfl) (by kernel_rfl) ?_; clear ha a; intro a ha
      refine stepp ha 23 (.bool (a0.f2.toList == a1.f2.toList)) (by kernel_rfl) (by kernel_rfl) ?_; clear ha a; intro a ha
      refine stepp ha 24 (.bool (a0.f2.toList == a1.f2.toList)) (by kernel_rfl) (by kernel_rfl) ?_; clear ha a; intro a ha
      by_cases hp1427 : a0.f2 = a1.f2
      · skip
        replace h := ite_pos' h hp1427
        replace ha := ha.bool 24 (by kernel_rfl) (str_eq_t hp1427)
        refine stepp ha 25 (.pointer (some ⟨b1419, 3, none⟩)) (by kernel_rfl) (by kernel_rfl) ?_; clear ha a; intro a ha
        refine stepl ha 26 (HW.ca (i := 1) (b := b1419) (C := #[.int .i64 a0.f0, .int .i64 a0.f1, .string a0.f2, .int .i64 a0.f3, .int .i64 a0.f4, .string a0.f5, .bool a0.f6, .slice A0_0 a0.f7.length c0_0, .int .u64 a0.f8, .int .u64 a0.f9, .int .u64 a0.f10, .int .i64 a0.f11, .bool a0.f12, .int .i64 a0.f13]) (T := 26) (fr := (0, 0)) (by kernel_rfl)) 3 3 (.tmp 25) (.int .i64 a0.f3) rfl (by kernel_rfl) (by kernel_rfl) (by kernel_rfl) ?_; clear ha a; intro a ha
        refine stepp ha 27 (.pointer (some ⟨b1421, 3, none⟩)) (by kernel_rfl) (by kernel_rfl) ?_; clear ha a; intro a ha
        refine stepl ha 28 (HW.ca (i := 0) (b := b1421) (C := #[.int .i64 a1.f0, .int .i64 a1.f1, .string a1.f2, .int .i64 a1.f3, .int .i64 a1.f4, .string a1.f5, .bool a1.f6, .slice A1_1 a1.f7.length c1_1, .int .u64 a1.f8, .int .u64 a1.f9, .int .u64 a1.f10, .int .i64 a1.f11, .bool a1.f12, .int .i64 a1.f13]) (T := 26) (fr := (0, 0)) (by kernel_rfl)) 3 3 (.tmp 27) (.int .i64 a1.f3) rfl (by kernel_rfl) (by kernel_rfl) (by kernel_rfl) ?_; clear ha a; intro a ha
        refine stepp ha 29 (.bool (a0.f3 == a1.f3)) (by kernel_rfl) (by kernel_rfl) ?_; clear ha a; intro a ha
        refine stepp ha 30 (.bool (a0.f3 == a1.f3)) (by kernel_rfl) (by kernel_rfl) ?_; clear ha a; intro a ha
        refine stepp ha 31 (.bool (a0.f3 == a1.f3)) (by kernel_rfl) (by kernel_rfl) ?_; clear ha a; intro a ha
        by_cases hp1428 : a0.f3 = a1.f3
        · skip
          replace h := ite_pos' h hp1428
          replace ha := ha.bool 31 (by kernel_rfl) (ieq_t hp1428)
          refine stepp ha 32 (.pointer (some ⟨b1419, 4, none⟩)) (by kernel_rfl) (by kernel_rfl) ?_; clear ha a; intro a ha
          refine stepl ha 33 (HW.ca (i := 1) (b := b1419) (C := #[.int .i64 a0.f0, .int .i64 a0.f1, .string a0.f2, .int .i64 a0.f3, .int .i64 a0.f4, .string a0.f5, .bool a0.f6, .slice A0_0 a0.f7.length c0_0, .int .u64 a0.f8, .int .u64 a0.f9, .int .u64 a0.f10, .int .i64 a0.f11, .bool a0.f12, .int .i64 a0.f13]) (T := 26) (fr := (0, 0)) (by kernel_rfl)) 3 4 (.tmp 32) (.int .i64 a0.f4) rfl (by kernel_rfl) (by kernel_rfl) (by kernel_rfl) ?_; clear ha a; intro a ha
          refine stepp ha 34 (.pointer (some ⟨b1421, 4, none⟩)) (by kernel_rfl) (by kernel_rfl) ?_; clear ha a; intro a ha
          refine stepl ha 35 (HW.ca (i := 0) (b := b1421) (C := #[.int .i64 a1.f0, .int .i64 a1.f1, .string a1.f2, .int .i64 a1.f3, .int .i64 a1.f4, .string a1.f5, .bool a1.f6, .slice A1_1 a1.f7.length c1_1, .int .u64 a1.f8, .int .u64 a1.f9, .int .u64 a1.f10, .int .i64 a1.f11, .bool a1.f12, .int .i64 a1.f13]) (T := 26) (fr := (0, 0)) (by kernel_rfl)) 3 4 (.tmp 34) (.int .i64 a1.f4) rfl (by kernel_rfl) (by kernel_rfl) (by kernel_rfl) ?_; clear ha a; intro a ha
          refine stepp ha 36 (.bool (a0.f4 == a1.f4)) (by kernel_rfl) (by kernel_rfl) ?_; clear ha a; intro a ha
          refine stepp ha 37 (.bool (a0.f4 == a1.f4)) (by kernel_rfl) (by kernel_rfl) ?_; clear ha a; intro a ha
          refine stepp ha 38 (.bool (a0.f4 == a1.f4)) (by kernel_rfl) (by kernel_rfl) ?_; clear ha a; intro a ha
          by_cases hp1429 : a0.f4 = a1.f4
          · skip
            replace h := ite_pos' h hp1429
            replace ha := ha.bool 38 (by kernel_rfl) (ieq_t hp1429)
            refine stepp ha 39 (.pointer (some ⟨b1419, 5, none⟩)) (by kernel_rfl) (by kernel_rfl) ?_; clear ha a; intro a ha
            refine stepl ha 40 (HW.ca (i := 1) (b := b1419) (C := #[.int .i64 a0.f0, .int .i64 a0.f1, .string a0.f2, .int .i64 a0.f3, .int .i64 a0.f4, .string a0.f5, .bool a0.f6, .slice A0_0 a0.f7.length c0_0, .int .u64 a0.f8, .int .u64 a0.f9, .int .u64 a0.f10, .int .i64 a0.f11, .bool a0.f12, .int .i64 a0.f13]) (T := 26) (fr := (0, 0)) (by kernel_rfl)) 9 5 (.tmp 39) (.string a0.f5) rfl (by kernel_rfl) (by kernel_rfl) (by kernel_rfl) ?_; clear ha a; intro a ha
            refine stepp ha 41 (.pointer (some ⟨b1421, 5, none⟩)) (by kernel_rfl) (by kernel_rfl) ?_; clear ha a; intro a ha
            refine stepl ha 42 (HW.ca (i := 0) (b := b1421) (C := #[.int .i64 a1.f0, .int .i64 a1.f1, .string a1.f2, .int .i64 a1.f3, .int .i64 a1.f4, .string a1.f5, .bool a1.f6, .slice A1_1 a1.f7.length c1_1, .int .u64 a1.f8, .int .u64 a1.f9, .int .u64 a1.f10, .int .i64 a1.f11, .bool a1.f12, .int .i64 a1.f13]) (T := 26) (fr := (0, 0)) (by kernel_rfl)) 9 5 (.tmp 41) (.string a1.f5) rfl (by kernel_rfl) (by kernel_rfl) (by kernel_rfl) ?_; clear ha a; intro a ha
            refine stepp ha 43 (.bool (a0.f5.toList == a1.f5.toList)) (by kernel_rfl) (by kernel_rfl) ?_; clear ha a; intro a ha
            refine stepp ha 44 (.bool (a0.f5.toList == a1.f5.toList)) (by kernel_rfl) (by kernel_rfl) ?_; clear ha a; intro a ha
            refine stepp ha 45 (.bool (a0.f5.toList == a1.f5.toList)) (by kernel_rfl) (by kernel_rfl) ?_; clear ha a; intro a ha
            by_cases hp1430 : a0.f5 = a1.f5
            · skip
              replace h := ite_pos' h hp1430
              replace ha := ha.bool 45 (by kernel_rfl) (str_eq_t hp1430)
              refine stepp ha 46 (.pointer (some ⟨b1419, 6, none⟩)) (by kernel_rfl) (by kernel_rfl) ?_; clear ha a; intro a ha
              refine stepl ha 47 (HW.ca (i := 1) (b := b1419) (C := #[.int .i64 a0.f0, .int .i64 a0.f1, .string a0.f2, .int .i64 a0.f3, .int .i64 a0.f4, .string a0.f5, .bool a0.f6, .slice A0_0 a0.f7.length c0_0, .int .u64 a0.f8, .int .u64 a0.f9, .int .u64 a0.f10, .int .i64 a0.f11, .bool a0.f12, .int .i64 a0.f13]) (T := 26) (fr := (0, 0)) (by kernel_rfl)) 4 6 (.tmp 46) (.bool a0.f6) rfl (by kernel_rfl) (by kernel_rfl) (by kernel_rfl) ?_; clear ha a; intro a ha
              refine stepp ha 48 (.pointer (some ⟨b1421, 6, none⟩)) (by kernel_rfl) (by kernel_rfl) ?_; clear ha a; intro a ha
              refine stepl ha 49 (HW.ca (i := 0) (b := b1421) (C := #[.int .i64 a1.f0, .int .i64 a1.f1, .string a1.f2, .int .i64 a1.f3, .int .i64 a1.f4, .string a1.f5, .bool a1.f6, .slice A1_1 a1.f7.length c1_1, .int .u64 a1.f8, .int .u64 a1.f9, .int .u64 a1.f10, .int .i64 a1.f11, .bool a1.f12, .int .i64 a1.f13]) (T := 26) (fr := (0, 0)) (by kernel_rfl)) 4 6 (.tmp 48) (.bool a1.f6) rfl (by kernel_rfl) (by kernel_rfl) (by kernel_rfl) ?_; clear ha a; intro a ha
              refine stepp ha 50 (.bool (a0.f6 == a1.f6)) (by kernel_rfl) (by kernel_rfl) ?_; clear ha a; intro a ha
              refine stepp ha 51 (.bool (a0.f6 == a1.f6)) (by kernel_rfl) (by kernel_rfl) ?_; clear ha a; intro a ha
              refine stepp ha 52 (.bool (a0.f6 == a1.f6)) (by kernel_rfl) (by kernel_rfl) ?_; clear ha a; intro a ha
              by_cases hp1431 : a0.f6 = a1.f6
              · skip
                replace h := ite_pos' h hp1431
                replace ha := ha.bool 52 (by kernel_rfl) (beq_t hp1431)
                refine stepp ha 53 (.pointer (some ⟨b1419, 7, none⟩)) (by kernel_rfl) (by kernel_rfl) ?_; clear ha a; intro a ha
                refine stepl ha 54 (HW.ca (i := 1) (b := b1419) (C := #[.int .i64 a0.f0, .int .i64 a0.f1, .string a0.f2, .int .i64 a0.f3, .int .i64 a0.f4, .string a0.f5, .bool a0.f6, .slice A0_0 a0.f7.length c0_0, .int .u64 a0.f8, .int .u64 a0.f9, .int .u64 a0.f10, .int .i64 a0.f11, .bool a0.f12, .int .i64 a0.f13]) (T := 26) (fr := (0, 0)) (by kernel_rfl)) 23 7 (.tmp 53) (.slice A0_0 a0.f7.length c0_0) rfl (by kernel_rfl) (by kernel_rfl) (by kernel_rfl) ?_; clear ha a; intro a ha
                refine stepp ha 55 (.pointer (some ⟨b1421, 7, none⟩)) (by kernel_rfl) (by kernel_rfl) ?_; clear ha a; intro a ha
                refine stepl ha 56 (HW.ca (i := 0) (b := b1421) (C := #[.int .i64 a1.f0, .int .i64 a1.f1, .string a1.f2, .int .i64 a1.f3, .int .i64 a1.f4, .string a1.f5, .bool a1.f6, .slice A1_1 a1.f7.length c1_1, .int .u64 a1.f8, .int .u64 a1.f9, .int .u64 a1.f10, .int .i64 a1.f11, .bool a1.f12, .int .i64 a1.f13]) (T := 26) (fr := (0, 0)) (by kernel_rfl)) 23 7 (.tmp 55) (.slice A1_1 a1.f7.length c1_1) rfl (by kernel_rfl) (by kernel_rfl) (by kernel_rfl) ?_; clear ha a; intro a ha
                obtain ⟨t1432, ht1433, h_⟩ := bind_some' h; clear h; have h := h_; clear h_
                refine stepc ha 57 (by kernel_rfl) (by kernel_rfl) (headgatekeep_Ranges.calls K a0.f7 a1.f7 A0_0 c0_0 A1_1 c1_1 t1432 _ ((HW.rd0 hr0_0)) ((HW.rd0 hr1_1)) ht1433) ?_; clear ha a; rintro e W1434 ⟨rfl, HX1435⟩
                refine ⟨_, rfl, ?_⟩; intro a ha; replace HW := HW.callw HX1435; clear HX1435
                refine stepp ha 58 (.bool t1432) (by kernel_rfl) (by kernel_rfl) ?_; clear ha a; intro a ha
                refine stepp ha 59 (.bool t1432) (by kernel_rfl) (by kernel_rfl) ?_; clear ha a; intro a ha
                by_cases hp1436 : t1432 = true
                · skip
                  replace h := ite_pos' h hp1436
                  replace ha := ha.bool 59 (by kernel_rfl) (hp1436)
                  refine stepp ha 60 (.pointer (some ⟨b1419, 8, none⟩)) (by kernel_rfl) (by kernel_rfl) ?_; clear ha a; intro a ha
                  refine stepl ha 61 (HW.ca (i := 1) (b := b1419) (C := #[.int .i64 a0.f0, .int .i64 a0.f1, .string a0.f2, .int .i64 a0.f3, .int .i64 a0.f4, .string a0.f5, .bool a0.f6, .slice A0_0 a0.f7.length c0_0, .int .u64 a0.f8, .int .u64 a0.f9, .int .u64 a0.f10, .int .i64 a0.f11, .bool a0.f12, .int .i64 a0.f13]) (T := 26) (fr := (0, 0)) (by kernel_rfl)) 24 8 (.tmp 60) (.int .u64 a0.f8) rfl (by kernel_rfl) (by kernel_rfl) (by kernel_rfl) ?_; clear ha a; intro a ha
                  refine stepp ha 62 (.pointer (some ⟨b1421, 8, none⟩)) (by kernel_rfl) (by kernel_rfl) ?_; clear ha a; intro a ha
                  refine stepl ha 63 (HW.ca (i := 0) (b := b1421) (C := #[.int .i64 a1.f0, .int .i64 a1.f1, .string a1.f2, .int .i64 a1.f3, .int .i64 a1.f4, .string a1.f5, .bool a1.f6, .slice A1_1 a1.f7.length c1_1, .int .u64 a1.f8, .int .u64 a1.f9, .int .u64 a1.f10, .int .i64 a1.f11, .bool a1.f12, .int .i64 a1.f13]) (T := 26) (fr := (0, 0)) (by kernel_rfl)) 24 8 (.tmp 62) (.int .u64 a1.f8) rfl (by kernel_rfl) (by kernel_rfl) (by kernel_rfl) ?_; clear ha a; intro a ha
                  refine stepp ha 64 (.bool (a0.f8 == a1.f8)) (by kernel_rfl) (by kernel_rfl) ?_; clear ha a; intro a ha
                  refine stepp ha 65 (.bool (a0.f8 == a1.f8)) (by kernel_rfl) (by kernel_rfl) ?_; clear ha a; intro a ha
                  refine stepp ha 66 (.bool (a0.f8 == a1.f8)) (by kernel_rfl) (by kernel_rfl) ?_; clear ha a; intro a ha
                  by_cases hp1437 : a0.f8 = a1.f8
                  · skip
                    replace h := ite_pos' h hp1437
                    replace ha := ha.bool 66 (by kernel_rfl) (ieq_t hp1437)
                    refine stepp ha 67 (.pointer (some ⟨b1419, 9, none⟩)) (by kernel_rfl) (by kernel_rfl) ?_; clear ha a; intro a ha
                    refine stepl ha 68 (HW.ca (i := 1) (b := b1419) (C := #[.int .i64 a0.f0, .int .i64 a0.f1, .string a0.f2, .int .i64 a0.f3, .int .i64 a0.f4, .string a0.f5, .bool a0.f6, .slice A0_0 a0.f7.length c0_0, .int .u64 a0.f8, .int .u64 a0.f9, .int .u64 a0.f10, .int .i64 a0.f11, .bool a0.f12, .int .i64 a0.f13]) (T := 26) (fr := (0, 0)) (by kernel_rfl)) 24 9 (.tmp 67) (.int .u64 a0.f9) rfl (by kernel_rfl) (by kernel_rfl) (by kernel_rfl) ?_; clear ha a; intro a ha
                    refine stepp ha 69 (.pointer (some ⟨b1421, 9, none⟩)) (by kernel_rfl) (by kernel_rfl) ?_; clear ha a; intro a ha
                    refine stepl ha 70 (HW.ca (i := 0) (b := b1421) (C := #[.int .i64 a1.f0, .int .i64 a1.f1, .string a1.f2, .int .i64 a1.f3, .int .i64 a1.f4, .string a1.f5, .bool a1.f6, .slice A1_1 a1.f7.length c1_1, .int .u64 a1.f8, .int .u64 a1.f9, .int .u64 a1.f10, .int .i64 a1.f11, .bool a1.f12, .int .i64 a1.f13]) (T := 26) (fr := (0, 0)) (by kernel_rfl)) 24 9 (.tmp 69) (.int .u64 a1.f9) rfl (by kernel_rfl) (by kernel_rfl) (by kernel_rfl) ?_; clear ha a; intro a ha
                    refine stepp ha 71 (.bool (a0.f9 == a1.f9)) (by kernel_rfl) (by kernel_rfl) ?_; clear ha a; intro a ha
                    refine stepp ha 72 (.bool (a0.f9 == a1.f9)) (by kernel_rfl) (by kernel_rfl) ?_; clear ha a; intro a ha
                    refine stepp ha 73 (.bool (a0.f9 == a1.f9)) (by kernel_rfl) (by kernel_rfl) ?_; clear ha a; intro a ha
                    by_cases hp1438 : a0.f9 = a1.f9
                    · skip
                      replace h := ite_pos' h hp1438
                      replace ha := ha.bool 73 (by kernel_rfl) (ieq_t hp1438)
                      refine stepp ha 74 (.pointer (some ⟨b1419, 10, none⟩)) (by kernel_rfl) (by kernel_rfl) ?_; clear ha a; intro a ha
                      refine stepl ha 75 (HW.ca (i := 1) (b := b1419) (C := #[.int .i64 a0.f0, .int .i64 a0.f1, .string a0.f2, .int .i64 a0.f3, .int .i64 a0.f4, .string a0.f5, .bool a0.f6, .slice A0_0 a0.f7.length c0_0, .int .u64 a0.f8, .int .u64 a0.f9, .int .u64 a0.f10, .int .i64 a0.f11, .bool a0.f12, .int .i64 a0.f13]) (T := 26) (fr := (0, 0)) (by kernel_rfl)) 24 10 (.tmp 74) (.int .u64 a0.f10) rfl (by kernel_rfl) (by kernel_rfl) (by kernel_rfl) ?_; clear ha a; intro a ha
                      refine stepp ha 76 (.pointer (some ⟨b1421, 10, none⟩)) (by kernel_rfl) (by kernel_rfl) ?_; clear ha a; intro a ha
                      refine stepl ha 77 (HW.ca (i := 0) (b := b1421) (C := #[.int .i64 a1.f0, .int .i64 a1.f1, .string a1.f2, .int .i64 a1.f3, .int .i64 a1.f4, .string a1.f5, .bool a1.f6, .slice A1_1 a1.f7.length c1_1, .int .u64 a1.f8, .int .u64 a1.f9, .int .u64 a1.f10, .int .i64 a1.f11, .bool a1.f12, .int .i64 a1.f13]) (T := 26) (fr := (0, 0)) (by kernel_rfl)) 24 10 (.tmp 76) (.int .u64 a1.f10) rfl (by kernel_rfl) (by kernel_rfl) (by kernel_rfl) ?_; clear ha a; intro a ha
                      refine stepp ha 78 (.bool (a0.f10 == a1.f10)) (by kernel_rfl) (by kernel_rfl) ?_; clear ha a; intro a ha
                      refine stepp ha 79 (.bool (a0.f10 == a1.f10)) (by kernel_rfl) (by kernel_rfl) ?_; clear ha a; intro a ha
                      refine stepp ha 80 (.bool (a0.f10 == a1.f10)) (by kernel_rfl) (by kernel_rfl) ?_; clear ha a; intro a ha
                      by_cases hp1439 : a0.f10 = a1.f10
                      · skip
                        replace h := ite_pos' h hp1439
                        replace ha := ha.bool 80 (by kernel_rfl) (ieq_t hp1439)
                        refine stepp ha 81 (.pointer (some ⟨b1419, 11, none⟩)) (by kernel_rfl) (by kernel_rfl) ?_; clear ha a; intro a ha
                        refine stepl ha 82 (HW.ca (i := 1) (b := b1419) (C := #[.int .i64 a0.f0, .int .i64 a0.f1, .string a0.f2, .int .i64 a0.f3, .int .i64 a0.f4, .string a0.f5, .bool a0.f6, .slice A0_0 a0.f7.length c0_0, .int .u64 a0.f8, .int .u64 a0.f9, .int .u64 a0.f10, .int .i64 a0.f11, .bool a0.f12, .int .i64 a0.f13]) (T := 26) (fr := (0, 0)) (by kernel_rfl)) 3 11 (.tmp 81) (.int .i64 a0.f11) rfl (by kernel_rfl) (by kernel_rfl) (by kernel_rfl) ?_; clear ha a; intro a ha
                        refine stepp ha 83 (.pointer (some ⟨b1421, 11, none⟩)) (by kernel_rfl) (by kernel_rfl) ?_; clear ha a; intro a ha
                        refine stepl ha 84 (HW.ca (i := 0) (b := b1421) (C := #[.int .i64 a1.f0, .int .i64 a1.f1, .string a1.f2, .int .i64 a1.f3, .int .i64 a1.f4, .string a1.f5, .bool a1.f6, .slice A1_1 a1.f7.length c1_1, .int .u64 a1.f8, .int .u64 a1.f9, .int .u64 a1.f10, .int .i64 a1.f11, .bool a1.f12, .int .i64 a1.f13]) (T := 26) (fr := (0, 0)) (by kernel_rfl)) 3 11 (.tmp 83) (.int .i64 a1.f11) rfl (by kernel_rfl) (by kernel_rfl) (by kernel_rfl) ?_; clear ha a; intro a ha
                        refine stepp ha 85 (.bool (a0.f11 == a1.f11)) (by kernel_rfl) (by kernel_rfl) ?_; clear ha a; intro a ha
                        refine stepp ha 86 (.bool (a0.f11 == a1.f11)) (by kernel_rfl) (by kernel_rfl) ?_; clear ha a; intro a ha
                        refine stepp ha 87 (.bool (a0.f11 == a1.f11)) (by kernel_rfl) (by kernel_rfl) ?_; clear ha a; intro a ha
                        by_cases hp1440 : a0.f11 = a1.f11
                        · skip
                          replace h := ite_pos' h hp1440
                          replace ha := ha.bool 87 (by kernel_rfl) (ieq_t hp1440)
                          refine stepp ha 88 (.pointer (some ⟨b1419, 12, none⟩)) (by kernel_rfl) (by kernel_rfl) ?_; clear ha a; intro a ha
                          refine stepl ha 89 (HW.ca (i := 1) (b := b1419) (C := #[.int .i64 a0.f0, .int .i64 a0.f1, .string a0.f2, .int .i64 a0.f3, .int .i64 a0.f4, .string a0.f5, .bool a0.f6, .slice A0_0 a0.f7.length c0_0, .int .u64 a0.f8, .int .u64 a0.f9, .int .u64 a0.f10, .int .i64 a0.f11, .bool a0.f12, .int .i64 a0.f13]) (T := 26) (fr := (0, 0)) (by kernel_rfl)) 4 12 (.tmp 88) (.bool a0.f12) rfl (by kernel_rfl) (by kernel_rfl) (by kernel_rfl) ?_; clear ha a; intro a ha
                          refine stepp ha 90 (.pointer (some ⟨b1421, 12, none⟩)) (by kernel_rfl) (by kernel_rfl) ?_; clear ha a; intro a ha
                          refine stepl ha 91 (HW.ca (i := 0) (b := b1421) (C := #[.int .i64 a1.f0, .int .i64 a1.f1, .string a1.f2, .int .i64 a1.f3, .int .i64 a1.f4, .string a1.f5, .bool a1.f6, .slice A1_1 a1.f7.length c1_1, .int .u64 a1.f8, .int .u64 a1.f9, .int .u64 a1.f10, .int .i64 a1.f11, .bool a1.f12, .int .i64 a1.f13]) (T := 26) (fr := (0, 0)) (by kernel_rfl)) 4 12 (.tmp 90) (.bool a1.f12) rfl (by kernel_rfl) (by kernel_rfl) (by kernel_rfl) ?_; clear ha a; intro a ha
                          refine stepp ha 92 (.bool (a0.f12 == a1.f12)) (by kernel_rfl) (by kernel_rfl) ?_; clear ha a; intro a ha
                          refine stepp ha 93 (.bool (a0.f12 == a1.f12)) (by kernel_rfl) (by kernel_rfl) ?_; clear ha a; intro a ha
                          refine stepp ha 94 (.bool (a0.f12 == a1.f12)) (by kernel_rfl) (by kernel_rfl) ?_; clear ha a; intro a ha
                          by_cases hp1441 : a0.f12 = a1.f12
                          · skip
                            replace h := ite_pos' h hp1441
                            replace ha := ha.bool 94 (by kernel_rfl) (beq_t hp1441)
                            refine stepp ha 95 (.pointer (some ⟨b1419, 13, none⟩)) (by kernel_rfl) (by kernel_rfl) ?_; clear ha a; intro a ha
                            refine stepl ha 96 (HW.ca (i := 1) (b := b1419) (C := #[.int .i64 a0.f0, .int .i64 a0.f1, .string a0.f2, .int .i64 a0.f3, .int .i64 a0.f4, .string a0.f5, .bool a0.f6, .slice A0_0 a0.f7.length c0_0, .int .u64 a0.f8, .int .u64 a0.f9, .int .u64 a0.f10, .int .i64 a0.f11, .bool a0.f12, .int .i64 a0.f13]) (T := 26) (fr := (0, 0)) (by kernel_rfl)) 3 13 (.tmp 95) (.int .i64 a0.f13) rfl (by kernel_rfl) (by kernel_rfl) (by kernel_rfl) ?_; clear ha a; intro a ha
                            refine stepp ha 97 (.pointer (some ⟨b1421, 13, none⟩)) (by kernel_rfl) (by kernel_rfl) ?_; clear ha a; intro a ha
                            refine stepl ha 98 (HW.ca (i := 0) (b := b1421) (C := #[.int .i64 a1.f0, .int .i64 a1.f1, .string a1.f2, .int .i64 a1.f3, .int .i64 a1.f4, .string a1.f5, .bool a1.f6, .slice A1_1 a1.f7.length c1_1, .int .u64 a1.f8, .int .u64 a1.f9, .int .u64 a1.f10, .int .i64 a1.f11, .bool a1.f12, .int .i64 a1.f13]) (T := 26) (fr := (0, 0)) (by kernel_rfl)) 3 13 (.tmp 97) (.int .i64 a1.f13) rfl (by kernel_rfl) (by kernel_rfl) (by kernel_rfl) ?_; clear ha a; intro a ha
                            refine stepp ha 99 (.bool (a0.f13 == a1.f13)) (by kernel_rfl) (by kernel_rfl) ?_; clear ha a; intro a ha
                            refine stepp ha 100 (.bool (a0.f13 == a1.f13)) (by kernel_rfl) (by kernel_rfl) ?_; clear ha a; intro a ha
                            refine stepp ha 4 (.bool (a0.f13 == a1.f13)) (by kernel_rfl) (by kernel_rfl) ?_; clear ha a; intro a ha
                            refine endl ?_
                            refine thenN (hK1424 _ _ ?_); clear hK1424
                            refine wp_ret ?_
                            obtain rfl := Option.some.inj h
                            exact finv ha _ _ rfl (.tmp (v := .bool (a0.f13 == a1.f13)) (by kernel_rfl) .nil) (.bool (a0.f13 == a1.f13)) rfl ⟨rfl, HW.pick [] [] (by decide) (by decide) rfl (by kernel_rfl)⟩
                          · skip
                            replace h := ite_neg' h hp1441
                            replace ha := ha.bool 94 (by kernel_rfl) (beq_f hp1441)
                            refine stepo ha 95 (by kernel_rfl) ?_; clear ha a; intro a ha
                            refine stepo ha 96 (by kernel_rfl) ?_; clear ha a; intro a ha
                            refine stepo ha 97 (by kernel_rfl) ?_; clear ha a; intro a ha
                            refine stepo ha 98 (by kernel_rfl) ?_; clear ha a; intro a ha
                            refine stepo ha 99 (by kernel_rfl) ?_; clear ha a; intro a ha
                            refine stepp ha 100 (.bool false) (by kernel_rfl) (by kernel_rfl) ?_; clear ha a; intro a ha
                            refine stepp ha 4 (.bool false) (by kernel_rfl) (by kernel_rfl) ?_; clear ha a; intro a ha
                            refine endl ?_
                            refine thenN (hK1424 _ _ ?_); clear hK1424
                            refine wp_ret ?_
                            obtain rfl := Option.some.inj h
                            exact finv ha _ _ rfl (.tmp (v := .bool false) (by kernel_rfl) .nil) (.bool false) rfl ⟨rfl, HW.pick [] [] (by decide) (by decide) rfl (by kernel_rfl)⟩
                        · skip
                          replace h := ite_neg' h hp1440
                          replace ha := ha.bool 87 (by kernel_rfl) (ieq_f hp1440)
                          refine stepo ha 88 (by kernel_rfl) ?_; clear ha a; intro a ha
                          refine stepo ha 89 (by kernel_rfl) ?_; clear ha a; intro a ha
                          refine stepo ha 90 (by kernel_rfl) ?_; clear ha a; intro a ha
                          refine stepo ha 91 (by kernel_rfl) ?_; clear ha a; intro a ha
                          refine stepo ha 92 (by kernel_rfl) ?_; clear ha a; intro a ha
                          refine stepp ha 93 (.bool false) (by kernel_rfl) (by kernel_rfl) ?_; clear ha a; intro a ha
                          refine stepp ha 94 (.bool false) (by kernel_rfl) (by kernel_rfl) ?_; clear ha a; intro a ha
                          refine stepo ha 95 (by kernel_rfl) ?_; clear ha a; intro a ha
                          refine stepo ha 96 (by kernel_rfl) ?_; clear ha a; intro a ha
                          refine stepo ha 97 (by kernel_rfl) ?_; clear ha a; intro a ha
                          refine stepo ha 98 (by kernel_rfl) ?_; clear ha a; intro a ha
                          refine stepo ha 99 (by kernel_rfl) ?_; clear ha a; intro a ha
                          refine stepp ha 100 (.bool false) (by kernel_rfl) (by kernel_rfl) ?_; clear ha a; intro a ha
                          refine stepp ha 4 (.bool false) (by kernel_rfl) (by kernel_rfl) ?_; clear ha a; intro a ha
                          refine endl ?_
                          refine thenN (hK1424 _ _ ?_); clear hK1424
                          refine wp_ret ?_
                          obtain rfl := Option.some.inj h
                          exact finv ha _ _ rfl (.tmp (v := .bool false) (by kernel_rfl) .nil) (.bool false) rfl ⟨rfl, HW.pick [] [] (by decide) (by decide) rfl (by kernel_rfl)⟩
                      · skip
                        replace h := ite_neg' h hp1439
                        replace ha := ha.bool 80 (by kernel_rfl) (ieq_f hp1439)
                        refine stepo ha 81 (by kernel_rfl) ?_; clear ha a; intro a ha
                        refine stepo ha 82 (by kernel_rfl) ?_; clear ha a; intro a ha
                        refine stepo ha 83 (by kernel_rfl) ?_; clear ha a; intro a ha
                        refine stepo ha 84 (by kernel_rfl) ?_; clear ha a; intro a ha
                        refine stepo ha 85 (by kernel_rfl) ?_; clear ha a; intro a ha
                        refine stepp ha 86 (.bool false) (by kernel_rfl) (by kernel_rfl) ?_; clear ha a; intro a ha
                        refine stepp ha 87 (.bool false) (by kernel_rfl) (by kernel_rfl) ?_; clear ha a; intro a ha
                        refine stepo ha 88 (by kernel_rfl) ?_; clear ha a; intro a ha
                        refine stepo ha 89 (by kernel_rfl) ?_; clear ha a; intro a ha
                        refine stepo ha 90 (by kernel_rfl) ?_; clear ha a; intro a ha
                        refine stepo ha 91 (by kernel_rfl) ?_; clear ha a; intro a ha
                        refine stepo ha 92 (by kernel_rfl) ?_; clear ha a; intro a ha
                        refine stepp ha 93 (.bool false) (by kernel_rfl) (by kernel_rfl) ?_; clear ha a; intro a ha
                        refine stepp ha 94 (.bool false) (by kernel_rfl) (by kernel_rfl) ?_; clear ha a; intro a ha
                        refine stepo ha 95 (by kernel_rfl) ?_; clear ha a; intro a ha
                        refine stepo ha 96 (by kernel_rfl) ?_; clear ha a; intro a ha
                        refine stepo ha 97 (by kernel_rfl) ?_; clear ha a; intro a ha
                        refine stepo ha 98 (by kernel_rfl) ?_; clear ha a; intro a ha
                        refine stepo ha 99 (by kernel_rfl) ?_; clear ha a; intro a ha
                        refine stepp ha 100 (.bool false) (by kernel_rfl) (by kernel_rfl) ?_; clear ha a; intro a ha
                        refine stepp ha 4 (.bool false) (by kernel_rfl) (by kernel_rfl) ?_; clear ha a; intro a ha
                        refine endl ?_
                        refine thenN (hK1424 _ _ ?_); clear hK1424
                        refine wp_ret ?_
                        obtain rfl := Option.some.inj h
                        exact finv ha _ _ rfl (.tmp (v := .bool false) (by kernel_rfl) .nil) (.bool false) rfl ⟨rfl, HW.pick [] [] (by decide) (by decide) rfl (by kernel_rfl)⟩
                    · skip
                      replace h := ite_neg' h hp1438
                      replace ha := ha.bool 73 (by kernel_rfl) (ieq_f hp1438)
                      refine stepo ha 74 (by kernel_rfl) ?_; clear ha a; intro a ha
                      refine stepo ha 75 (by kernel_rfl) ?_; clear ha a; intro a ha
                      refine stepo ha 76 (by kernel_rfl) ?_; clear ha a; intro a ha
                      refine stepo ha 77 (by kernel_rfl) ?_; clear ha a; intro a ha
                      refine stepo ha 78 (by kernel_rfl) ?_; clear ha a; intro a ha
                      refine stepp ha 79 (.bool false) (by kernel_rfl) (by kernel_rfl) ?_; clear ha a; intro a ha
                      refine stepp ha 80 (.bool false) (by kernel_rfl) (by kernel_rfl) ?_; clear ha a; intro a ha
                      refine stepo ha 81 (by kernel_rfl) ?_; clear ha a; intro a ha
                      refine stepo ha 82 (by kernel_rfl) ?_; clear ha a; intro a ha
                      refine stepo ha 83 (by kernel_rfl) ?_; clear ha a; intro a ha
                      refine stepo ha 84 (by kernel_rfl) ?_; clear ha a; intro a ha
                      refine stepo ha 85 (by kernel_rfl) ?_; clear ha a; intro a ha
                      refine stepp ha 86 (.bool false) (by kernel_rfl) (by kernel_rfl) ?_; clear ha a; intro a ha
                      refine stepp ha 87 (.bool false) (by kernel_rfl) (by kernel_rfl) ?_; clear ha a; intro a ha
                      refine stepo ha 88 (by kernel_rfl) ?_; clear ha a; intro a ha
                      refine stepo ha 89 (by kernel_rfl) ?_; clear ha a; intro a ha
                      refine stepo ha 90 (by kernel_rfl) ?_; clear ha a; intro a ha
                      refine stepo ha 91 (by kernel_rfl) ?_; clear ha a; intro a ha
                      refine stepo ha 92 (by kernel_rfl) ?_; clear ha a; intro a ha
                      refine stepp ha 93 (.bool false) (by kernel_rfl) (by kernel_rfl) ?_; clear ha a; intro a ha
                      refine stepp ha 94 (.bool false) (by kernel_rfl) (by kernel_rfl) ?_; clear ha a; intro a ha
                      refine stepo ha 95 (by kernel_rfl) ?_; clear ha a; intro a ha
                      refine stepo ha 96 (by kernel_rfl) ?_; clear ha a; intro a ha
                      refine stepo ha 97 (by kernel_rfl) ?_; clear ha a; intro a ha
                      refine stepo ha 98 (by kernel_rfl) ?_; clear ha a; intro a ha
                      refine stepo ha 99 (by kernel_rfl) ?_; clear ha a; intro a ha
                      refine stepp ha 100 (.bool false) (by kernel_rfl) (by kernel_rfl) ?_; clear ha a; intro a ha
                      refine stepp ha 4 (.bool false) (by kernel_rfl) (by kernel_rfl) ?_; clear ha a; intro a ha
                      refine endl ?_
                      refine thenN (hK1424 _ _ ?_); clear hK1424
                      refine wp_ret ?_
                      obtain rfl := Option.some.inj h
                      exact finv ha _ _ rfl (.tmp (v := .bool false) (by kernel_rfl) .nil) (.bool false) rfl ⟨rfl, HW.pick [] [] (by decide) (by decide) rfl (by kernel_rfl)⟩
                  · skip
                    replace h := ite_neg' h hp1437
                    replace ha := ha.bool 66 (by kernel_rfl) (ieq_f hp1437)
                    refine stepo ha 67 (by kernel_rfl) ?_; clear ha a; intro a ha
                    refine stepo ha 68 (by kernel_rfl) ?_; clear ha a; intro a ha
                    refine stepo ha 69 (by kernel_rfl) ?_; clear ha a; intro a ha
                    refine stepo ha 70 (by kernel_rfl) ?_; clear ha a; intro a ha
                    refine stepo ha 71 (by kernel_rfl) ?_; clear ha a; intro a ha
                    refine stepp ha 72 (.bool false) (by kernel_rfl) (by kernel_rfl) ?_; clear ha a; intro a ha
                    refine stepp ha 73 (.bool false) (by kernel_rfl) (by kernel_rfl) ?_; clear ha a; intro a ha
                    refine stepo ha 74 (by kernel_rfl) ?_; clear ha a; intro a ha
                    refine stepo ha 75 (by kernel_rfl) ?_; clear ha a; intro a ha
                    refine stepo ha 76 (by kernel_rfl) ?_; clear ha a; intro a ha
                    refine stepo ha 77 (by kernel_rfl) ?_; clear ha a; intro a ha
                    refine stepo ha 78 (by kernel_rfl) ?_; clear ha a; intro a ha
                    refine stepp ha 79 (.bool false) (by kernel_rfl) (by kernel_rfl) ?_; clear ha a; intro a ha
                    refine stepp ha 80 (.bool false) (by kernel_rfl) (by kernel_rfl) ?_; clear ha a; intro a ha
                    refine stepo ha 81 (by kernel_rfl) ?_; clear ha a; intro a ha
                    refine stepo ha 82 (by kernel_rfl) ?_; clear ha a; intro a ha
                    refine stepo ha 83 (by kernel_rfl) ?_; clear ha a; intro a ha
                    refine stepo ha 84 (by kernel_rfl) ?_; clear ha a; intro a ha
                    refine stepo ha 85 (by kernel_rfl) ?_; clear ha a; intro a ha
                    refine stepp ha 86 (.bool false) (by kernel_rfl) (by kernel_rfl) ?_; clear ha a; intro a ha
                    refine stepp ha 87 (.bool false) (by kernel_rfl) (by kernel_rfl) ?_; clear ha a; intro a ha
                    refine stepo ha 88 (by kernel_rfl) ?_; clear ha a; intro a ha
                    refine stepo ha 89 (by kernel_rfl) ?_; clear ha a; intro a ha
                    refine stepo ha 90 (by kernel_rfl) ?_; clear ha a; intro a ha
                    refine stepo ha 91 (by kernel_rfl) ?_; clear ha a; intro a ha
                    refine stepo ha 92 (by kernel_rfl) ?_; clear ha a; intro a ha
                    refine stepp ha 93 (.bool false) (by kernel_rfl) (by kernel_rfl) ?_; clear ha a; intro a ha
                    refine stepp ha 94 (.bool false) (by kernel_rfl) (by kernel_rfl) ?_; clear ha a; intro a ha
                    refine stepo ha 95 (by kernel_rfl) ?_; clear ha a; intro a ha
                    refine stepo ha 96 (by kernel_rfl) ?_; clear ha a; intro a ha
                    refine stepo ha 97 (by kernel_rfl) ?_; clear ha a; intro a ha
                    refine stepo ha 98 (by kernel_rfl) ?_; clear ha a; intro a ha
                    refine stepo ha 99 (by kernel_rfl) ?_; clear ha a; intro a ha
                    refine stepp ha 100 (.bool false) (by kernel_rfl) (by kernel_rfl) ?_; clear ha a; intro a ha
                    refine stepp ha 4 (.bool false) (by kernel_rfl) (by kernel_rfl) ?_; clear ha a; intro a ha
                    refine endl ?_
                    refine thenN (hK1424 _ _ ?_); clear hK1424
                    refine wp_ret ?_
                    obtain rfl := Option.some.inj h
                    exact finv ha _ _ rfl (.tmp (v := .bool false) (by kernel_rfl) .nil) (.bool false) rfl ⟨rfl, HW.pick [] [] (by decide) (by decide) rfl (by kernel_rfl)⟩
                · skip
                  replace h := ite_neg' h hp1436
                  replace ha := ha.bool 59 (by kernel_rfl) (bool_f hp1436)
                  refine stepo ha 60 (by kernel_rfl) ?_; clear ha a; intro a ha
                  refine stepo ha 61 (by kernel_rfl) ?_; clear ha a; intro a ha
                  refine stepo ha 62 (by kernel_rfl) ?_; clear ha a; intro a ha
                  refine stepo ha 63 (by kernel_rfl) ?_; clear ha a; intro a ha
                  refine stepo ha 64 (by kernel_rfl) ?_; clear ha a; intro a ha
                  refine stepp ha 65 (.bool false) (by kernel_rfl) (by kernel_rfl) ?_; clear ha a; intro a ha
                  refine stepp ha 66 (.bool false) (by kernel_rfl) (by kernel_rfl) ?_; clear ha a; intro a ha
                  refine stepo ha 67 (by kernel_rfl) ?_; clear ha a; intro a ha
                  refine stepo ha 68 (by kernel_rfl) ?_; clear ha a; intro a ha
                  refine stepo ha 69 (by kernel_rfl) ?_; clear ha a; intro a ha
                  refine stepo ha 70 (by kernel_rfl) ?_; clear ha a; intro a ha
                  refine stepo ha 71 (by kernel_rfl) ?_; clear ha a; intro a ha
                  refine stepp ha 72 (.bool false) (by kernel_rfl) (by kernel_rfl) ?_; clear ha a; intro a ha
                  refine stepp ha 73 (.bool false) (by kernel_rfl) (by kernel_rfl) ?_; clear ha a; intro a ha
                  refine stepo ha 74 (by kernel_rfl) ?_; clear ha a; intro a ha
                  refine stepo ha 75 (by kernel_rfl) ?_; clear ha a; intro a ha
                  refine stepo ha 76 (by kernel_rfl) ?_; clear ha a; intro a ha
                  refine stepo ha 77 (by kernel_rfl) ?_; clear ha a; intro a ha
                  refine stepo ha 78 (by kernel_rfl) ?_; clear ha a; intro a ha
                  refine stepp ha 79 (.bool false) (by kernel_rfl) (by kernel_rfl) ?_; clear ha a; intro a ha
                  refine stepp ha 80 (.bool false) (by kernel_rfl) (by kernel_rfl) ?_; clear ha a; intro a ha
                  refine stepo ha 81 (by kernel_rfl) ?_; clear ha a; intro a ha
                  refine stepo ha 82 (by kernel_rfl) ?_; clear ha a; intro a ha
                  refine stepo ha 83 (by kernel_rfl) ?_; clear ha a; intro a ha
                  refine stepo ha 84 (by kernel_rfl) ?_; clear ha a; intro a ha
                  refine stepo ha 85 (by kernel_rfl) ?_; clear ha a; intro a ha
                  refine stepp ha 86 (.bool false) (by kernel_rfl) (by kernel_rfl) ?_; clear ha a; intro a ha
                  refine stepp ha 87 (.bool false) (by kernel_rfl) (by kernel_rfl) ?_; clear ha a; intro a ha
                  refine stepo ha 88 (by kernel_rfl) ?_; clear ha a; intro a ha
                  refine stepo ha 89 (by kernel_rfl) ?_; clear ha a; intro a ha
                  refine stepo ha 90 (by kernel_rfl) ?_; clear ha a; intro a ha
                  refine stepo ha 91 (by kernel_rfl) ?_; clear ha a; intro a ha
                  refine stepo ha 92 (by kernel_rfl) ?_; clear ha a; intro a ha
                  refine stepp ha 93 (.bool false) (by kernel_rfl) (by kernel_rfl) ?_; clear ha a; intro a ha
                  refine stepp ha 94 (.bool false) (by kernel_rfl) (by kernel_rfl) ?_; clear ha a; intro a ha
                  refine stepo ha 95 (by kernel_rfl) ?_; clear ha a; intro a ha
                  refine stepo ha 96 (by kernel_rfl) ?_; clear ha a; intro a ha
                  refine stepo ha 97 (by kernel_rfl) ?_; clear ha a; intro a ha
                  refine stepo ha 98 (by kernel_rfl) ?_; clear ha a; intro a ha
                  refine stepo ha 99 (by kernel_rfl) ?_; clear ha a; intro a ha
                  refine stepp ha 100 (.bool false) (by kernel_rfl) (by kernel_rfl) ?_; clear ha a; intro a ha
                  refine stepp ha 4 (.bool false) (by kernel_rfl) (by kernel_rfl) ?_; clear ha a; intro a ha
                  refine endl ?_
                  refine thenN (hK1424 _ _ ?_); clear hK1424
                  refine wp_ret ?_
                  obtain rfl := Option.some.inj h
                  exact finv ha _ _ rfl (.tmp (v := .bool false) (by kernel_rfl) .nil) (.bool false) rfl ⟨rfl, HW.pick [] [] (by decide) (by decide) rfl (by kernel_rfl)⟩
              · skip
                replace h := ite_neg' h hp1431
                replace ha := ha.bool 52 (by kernel_rfl) (beq_f hp1431)
                refine stepo ha 53 (by kernel_rfl) ?_; clear ha a; intro a ha
                refine stepo ha 54 (by kernel_rfl) ?_; clear ha a; intro a ha
                refine stepo ha 55 (by kernel_rfl) ?_; clear ha a; intro a ha
                refine stepo ha 56 (by kernel_rfl) ?_; clear ha a; intro a ha
                refine stepo ha 57 (by kernel_rfl) ?_; clear ha a; intro a ha
                refine stepp ha 58 (.bool false) (by kernel_rfl) (by kernel_rfl) ?_; clear ha a; intro a ha
                refine stepp ha 59 (.bool false) (by kernel_rfl) (by kernel_rfl) ?_; clear ha a; intro a ha
                refine stepo ha 60 (by kernel_rfl) ?_; clear ha a; intro a ha
                refine stepo ha 61 (by kernel_rfl) ?_; clear ha a; intro a ha
                refine stepo ha 62 (by kernel_rfl) ?_; clear ha a; intro a ha
                refine stepo ha 63 (by kernel_rfl) ?_; clear ha a; intro a ha
                refine stepo ha 64 (by kernel_rfl) ?_; clear ha a; intro a ha
                refine stepp ha 65 (.bool false) (by kernel_rfl) (by kernel_rfl) ?_; clear ha a; intro a ha
                refine stepp ha 66 (.bool false) (by kernel_rfl) (by kernel_rfl) ?_; clear ha a; intro a ha
                refine stepo ha 67 (by kernel_rfl) ?_; clear ha a; intro a ha
                refine stepo ha 68 (by kernel_rfl) ?_; clear ha a; intro a ha
                refine stepo ha 69 (by kernel_rfl) ?_; clear ha a; intro a ha
                refine stepo ha 70 (by kernel_rfl) ?_; clear ha a; intro a ha
                refine stepo ha 71 (by kernel_rfl) ?_; clear ha a; intro a ha
                refine stepp ha 72 (.bool false) (by kernel_rfl) (by kernel_rfl) ?_; clear ha a; intro a ha
                refine stepp ha 73 (.bool false) (by kernel_rfl) (by kernel_rfl) ?_; clear ha a; intro a ha
                refine stepo ha 74 (by kernel_rfl) ?_; clear ha a; intro a ha
                refine stepo ha 75 (by kernel_rfl) ?_; clear ha a; intro a ha
                refine stepo ha 76 (by kernel_rfl) ?_; clear ha a; intro a ha
                refine stepo ha 77 (by kernel_rfl) ?_; clear ha a; intro a ha
                refine stepo ha 78 (by kernel_rfl) ?_; clear ha a; intro a ha
                refine stepp ha 79 (.bool false) (by kernel_rfl) (by kernel_rfl) ?_; clear ha a; intro a ha
                refine stepp ha 80 (.bool false) (by kernel_rfl) (by kernel_rfl) ?_; clear ha a; intro a ha
                refine stepo ha 81 (by kernel_rfl) ?_; clear ha a; intro a ha
                refine stepo ha 82 (by kernel_rfl) ?_; clear ha a; intro a ha
                refine stepo ha 83 (by kernel_rfl) ?_; clear ha a; intro a ha
                refine stepo ha 84 (by kernel_rfl) ?_; clear ha a; intro a ha
                refine stepo ha 85 (by kernel_rfl) ?_; clear ha a; intro a ha
                refine stepp ha 86 (.bool false) (by kernel_rfl) (by kernel_rfl) ?_; clear ha a; intro a ha
                refine stepp ha 87 (.bool false) (by kernel_rfl) (by kernel_rfl) ?_; clear ha a; intro a ha
                refine stepo ha 88 (by kernel_rfl) ?_; clear ha a; intro a ha
                refine stepo ha 89 (by kernel_rfl) ?_; clear ha a; intro a ha
                refine stepo ha 90 (by kernel_rfl) ?_; clear ha a; intro a ha
                refine stepo ha 91 (by kernel_rfl) ?_; clear ha a; intro a ha
                refine stepo ha 92 (by kernel_rfl) ?_; clear ha a; intro a ha
                refine stepp ha 93 (.bool false) (by kernel_rfl) (by kernel_rfl) ?_; clear ha a; intro a ha
                refine stepp ha 94 (.bool false) (by kernel_rfl) (by kernel_rfl) ?_; clear ha a; intro a ha
                refine stepo ha 95 (by kernel_rfl) ?_; clear ha a; intro a ha
                refine stepo ha 96 (by kernel_rfl) ?_; clear ha a; intro a ha
                refine stepo ha 97 (by kernel_rfl) ?_; clear ha a; intro a ha
                refine stepo ha 98 (by kernel_rfl) ?_; clear ha a; intro a ha
                refine stepo ha 99 (by kernel_rfl) ?_; clear ha a; intro a ha
                refine stepp ha 100 (.bool false) (by kernel_rfl) (by kernel_rfl) ?_; clear ha a; intro a ha
                refine stepp ha 4 (.bool false) (by kernel_rfl) (by kernel_rfl) ?_; clear ha a; intro a ha
                refine endl ?_
                refine thenN (hK1424 _ _ ?_); clear hK1424
                refine wp_ret ?_
                obtain rfl := Option.some.inj h
                exact finv ha _ _ rfl (.tmp (v := .bool false) (by kernel_rfl) .nil) (.bool false) rfl ⟨rfl, HW.pick [] [] (by decide) (by decide) rfl (by kernel_rfl)⟩
            · skip
              replace h := ite_neg' h hp1430
              replace ha := ha.bool 45 (by kernel_rfl) (str_eq_f hp1430)
              refine stepo ha 46 (by kernel_rfl) ?_; clear ha a; intro a ha
              refine stepo ha 47 (by kernel_rfl) ?_; clear ha a; intro a ha
              refine stepo ha 48 (by kernel_rfl) ?_; clear ha a; intro a ha
              refine stepo ha 49 (by kernel_rfl) ?_; clear ha a; intro a ha
              refine stepo ha 50 (by kernel_rfl) ?_; clear ha a; intro a ha
              refine stepp ha 51 (.bool false) (by kernel_rfl) (by kernel_rfl) ?_; clear ha a; intro a ha
              refine stepp ha 52 (.bool false) (by kernel_rfl) (by kernel_rfl) ?_; clear ha a; intro a ha
              refine stepo ha 53 (by kernel_rfl) ?_; clear ha a; intro a ha
              refine stepo ha 54 (by kernel_rfl) ?_; clear ha a; intro a ha
              refine stepo ha 55 (by kernel_rfl) ?_; clear ha a; intro a ha
              refine stepo ha 56 (by kernel_rfl) ?_; clear ha a; intro a ha
              refine stepo ha 57 (by kernel_rfl) ?_; clear ha a; intro a ha
              refine stepp ha 58 (.bool false) (by kernel_rfl) (by kernel_rfl) ?_; clear ha a; intro a ha
              refine stepp ha 59 (.bool false) (by kernel_rfl) (by kernel_rfl) ?_; clear ha a; intro a ha
              refine stepo ha 60 (by kernel_rfl) ?_; clear ha a; intro a ha
              refine stepo ha 61 (by kernel_rfl) ?_; clear ha a; intro a ha
              refine stepo ha 62 (by kernel_rfl) ?_; clear ha a; intro a ha
              refine stepo ha 63 (by kernel_rfl) ?_; clear ha a; intro a ha
              refine stepo ha 64 (by kernel_rfl) ?_; clear ha a; intro a ha
              refine stepp ha 65 (.bool false) (by kernel_rfl) (by kernel_rfl) ?_; clear ha a; intro a ha
              refine stepp ha 66 (.bool false) (by kernel_rfl) (by kernel_rfl) ?_; clear ha a; intro a ha
              refine stepo ha 67 (by kernel_rfl) ?_; clear ha a; intro a ha
              refine stepo ha 68 (by kernel_rfl) ?_; clear ha a; intro a ha
              refine stepo ha 69 (by kernel_rfl) ?_; clear ha a; intro a ha
              refine stepo ha 70 (by kernel_rfl) ?_; clear ha a; intro a ha
              refine stepo ha 71 (by kernel_rfl) ?_; clear ha a; intro a ha
              refine stepp ha 72 (.bool false) (by kernel_rfl) (by kernel_rfl) ?_; clear ha a; intro a ha
              refine stepp ha 73 (.bool false) (by kernel_rfl) (by kernel_rfl) ?_; clear ha a; intro a ha
              refine stepo ha 74 (by kernel_rfl) ?_; clear ha a; intro a ha
              refine stepo ha 75 (by kernel_rfl) ?_; clear ha a; intro a ha
              refine stepo ha 76 (by kernel_rfl) ?_; clear ha a; intro a ha
              refine stepo ha 77 (by kernel_rfl) ?_; clear ha a; intro a ha
              refine stepo ha 78 (by kernel_rfl) ?_; clear ha a; intro a ha
              refine stepp ha 79 (.bool false) (by kernel_rfl) (by kernel_rfl) ?_; clear ha a; intro a ha
              refine stepp ha 80 (.bool false) (by kernel_rfl) (by kernel_rfl) ?_; clear ha a; intro a ha
              refine stepo ha 81 (by kernel_rfl) ?_; clear ha a; intro a ha
              refine stepo ha 82 (by kernel_rfl) ?_; clear ha a; intro a ha
              refine stepo ha 83 (by kernel_rfl) ?_; clear ha a; intro a ha
              refine stepo ha 84 (by kernel_rfl) ?_; clear ha a; intro a ha
              refine stepo ha 85 (by kernel_rfl) ?_; clear ha a; intro a ha
              refine stepp ha 86 (.bool false) (by kernel_rfl) (by kernel_rfl) ?_; clear ha a; intro a ha
              refine stepp ha 87 (.bool false) (by kernel_rfl) (by kernel_rfl) ?_; clear ha a; intro a ha
              refine stepo ha 88 (by kernel_rfl) ?_; clear ha a; intro a ha
              refine stepo ha 89 (by kernel_rfl) ?_; clear ha a; intro a ha
              refine stepo ha 90 (by kernel_rfl) ?_; clear ha a; intro a ha
              refine stepo ha 91 (by kernel_rfl) ?_; clear ha a; intro a ha
              refine stepo ha 92 (by kernel_rfl) ?_; clear ha a; intro a ha
              refine stepp ha 93 (.bool false) (by kernel_rfl) (by kernel_rfl) ?_; clear ha a; intro a ha
              refine stepp ha 94 (.bool false) (by kernel_rfl) (by kernel_rfl) ?_; clear ha a; intro a ha
              refine stepo ha 95 (by kernel_rfl) ?_; clear ha a; intro a ha
              refine stepo ha 96 (by kernel_rfl) ?_; clear ha a; intro a ha
              refine stepo ha 97 (by kernel_rfl) ?_; clear ha a; intro a ha
              refine stepo ha 98 (by kernel_rfl) ?_; clear ha a; intro a ha
              refine stepo ha 99 (by kernel_rfl) ?_; clear ha a; intro a ha
              refine stepp ha 100 (.bool false) (by kernel_rfl) (by kernel_rfl) ?_; clear ha a; intro a ha
              refine stepp ha 4 (.bool false) (by kernel_rfl) (by kernel_rfl) ?_; clear ha a; intro a ha
              refine endl ?_
              refine thenN (hK1424 _ _ ?_); clear hK1424
              refine wp_ret ?_
              obtain rfl := Option.some.inj h
              exact finv ha _ _ rfl (.tmp (v := .bool false) (by kernel_rfl) .nil) (.bool false) rfl ⟨rfl, HW.pick [] [] (by decide) (by decide) rfl (by kernel_rfl)⟩
          · skip
            replace h := ite_neg' h hp1429
            replace ha := ha.bool 38 (by kernel_rfl) (ieq_f hp1429)
            refine stepo ha 39 (by kernel_rfl) ?_; clear ha a; intro a ha
            refine stepo ha 40 (by kernel_rfl) ?_; clear ha a; intro a ha
            refine stepo ha 41 (by kernel_rfl) ?_; clear ha a; intro a ha
            refine stepo ha 42 (by kernel_rfl) ?_; clear ha a; intro a ha
            refine stepo ha 43 (by kernel_rfl) ?_; clear ha a; intro a ha
            refine stepp ha 44 (.bool false) (by kernel_rfl) (by kernel_rfl) ?_; clear ha a; intro a ha
            refine stepp ha 45 (.bool false) (by kernel_rfl) (by kernel_rfl) ?_; clear ha a; intro a ha
            refine stepo ha 46 (by kernel_rfl) ?_; clear ha a; intro a ha
            refine stepo ha 47 (by kernel_rfl) ?_; clear ha a; intro a ha
            refine stepo ha 48 (by kernel_rfl) ?_; clear ha a; intro a ha
            refine stepo ha 49 (by kernel_rfl) ?_; clear ha a; intro a ha
            refine stepo ha 50 (by kernel_rfl) ?_; clear ha a; intro a ha
            refine stepp ha 51 (.bool false) (by kernel_rfl) (by kernel_rfl) ?_; clear ha a; intro a ha
            refine stepp ha 52 (.bool false) (by kernel_rfl) (by kernel_rfl) ?_; clear ha a; intro a ha
            refine stepo ha 53 (by kernel_rfl) ?_; clear ha a; intro a ha
            refine stepo ha 54 (by kernel_rfl) ?_; clear ha a; intro a ha
            refine stepo ha 55 (by kernel_rfl) ?_; clear ha a; intro a ha
            refine stepo ha 56 (by kernel_rfl) ?_; clear ha a; intro a ha
            refine stepo ha 57 (by kernel_rfl) ?_; clear ha a; intro a ha
            refine stepp ha 58 (.bool false) (by kernel_rfl) (by kernel_rfl) ?_; clear ha a; intro a ha
            refine stepp ha 59 (.bool false) (by kernel_rfl) (by kernel_rfl) ?_; clear ha a; intro a ha
            refine stepo ha 60 (by kernel_rfl) ?_; clear ha a; intro a ha
            refine stepo ha 61 (by kernel_rfl) ?_; clear ha a; intro a ha
            refine stepo ha 62 (by kernel_rfl) ?_; clear ha a; intro a ha
            refine stepo ha 63 (by kernel_rfl) ?_; clear ha a; intro a ha
            refine stepo ha 64 (by kernel_rfl) ?_; clear ha a; intro a ha
            refine stepp ha 65 (.bool false) (by kernel_rfl) (by kernel_rfl) ?_; clear ha a; intro a ha
            refine stepp ha 66 (.bool false) (by kernel_rfl) (by kernel_rfl) ?_; clear ha a; intro a ha
            refine stepo ha 67 (by kernel_rfl) ?_; clear ha a; intro a ha
            refine stepo ha 68 (by kernel_rfl) ?_; clear ha a; intro a ha
            refine stepo ha 69 (by kernel_rfl) ?_; clear ha a; intro a ha
            refine stepo ha 70 (by kernel_rfl) ?_; clear ha a; intro a ha
            refine stepo ha 71 (by kernel_rfl) ?_; clear ha a; intro a ha
            refine stepp ha 72 (.bool false) (by kernel_rfl) (by kernel_rfl) ?_; clear ha a; intro a ha
            refine stepp ha 73 (.bool false) (by kernel_rfl) (by kernel_rfl) ?_; clear ha a; intro a ha
            refine stepo ha 74 (by kernel_rfl) ?_; clear ha a; intro a ha
            refine stepo ha 75 (by kernel_rfl) ?_; clear ha a; intro a ha
            refine stepo ha 76 (by kernel_rfl) ?_; clear ha a; intro a ha
            refine stepo ha 77 (by kernel_rfl) ?_; clear ha a; intro a ha
            refine stepo ha 78 (by kernel_rfl) ?_; clear ha a; intro a ha
            refine stepp ha 79 (.bool false) (by kernel_rfl) (by kernel_rfl) ?_; clear ha a; intro a ha
            refine stepp ha 80 (.bool false) (by kernel_rfl) (by kernel_rfl) ?_; clear ha a; intro a ha
            refine stepo ha 81 (by kernel_rfl) ?_; clear ha a; intro a ha
            refine stepo ha 82 (by kernel_rfl) ?_; clear ha a; intro a ha
            refine stepo ha 83 (by kernel_rfl) ?_; clear ha a; intro a ha
            refine stepo ha 84 (by kernel_rfl) ?_; clear ha a; intro a ha
            refine stepo ha 85 (by kernel_rfl) ?_; clear ha a; intro a ha
            refine stepp ha 86 (.bool false) (by kernel_rfl) (by kernel_rfl) ?_; clear ha a; intro a ha
            refine stepp ha 87 (.bool false) (by kernel_rfl) (by kernel_rfl) ?_; clear ha a; intro a ha
            refine stepo ha 88 (by kernel_rfl) ?_; clear ha a; intro a ha
            refine stepo ha 89 (by kernel_rfl) ?_; clear ha a; intro a ha
            refine stepo ha 90 (by kernel_rfl) ?_; clear ha a; intro a ha
            refine stepo ha 91 (by kernel_rfl) ?_; clear ha a; intro a ha
            refine stepo ha 92 (by kernel_rfl) ?_; clear ha a; intro a ha
            refine stepp ha 93 (.bool false) (by kernel_rfl) (by kernel_rfl) ?_; clear ha a; intro a ha
            refine stepp ha 94 (.bool false) (by kernel_rfl) (by kernel_rfl) ?_; clear ha a; intro a ha
            refine stepo ha 95 (by kernel_rfl) ?_; clear ha a; intro a ha
            refine stepo ha 96 (by kernel_rfl) ?_; clear ha a; intro a ha
            refine stepo ha 97 (by kernel_rfl) ?_; clear ha a; intro a ha
            refine stepo ha 98 (by kernel_rfl) ?_; clear ha a; intro a ha
            refine stepo ha 99 (by kernel_rfl) ?_; clear ha a; intro a ha
            refine stepp ha 100 (.bool false) (by kernel_rfl) (by kernel_rfl) ?_; clear ha a; intro a ha
            refine stepp ha 4 (.bool false) (by kernel_rfl) (by kernel_rfl) ?_; clear ha a; intro a ha
            refine endl ?_
            refine thenN (hK1424 _ _ ?_); clear hK1424
            refine wp_ret ?_
            obtain rfl := Option.some.inj h
            exact finv ha _ _ rfl (.tmp (v := .bool false) (by kernel_rfl) .nil) (.bool false) rfl ⟨rfl, HW.pick [] [] (by decide) (by decide) rfl (by kernel_rfl)⟩
        · skip
          replace h := ite_neg' h hp1428
          replace ha := ha.bool 31 (by kernel_rfl) (ieq_f hp1428)
          refine stepo ha 32 (by kernel_rfl) ?_; clear ha a; intro a ha
          refine stepo ha 33 (by kernel_rfl) ?_; clear ha a; intro a ha
          refine stepo ha 34 (by kernel_rfl) ?_; clear ha a; intro a ha
          refine stepo ha 35 (by kernel_rfl) ?_; clear ha a; intro a ha
          refine stepo ha 36 (by kernel_rfl) ?_; clear ha a; intro a ha
          refine stepp ha 37 (.bool false) (by kernel_rfl) (by kernel_rfl) ?_; clear ha a; intro a ha
          refine stepp ha 38 (.bool false) (by kernel_rfl) (by kernel_rfl) ?_; clear ha a; intro a ha
          refine stepo ha 39 (by kernel_rfl) ?_; clear ha a; intro a ha
          refine stepo ha 40 (by kernel_rfl) ?_; clear ha a; intro a ha
          refine stepo ha 41 (by kernel_rfl) ?_; clear ha a; intro a ha
          refine stepo ha 42 (by kernel_rfl) ?_; clear ha a; intro a ha
          refine stepo ha 43 (by kernel_rfl) ?_; clear ha a; intro a ha
          refine stepp ha 44 (.bool false) (by kernel_rfl) (by kernel_rfl) ?_; clear ha a; intro a ha
          refine stepp ha 45 (.bool false) (by kernel_rfl) (by kernel_rfl) ?_; clear ha a; intro a ha
          refine stepo ha 46 (by kernel_rfl) ?_; clear ha a; intro a ha
          refine stepo ha 47 (by kernel_rfl) ?_; clear ha a; intro a ha
          refine stepo ha 48 (by kernel_rfl) ?_; clear ha a; intro a ha
          refine stepo ha 49 (by kernel_rfl) ?_; clear ha a; intro a ha
          refine stepo ha 50 (by kernel_rfl) ?_; clear ha a; intro a ha
          refine stepp ha 51 (.bool false) (by kernel_rfl) (by kernel_rfl) ?_; clear ha a; intro a ha
          refine stepp ha 52 (.bool false) (by kernel_rfl) (by kernel_rfl) ?_; clear ha a; intro a ha
          refine stepo ha 53 (by kernel_rfl) ?_; clear ha a; intro a ha
          refine stepo ha 54 (by kernel_rfl) ?_; clear ha a; intro a ha
          refine stepo ha 55 (by kernel_rfl) ?_; clear ha a; intro a ha
          refine stepo ha 56 (by kernel_rfl) ?_; clear ha a; intro a ha
          refine stepo ha 57 (by kernel_rfl) ?_; clear ha a; intro a ha
          refine stepp ha 58 (.bool false) (by kernel_rfl) (by kernel_rfl) ?_; clear ha a; intro a ha
          refine stepp ha 59 (.bool false) (by kernel_rfl) (by kernel_rfl) ?_; clear ha a; intro a ha
          refine stepo ha 60 (by kernel_rfl) ?_; clear ha a; intro a ha
          refine stepo ha 61 (by kernel_rfl) ?_; clear ha a; intro a ha
          refine stepo ha 62 (by kernel_rfl) ?_; clear ha a; intro a ha
          refine stepo ha 63 (by kernel_rfl) ?_; clear ha a; intro a ha
          refine stepo ha 64 (by kernel_rfl) ?_; clear ha a; intro a ha
          refine stepp ha 65 (.bool false) (by kernel_rfl) (by kernel_rfl) ?_; clear ha a; intro a ha
          refine stepp ha 66 (.bool false) (by kernel_rfl) (by kernel_rfl) ?_; clear ha a; intro a ha
          refine stepo ha 67 (by kernel_rfl) ?_; clear ha a; intro a ha
          refine stepo ha 68 (by kernel_rfl) ?_; clear ha a; intro a ha
          refine stepo ha 69 (by kernel_rfl) ?_; clear ha a; intro a ha
          refine stepo ha 70 (by kernel_rfl) ?_; clear ha a; intro a ha
          refine stepo ha 71 (by kernel_rfl) ?_; clear ha a; intro a ha
          refine stepp ha 72 (.bool false) (by kernel_rfl) (by kernel_rfl) ?_; clear ha a; intro a ha
          refine stepp ha 73 (.bool false) (by kernel_rfl) (by kernel_rfl) ?_; clear ha a; intro a ha
          refine stepo ha 74 (by kernel_rfl) ?_; clear ha a; intro a ha
          refine stepo ha 75 (by kernel_rfl) ?_; clear ha a; intro a ha
          refine stepo ha 76 (by kernel_rfl) ?_; clear ha a; intro a ha
          refine stepo ha 77 (by kernel_rfl) ?_; clear ha a; intro a ha
          refine stepo ha 78 (by kernel_rfl) ?_; clear ha a; intro a ha
          refine stepp ha 79 (.bool false) (by kernel_rfl) (by kernel_rfl) ?_; clear ha a; intro a ha
          refine stepp ha 80 (.bool false) (by kernel_rfl) (by kernel_rfl) ?_; clear ha a; intro a ha
          refine stepo ha 81 (by kernel_rfl) ?_; clear ha a; intro a ha
          refine stepo ha 82 (by kernel_rfl) ?_; clear ha a; intro a ha
          refine stepo ha 83 (by kernel_rfl) ?_; clear ha a; intro a ha
          refine stepo ha 84 (by kernel_rfl) ?_; clear ha a; intro a ha
          refine stepo ha 85 (by kernel_rfl) ?_; clear ha a; intro a ha
          refine stepp ha 86 (.bool false) (by kernel_rfl) (by kernel_rfl) ?_; clear ha a; intro a ha
          refine stepp ha 87 (.bool false) (by kernel_rfl) (by kernel_rfl) ?_; clear ha a; intro a ha
          refine stepo ha 88 (by kernel_rfl) ?_; clear ha a; intro a ha
          refine stepo ha 89 (by kernel_rfl) ?_; clear ha a; intro a ha
          refine stepo ha 90 (by kernel_rfl) ?_; clear ha a; intro a ha
          refine stepo ha 91 (by kernel_rfl) ?_; clear ha a; intro a ha
          refine stepo ha 92 (by kernel_rfl) ?_; clear ha a; intro a ha
          refine stepp ha 93 (.bool false) (by kernel_rfl) (by kernel_rfl) ?_; clear ha a; intro a ha
          refine stepp ha 94 (.bool false) (by kernel_rfl) (by kernel_rfl) ?_; clear ha a; intro a ha
          refine stepo ha 95 (by kernel_rfl) ?_; clear ha a; intro a ha
          refine stepo ha 96 (by kernel_rfl) ?_; clear ha a; intro a ha
          refine stepo ha 97 (by kernel_rfl) ?_; clear ha a; intro a ha
          refine stepo ha 98 (by kernel_rfl) ?_; clear ha a; intro a ha
          refine stepo ha 99 (by kernel_rfl) ?_; clear ha a; intro a ha
          refine stepp ha 100 (.bool false) (by kernel_rfl) (by kernel_rfl) ?_; clear ha a; intro a ha
          refine stepp ha 4 (.bool false) (by kernel_rfl) (by kernel_rfl) ?_; clear ha a; intro a ha
          refine endl ?_
          refine thenN (hK1424 _ _ ?_); clear hK1424
          refine wp_ret ?_
          obtain rfl := Option.some.inj h
          exact finv ha _ _ rfl (.tmp (v := .bool false) (by kernel_rfl) .nil) (.bool false) rfl ⟨rfl, HW.pick [] [] (by decide) (by decide) rfl (by kernel_rfl)⟩
      · skip
        replace h := ite_neg' h hp1427
        replace ha := ha.bool 24 (by kernel_rfl) (str_eq_f hp1427)
        refine stepo ha 25 (by kernel_rfl) ?_; clear ha a; intro a ha
        refine stepo ha 26 (by kernel_rfl) ?_; clear ha a; intro a ha
        refine stepo ha 27 (by kernel_rfl) ?_; clear ha a; intro a ha
        refine stepo ha 28 (by kernel_rfl) ?_; clear ha a; intro a ha
        refine stepo ha 29 (by kernel_rfl) ?_; clear ha a; intro a ha
        refine stepp ha 30 (.bool false) (by kernel_rfl) (by kernel_rfl) ?_; clear ha a; intro a ha
        refine stepp ha 31 (.bool false) (by kernel_rfl) (by kernel_rfl) ?_; clear ha a; intro a ha
        refine stepo ha 32 (by kernel_rfl) ?_; clear ha a; intro a ha
        refine stepo ha 33 (by kernel_rfl) ?_; clear ha a; intro a ha
        refine stepo ha 34 (by kernel_rfl) ?_; clear ha a; intro a ha
        refine stepo ha 35 (by kernel_rfl) ?_; clear ha a; intro a ha
        refine stepo ha 36 (by kernel_rfl) ?_; clear ha a; intro a ha
        refine stepp ha 37 (.bool false) (by kernel_rfl) (by kernel_rfl) ?_; clear ha a; intro a ha
        refine stepp ha 38 (.bool false) (by kernel_rfl) (by kernel_rfl) ?_; clear ha a; intro a ha
        refine stepo ha 39 (by kernel_rfl) ?_; clear ha a; intro a ha
        refine stepo ha 40 (by kernel_rfl) ?_; clear ha a; intro a ha
        refine stepo ha 41 (by kernel_rfl) ?_; clear ha a; intro a ha
        refine stepo ha 42 (by kernel_rfl) ?_; clear ha a; intro a ha
        refine stepo ha 43 (by kernel_rfl) ?_; clear ha a; intro a ha
        refine stepp ha 44 (.bool false) (by kernel_rfl) (by kernel_rfl) ?_; clear ha a; intro a ha
        refine stepp ha 45 (.bool false) (by kernel_rfl) (by kernel_rfl) ?_; clear ha a; intro a ha
        refine stepo ha 46 (by kernel_rfl) ?_; clear ha a; intro a ha
        refine stepo ha 47 (by kernel_rfl) ?_; clear ha a; intro a ha
        refine stepo ha 48 (by kernel_rfl) ?_; clear ha a; intro a ha
        refine stepo ha 49 (by kernel_rfl) ?_; clear ha a; intro a ha
        refine stepo ha 50 (by kernel_rfl) ?_; clear ha a; intro a ha
        refine stepp ha 51 (.bool false) (by kernel_rfl) (by kernel_rfl) ?_; clear ha a; intro a ha
        refine stepp ha 52 (.bool false) (by kernel_rfl) (by kernel_rfl) ?_; clear ha a; intro a ha
        refine stepo ha 53 (by kernel_rfl) ?_; clear ha a; intro a ha
        refine stepo ha 54 (by kernel_rfl) ?_; clear ha a; intro a ha
        refine stepo ha 55 (by kernel_rfl) ?_; clear ha a; intro a ha
        refine stepo ha 56 (by kernel_rfl) ?_; clear ha a; intro a ha
        refine stepo ha 57 (by kernel_rfl) ?_; clear ha a; intro a ha
        refine stepp ha 58 (.bool false) (by kernel_rfl) (by kernel_rfl) ?_; clear ha a; intro a ha
        refine stepp ha 59 (.bool false) (by kernel_rfl) (by kernel_rfl) ?_; clear ha a; intro a ha
        refine stepo ha 60 (by kernel_rfl) ?_; clear ha a; intro a ha
        refine stepo ha 61 (by kernel_rfl) ?_; clear ha a; intro a ha
        refine stepo ha 62 (by kernel_rfl) ?_; clear ha a; intro a ha
        refine stepo ha 63 (by kernel_rfl) ?_; clear ha a; intro a ha
        refine stepo ha 64 (by kernel_rfl) ?_; clear ha a; intro a ha
        refine stepp ha 65 (.bool false) (by kernel_rfl) (by kernel_rfl) ?_; clear ha a; intro a ha
        refine stepp ha 66 (.bool false) (by kernel_rfl) (by kernel_rfl) ?_; clear ha a; intro a ha
        refine stepo ha 67 (by kernel_rfl) ?_; clear ha a; intro a ha
        refine stepo ha 68 (by kernel_rfl) ?_; clear ha a; intro a ha
        refine stepo ha 69 (by kernel_rfl) ?_; clear ha a; intro a ha
        refine stepo ha 70 (by kernel_rfl) ?_; clear ha a; intro a ha
        refine stepo ha 71 (by kernel_rfl) ?_; clear ha a; intro a ha
        refine stepp ha 72 (.bool false) (by kernel_rfl) (by kernel_rfl) ?_; clear ha a; intro a ha
        refine stepp ha 73 (.bool false) (by kernel_rfl) (by kernel_rfl) ?_; clear ha a; intro a ha
        refine stepo ha 74 (by kernel_rfl) ?_; clear ha a; intro a ha
        refine stepo ha 75 (by kernel_rfl) ?_; clear ha a; intro a ha
        refine stepo ha 76 (by kernel_rfl) ?_; clear ha a; intro a ha
        refine stepo ha 77 (by kernel_rfl) ?_; clear ha a; intro a ha
        refine stepo ha 78 (by kernel_rfl) ?_; clear ha a; intro a ha
        refine stepp ha 79 (.bool false) (by kernel_rfl) (by kernel_rfl) ?_; clear ha a; intro a ha
        refine stepp ha 80 (.bool false) (by kernel_rfl) (by kernel_rfl) ?_; clear ha a; intro a ha
        refine stepo ha 81 (by kernel_rfl) ?_; clear ha a; intro a ha
        refine stepo ha 82 (by kernel_rfl) ?_; clear ha a; intro a ha
        refine stepo ha 83 (by kernel_rfl) ?_; clear ha a; intro a ha
        refine stepo ha 84 (by kernel_rfl) ?_; clear ha a; intro a ha
        refine stepo ha 85 (by kernel_rfl) ?_; clear ha a; intro a ha
        refine stepp ha 86 (.bool false) (by kernel_rfl) (by kernel_rfl) ?_; clear ha a; intro a ha
        refine stepp ha 87 (.bool false) (by kernel_rfl) (by kernel_rfl) ?_; clear ha a; intro a ha
        refine stepo ha 88 (by kernel_rfl) ?_; clear ha a; intro a ha
        refine stepo ha 89 (by kernel_rfl) ?_; clear ha a; intro a ha
        refine stepo ha 90 (by kernel_rfl) ?_; clear ha a; intro a ha
        refine stepo ha 91 (by kernel_rfl) ?_; clear ha a; intro a ha
        refine stepo ha 92 (by kernel_rfl) ?_; clear ha a; intro a ha
        refine stepp ha 93 (.bool false) (by kernel_rfl) (by kernel_rfl) ?_; clear ha a; intro a ha
        refine stepp ha 94 (.bool false) (by kernel_rfl) (by kernel_rfl) ?_; clear ha a; intro a ha
        refine stepo ha 95 (by kernel_rfl) ?_; clear ha a; intro a ha
        refine stepo ha 96 (by kernel_rfl) ?_; clear ha a; intro a ha
        refine stepo ha 97 (by kernel_rfl) ?_; clear ha a; intro a ha
        refine stepo ha 98 (by kernel_rfl) ?_; clear ha a; intro a ha
        refine stepo ha 99 (by kernel_rfl) ?_; clear ha a; intro a ha
        refine stepp ha 100 (.bool false) (by kernel_rfl) (by kernel_rfl) ?_; clear ha a; intro a ha
        refine stepp ha 4 (.bool false) (by kernel_rfl) (by kernel_rfl) ?_; clear ha a; intro a ha
        refine endl ?_
        refine thenN (hK1424 _ _ ?_); clear hK1424
        refine wp_ret ?_
        obtain rfl := Option.some.inj h
        exact finv ha _ _ rfl (.tmp (v := .bool false) (by kernel_rfl) .nil) (.bool false) rfl ⟨rfl, HW.pick [] [] (by decide) (by decide) rfl (by kernel_rfl)⟩
    · skip
      replace h := ite_neg' h hp1426
      replace ha := ha.bool 17 (by kernel_rfl) (ieq_f hp1426)
      refine stepo ha 18 (by kernel_rfl) ?_; clear ha a; intro a ha
      refine stepo ha 19 (by kernel_rfl) ?_; clear ha a; intro a ha
      refine stepo ha 20 (by kernel_rfl) ?_; clear ha a; intro a ha
      refine stepo ha 21 (by kernel_rfl) ?_; clear ha a; intro a ha
      refine stepo ha 22 (by kernel_rfl) ?_; clear ha a; intro a ha
      refine stepp ha 23 (.bool false) (by kernel_rfl) (by kernel_rfl) ?_; clear ha a; intro a ha
      refine stepp ha 24 (.bool false) (by kernel_rfl) (by kernel_rfl) ?_; clear ha a; intro a ha
      refine stepo ha 25 (by kernel_rfl) ?_; clear ha a; intro a ha
      refine stepo ha 26 (by kernel_rfl) ?_; clear ha a; intro a ha
      refine stepo ha 27 (by kernel_rfl) ?_; clear ha a; intro a ha
      refine stepo ha 28 (by kernel_rfl) ?_; clear ha a; intro a ha
      refine stepo ha 29 (by kernel_rfl) ?_; clear ha a; intro a ha
      refine stepp ha 30 (.bool false) (by kernel_rfl) (by kernel_rfl) ?_; clear ha a; intro a ha
      refine stepp ha 31 (.bool false) (by kernel_rfl) (by kernel_rfl) ?_; clear ha a; intro a ha
      refine stepo ha 32 (by kernel_rfl) ?_; clear ha a; intro a ha
      refine stepo ha 33 (by kernel_rfl) ?_; clear ha a; intro a ha
      refine stepo ha 34 (by kernel_rfl) ?_; clear ha a; intro a ha
      refine stepo ha 35 (by kernel_rfl) ?_; clear ha a; intro a ha
      refine stepo ha 36 (by kernel_rfl) ?_; clear ha a; intro a ha
      refine stepp ha 37 (.bool false) (by kernel_rfl) (by kernel_rfl) ?_; clear ha a; intro a ha
      refine stepp ha 38 (.bool false) (by kernel_rfl) (by kernel_rfl) ?_; clear ha a; intro a ha
      refine stepo ha 39 (by kernel_rfl) ?_; clear ha a; intro a ha
      refine stepo ha 40 (by kernel_rfl) ?_; clear ha a; intro a ha
      refine stepo ha 41 (by kernel_rfl) ?_; clear ha a; intro a ha
      refine stepo ha 42 (by kernel_rfl) ?_; clear ha a; intro a ha
      refine stepo ha 43 (by kernel_rfl) ?_; clear ha a; intro a ha
      refine stepp ha 44 (.bool false) (by kernel_rfl) (by kernel_rfl) ?_; clear ha a; intro a ha
      refine stepp ha 45 (.bool false) (by kernel_rfl) (by kernel_rfl) ?_; clear ha a; intro a ha
      refine stepo ha 46 (by kernel_rfl) ?_; clear ha a; intro a ha
      refine stepo ha 47 (by kernel_rfl) ?_; clear ha a; intro a ha
      refine stepo ha 48 (by kernel_rfl) ?_; clear ha a; intro a ha
      refine stepo ha 49 (by kernel_rfl) ?_; clear ha a; intro a ha
      refine stepo ha 50 (by kernel_rfl) ?_; clear ha a; intro a ha
      refine stepp ha 51 (.bool false) (by kernel_rfl) (by kernel_rfl) ?_; clear ha a; intro a ha
      refine stepp ha 52 (.bool false) (by kernel_rfl) (by kernel_rfl) ?_; clear ha a; intro a ha
      refine stepo ha 53 (by kernel_rfl) ?_; clear ha a; intro a ha
      refine stepo ha 54 (by kernel_rfl) ?_; clear ha a; intro a ha
      refine stepo ha 55 (by kernel_rfl) ?_; clear ha a; intro a ha
      refine stepo ha 56 (by kernel_rfl) ?_; clear ha a; intro a ha
      refine stepo ha 57 (by kernel_rfl) ?_; clear ha a; intro a ha
      refine stepp ha 58 (.bool false) (by kernel_rfl) (by kernel_rfl) ?_; clear ha a; intro a ha
      refine stepp ha 59 (.bool false) (by kernel_rfl) (by kernel_rfl) ?_; clear ha a; intro a ha
      refine stepo ha 60 (by kernel_rfl) ?_; clear ha a; intro a ha
      refine stepo ha 61 (by kernel_rfl) ?_; clear ha a; intro a ha
      refine stepo ha 62 (by kernel_rfl) ?_; clear ha a; intro a ha
      refine stepo ha 63 (by kernel_rfl) ?_; clear ha a; intro a ha
      refine stepo ha 64 (by kernel_rfl) ?_; clear ha a; intro a ha
      refine stepp ha 65 (.bool false) (by kernel_rfl) (by kernel_rfl) ?_; clear ha a; intro a ha
      refine stepp ha 66 (.bool false) (by kernel_rfl) (by kernel_rfl) ?_; clear ha a; intro a ha
      refine stepo ha 67 (by kernel_rfl) ?_; clear ha a; intro a ha
      refine stepo ha 68 (by kernel_rfl) ?_; clear ha a; intro a ha
      refine stepo ha 69 (by kernel_rfl) ?_; clear ha a; intro a ha
      refine stepo ha 70 (by kernel_rfl) ?_; clear ha a; intro a ha
      refine stepo ha 71 (by kernel_rfl) ?_; clear ha a; intro a ha
      refine stepp ha 72 (.bool false) (by kernel_rfl) (by kernel_rfl) ?_; clear ha a; intro a ha
      refine stepp ha 73 (.bool false) (by kernel_rfl) (by kernel_rfl) ?_; clear ha a; intro a ha
      refine stepo ha 74 (by kernel_rfl) ?_; clear ha a; intro a ha
      refine stepo ha 75 (by kernel_rfl) ?_; clear ha a; intro a ha
      refine stepo ha 76 (by kernel_rfl) ?_; clear ha a; intro a ha
      refine stepo ha 77 (by kernel_rfl) ?_; clear ha a; intro a ha
      refine stepo ha 78 (by kernel_rfl) ?_; clear ha a; intro a ha
      refine stepp ha 79 (.bool false) (by kernel_rfl) (by kernel_rfl) ?_; clear ha a; intro a ha
      refine stepp ha 80 (.bool false) (by kernel_rfl) (by kernel_rfl) ?_; clear ha a; intro a ha
      refine stepo ha 81 (by kernel_rfl) ?_; clear ha a; intro a ha
      refine stepo ha 82 (by kernel_rfl) ?_; clear ha a; intro a ha
      refine stepo ha 83 (by kernel_rfl) ?_; clear ha a; intro a ha
      refine stepo ha 84 (by kernel_rfl) ?_; clear ha a; intro a ha
      refine stepo ha 85 (by kernel_rfl) ?_; clear ha a; intro a ha
      refine stepp ha 86 (.bool false) (by kernel_rfl) (by kernel_rfl) ?_; clear ha a; intro a ha
      refine stepp ha 87 (.bool false) (by kernel_rfl) (by kernel_rfl) ?_; clear ha a; intro a ha
      refine stepo ha 88 (by kernel_rfl) ?_; clear ha a; intro a ha
      refine stepo ha 89 (by kernel_rfl) ?_; clear ha a; intro a ha
      refine stepo ha 90 (by kernel_rfl) ?_; clear ha a; intro a ha
      refine stepo ha 91 (by kernel_rfl) ?_; clear ha a; intro a ha
      refine stepo ha 92 (by kernel_rfl) ?_; clear ha a; intro a ha
      refine stepp ha 93 (.bool false) (by kernel_rfl) (by kernel_rfl) ?_; clear ha a; intro a ha
      refine stepp ha 94 (.bool false) (by kernel_rfl) (by kernel_rfl) ?_; clear ha a; intro a ha
      refine stepo ha 95 (by kernel_rfl) ?_; clear ha a; intro a ha
      refine stepo ha 96 (by kernel_rfl) ?_; clear ha a; intro a ha
      refine stepo ha 97 (by kernel_rfl) ?_; clear ha a; intro a ha
      refine stepo ha 98 (by kernel_rfl) ?_; clear ha a; intro a ha
      refine stepo ha 99 (by kernel_rfl) ?_; clear ha a; intro a ha
      refine stepp ha 100 (.bool false) (by kernel_rfl) (by kernel_rfl) ?_; clear ha a; intro a ha
      refine stepp ha 4 (.bool false) (by kernel_rfl) (by kernel_rfl) ?_; clear ha a; intro a ha
      refine endl ?_
      refine thenN (hK1424 _ _ ?_); clear hK1424
      refine wp_ret ?_
      obtain rfl := Option.some.inj h
      exact finv ha _ _ rfl (.tmp (v := .bool false) (by kernel_rfl) .nil) (.bool false) rfl ⟨rfl, HW.pick [] [] (by decide) (by decide) rfl (by kernel_rfl)⟩
  · skip
    replace h := ite_neg' h hp1425
    replace ha := ha.bool 10 (by kernel_rfl) (ieq_f hp1425)
    refine stepo ha 11 (by kernel_rfl) ?_; clear ha a; intro a ha
    refine stepo ha 12 (by kernel_rfl) ?_; clear ha a; intro a ha
    refine stepo ha 13 (by kernel_rfl) ?_; clear ha a; intro a ha
    refine stepo ha 14 (by kernel_rfl) ?_; clear ha a; intro a ha
    refine stepo ha 15 (by kernel_rfl) ?_; clear ha a; intro a ha
    refine stepp ha 16 (.bool false) (by kernel_rfl) (by kernel_rfl) ?_; clear ha a; intro a ha
    refine stepp ha 17 (.bool false) (by kernel_rfl) (by kernel_rfl) ?_; clear ha a; intro a ha
    refine stepo ha 18 (by kernel_rfl) ?_; clear ha a; intro a ha
    refine stepo ha 19 (by kernel_rfl) ?_; clear ha a; intro a ha
    refine stepo ha 20 (by kernel_rfl) ?_; clear ha a; intro a ha
    refine stepo ha 21 (by kernel_rfl) ?_; clear ha a; intro a ha
    refine stepo ha 22 (by kernel_rfl) ?_; clear ha a; intro a ha
    refine stepp ha 23 (.bool false) (by kernel_rfl) (by kernel_rfl) ?_; clear ha a; intro a ha
    refine stepp ha 24 (.bool false) (by kernel_rfl) (by kernel_rfl) ?_; clear ha a; intro a ha
    refine stepo ha 25 (by kernel_rfl) ?_; clear ha a; intro a ha
    refine stepo ha 26 (by kernel_rfl) ?_; clear ha a; intro a ha
    refine stepo ha 27 (by kernel_rfl) ?_; clear ha a; intro a ha
    refine stepo ha 28 (by kernel_rfl) ?_; clear ha a; intro a ha
    refine stepo ha 29 (by kernel_rfl) ?_; clear ha a; intro a ha
    refine stepp ha 30 (.bool false) (by kernel_rfl) (by kernel_rfl) ?_; clear ha a; intro a ha
    refine stepp ha 31 (.bool false) (by kernel_rfl) (by kernel_rfl) ?_; clear ha a; intro a ha
    refine stepo ha 32 (by kernel_rfl) ?_; clear ha a; intro a ha
    refine stepo ha 33 (by kernel_rfl) ?_; clear ha a; intro a ha
    refine stepo ha 34 (by kernel_rfl) ?_; clear ha a; intro a ha
    refine stepo ha 35 (by kernel_rfl) ?_; clear ha a; intro a ha
    refine stepo ha 36 (by kernel_rfl) ?_; clear ha a; intro a ha
    refine stepp ha 37 (.bool false) (by kernel_rfl) (by kernel_rfl) ?_; clear ha a; intro a ha
    refine stepp ha 38 (.bool false) (by kernel_rfl) (by kernel_rfl) ?_; clear ha a; intro a ha
    refine stepo ha 39 (by kernel_rfl) ?_; clear ha a; intro a ha
    refine stepo ha 40 (by kernel_rfl) ?_; clear ha a; intro a ha
    refine stepo ha 41 (by kernel_rfl) ?_; clear ha a; intro a ha
    refine stepo ha 42 (by kernel_rfl) ?_; clear ha a; intro a ha
    refine stepo ha 43 (by kernel_rfl) ?_; clear ha a; intro a ha
    refine stepp ha 44 (.bool false) (by kernel_rfl) (by kernel_rfl) ?_; clear ha a; intro a ha
    refine stepp ha 45 (.bool false) (by kernel_rfl) (by kernel_rfl) ?_; clear ha a; intro a ha
    refine stepo ha 46 (by kernel_rfl) ?_; clear ha a; intro a ha
    refine stepo ha 47 (by kernel_rfl) ?_; clear ha a; intro a ha
    refine stepo ha 48 (by kernel_rfl) ?_; clear ha a; intro a ha
    refine stepo ha 49 (by kernel_rfl) ?_; clear ha a; intro a ha
    refine stepo ha 50 (by kernel_rfl) ?_; clear ha a; intro a ha
    refine stepp ha 51 (.bool false) (by kernel_rfl) (by kernel_rfl) ?_; clear ha a; intro a ha
    refine stepp ha 52 (.bool false) (by kernel_rfl) (by kernel_rfl) ?_; clear ha a; intro a ha
    refine stepo ha 53 (by kernel_rfl) ?_; clear ha a; intro a ha
    refine stepo ha 54 (by kernel_rfl) ?_; clear ha a; intro a ha
    refine stepo ha 55 (by kernel_rfl) ?_; clear ha a; intro a ha
    refine stepo ha 56 (by kernel_rfl) ?_; clear ha a; intro a ha
    refine stepo ha 57 (by kernel_rfl) ?_; clear ha a; intro a ha
    refine stepp ha 58 (.bool false) (by kernel_rfl) (by kernel_rfl) ?_; clear ha a; intro a ha
    refine stepp ha 59 (.bool false) (by kernel_rfl) (by kernel_rfl) ?_; clear ha a; intro a ha
    refine stepo ha 60 (by kernel_rfl) ?_; clear ha a; intro a ha
    refine stepo ha 61 (by kernel_rfl) ?_; clear ha a; intro a ha
    refine stepo ha 62 (by kernel_rfl) ?_; clear ha a; intro a ha
    refine stepo ha 63 (by kernel_rfl) ?_; clear ha a; intro a ha
    refine stepo ha 64 (by kernel_rfl) ?_; clear ha a; intro a ha
    refine stepp ha 65 (.bool false) (by kernel_rfl) (by kernel_rfl) ?_; clear ha a; intro a ha
    refine stepp ha 66 (.bool false) (by kernel_rfl) (by kernel_rfl) ?_; clear ha a; intro a ha
    refine stepo ha 67 (by kernel_rfl) ?_; clear ha a; intro a ha
    refine stepo ha 68 (by kernel_rfl) ?_; clear ha a; intro a ha
    refine stepo ha 69 (by kernel_rfl) ?_; clear ha a; intro a ha
    refine stepo ha 70 (by kernel_rfl) ?_; clear ha a; intro a ha
    refine stepo ha 71 (by kernel_rfl) ?_; clear ha a; intro a ha
    refine stepp ha 72 (.bool false) (by kernel_rfl) (by kernel_rfl) ?_; clear ha a; intro a ha
    refine stepp ha 73 (.bool false) (by kernel_rfl) (by kernel_rfl) ?_; clear ha a; intro a ha
    refine stepo ha 74 (by kernel_rfl) ?_; clear ha a; intro a ha
    refine stepo ha 75 (by kernel_rfl) ?_; clear ha a; intro a ha
    refine stepo ha 76 (by kernel_rfl) ?_; clear ha a; intro a ha
    refine stepo ha 77 (by kernel_rfl) ?_; clear ha a; intro a ha
    refine stepo ha 78 (by kernel_rfl) ?_; clear ha a; intro a ha
    refine stepp ha 79 (.bool false) (by kernel_rfl) (by kernel_rfl) ?_; clear ha a; intro a ha
    refine stepp ha 80 (.bool false) (by kernel_rfl) (by kernel_rfl) ?_; clear ha a; intro a ha
    refine stepo ha 81 (by kernel_rfl) ?_; clear ha a; intro a ha
    refine stepo ha 82 (by kernel_rfl) ?_; clear ha a; intro a ha
    refine stepo ha 83 (by kernel_rfl) ?_; clear ha a; intro a ha
    refine stepo ha 84 (by kernel_rfl) ?_; clear ha a; intro a ha
    refine stepo ha 85 (by kernel_rfl) ?_; clear ha a; intro a ha
    refine stepp ha 86 (.bool false) (by kernel_rfl) (by kernel_rfl) ?_; clear ha a; intro a ha
    refine stepp ha 87 (.bool false) (by kernel_rfl) (by kernel_rfl) ?_; clear ha a; intro a ha
    refine stepo ha 88 (by kernel_rfl) ?_; clear ha a; intro a ha
    refine stepo ha 89 (by kernel_rfl) ?_; clear ha a; intro a ha
    refine stepo ha 90 (by kernel_rfl) ?_; clear ha a; intro a ha
    refine stepo ha 91 (by kernel_rfl) ?_; clear ha a; intro a ha
    refine stepo ha 92 (by kernel_rfl) ?_; clear ha a; intro a ha
    refine stepp ha 93 (.bool false) (by kernel_rfl) (by kernel_rfl) ?_; clear ha a; intro a ha
    refine stepp ha 94 (.bool false) (by kernel_rfl) (by kernel_rfl) ?_; clear ha a; intro a ha
    refine stepo ha 95 (by kernel_rfl) ?_; clear ha a; intro a ha
    refine stepo ha 96 (by kernel_rfl) ?_; clear ha a; intro a ha
    refine stepo ha 97 (by kernel_rfl) ?_; clear ha a; intro a ha
    refine stepo ha 98 (by kernel_rfl) ?_; clear ha a; intro a ha
    refine stepo ha 99 (by kernel_rfl) ?_; clear ha a; intro a ha
    refine stepp ha 100 (.bool false) (by kernel_rfl) (by kernel_rfl) ?_; clear ha a; intro a ha
    refine stepp ha 4 (.bool false) (by kernel_rfl) (by kernel_rfl) ?_; clear ha a; intro a ha
    refine endl ?_
    refine thenN (hK1424 _ _ ?_); clear hK1424
    refine wp_ret ?_
    obtain rfl := Option.some.inj h
    exact finv ha _ _ rfl (.tmp (v := .bool false) (by kernel_rfl) .nil) (.bool false) rfl ⟨rfl, HW.pick [] [] (by decide) (by decide) rfl (by kernel_rfl)⟩
end Go.Proofs.Ytceagilmillgfaa.F
