/- headgate/headgatelaw18.large: a plain function, and that the call comes to what it says. No condition. -/
import Derived.Test.YtceagilmillgfaaFT
namespace Go.Proofs.Ytceagilmillgfaa.F
open Go Go.RowKit Go.Proofs.Ytceagilmillgfaa.X
set_option linter.unusedVariables false
set_option linter.unusedSimpArgs false
/-! ### headgate/headgatelaw18.large: function 5 -/
def headgatelaw18_large.f (a0 : T_api_Cmd) : Option Bool :=
  if (a0.f2.size : Int) > 1000 then (some true) else (if (a0.f5.size : Int) > 1000 then (some true) else (some (decide ((a0.f7.length : Int) > 100))))
set_option maxRecDepth 100000 in
set_option maxHeartbeats 4000000 in
theorem headgatelaw18_large.calls (a0 : T_api_Cmd) (A0_0 : Option Addr) (c0_0 : Nat) (r : Bool) (w : World) (hr0_0 : Rd 2 w (.slice A0_0 a0.f7.length c0_0) a0.f7.length (encs T_api_Range.enc a0.f7)) (h : headgatelaw18_large.f a0 = some r) :
    Calls Try.prog 5 #[.agg #[.int .i64 a0.f0, .int .i64 a0.f1, .string a0.f2, .int .i64 a0.f3, .int .i64 a0.f4, .string a0.f5, .bool a0.f6, .slice A0_0 a0.f7.length c0_0, .int .u64 a0.f8, .int .u64 a0.f9, .int .u64 a0.f10, .int .i64 a0.f11, .bool a0.f12, .int .i64 a0.f13]] w (fun e W' => e = .returned (.bool r) ∧ Wd w W' [] [] ) := by
  refine sxstart (n := 19) (l := [(0, .agg #[.int .i64 a0.f0, .int .i64 a0.f1, .string a0.f2, .int .i64 a0.f3, .int .i64 a0.f4, .string a0.f5, .bool a0.f6, .slice A0_0 a0.f7.length c0_0, .int .u64 a0.f8, .int .u64 a0.f9, .int .u64 a0.f10, .int .i64 a0.f11, .bool a0.f12, .int .i64 a0.f13])]) Try.func5 rfl rfl (Nat.le_of_ble_eq_true (by kernel_rfl)) (subsA_cons rfl (subsA_nil _)) ?_
  intro a ha
  have HW := Wd.refl w
  unfold headgatelaw18_large.f at h
  refine wp_seq_k (fun K1 hK2 => ?_)
  refine wp_region_lit ?_
  refine stepnew ha HW 1 #[.int .i64 a0.f0, .int .i64 a0.f1, .string a0.f2, .int .i64 a0.f3, .int .i64 a0.f4, .string a0.f5, .bool a0.f6, .slice A0_0 a0.f7.length c0_0, .int .u64 a0.f8, .int .u64 a0.f9, .int .u64 a0.f10, .int .i64 a0.f11, .bool a0.f12, .int .i64 a0.f13] 26 (by kernel_rfl) (by kernel_rfl) ?_; clear ha HW a; intro b3 a W4 HW ha
  refine stepp ha 2 (.bool false) (by kernel_rfl) (by kernel_rfl) ?_; clear ha a; intro a ha
  refine endl ?_
  refine thenN (hK2 _ _ ?_); clear hK2
  refine wp_seq_k (fun K5 hK6 => ?_)
  refine wp_region_lit ?_
  refine stepp ha 3 (.pointer (some ⟨b3, 2, none⟩)) (by kernel_rfl) (by kernel_rfl) ?_; clear ha a; intro a ha
  refine stepl ha 4 (HW.ca (i := 0) (b := b3) (C := #[.int .i64 a0.f0, .int .i64 a0.f1, .string a0.f2, .int .i64 a0.f3, .int .i64 a0.f4, .string a0.f5, .bool a0.f6, .slice A0_0 a0.f7.length c0_0, .int .u64 a0.f8, .int .u64 a0.f9, .int .u64 a0.f10, .int .i64 a0.f11, .bool a0.f12, .int .i64 a0.f13]) (T := 26) (fr := (0, 0)) (by kernel_rfl)) 9 2 (.tmp 3) (.string a0.f2) rfl (by kernel_rfl) (by kernel_rfl) (by kernel_rfl) ?_; clear ha a; intro a ha
  refine stepp ha 5 (.int .i64 (a0.f2.size : Int)) (by kernel_rfl) (by kernel_rfl) ?_; clear ha a; intro a ha
  refine stepp ha 6 (.bool (decide ((a0.f2.size : Int) > 1000))) (by kernel_rfl) (by kernel_rfl) ?_; clear ha a; intro a ha
  refine stepp ha 7 (.bool (decide ((a0.f2.size : Int) > 1000))) (by kernel_rfl) (by kernel_rfl) ?_; clear ha a; intro a ha
  by_cases hp7 : (a0.f2.size : Int) > 1000
  · skip
    replace h := ite_pos' h hp7
    replace ha := ha.bool 7 (by kernel_rfl) (decide_eq_true hp7)
    refine stepo ha 8 (by kernel_rfl) ?_; clear ha a; intro a ha
    refine stepo ha 9 (by kernel_rfl) ?_; clear ha a; intro a ha
    refine stepo ha 10 (by kernel_rfl) ?_; clear ha a; intro a ha
    refine stepo ha 11 (by kernel_rfl) ?_; clear ha a; intro a ha
    refine stepp ha 12 (.bool true) (by kernel_rfl) (by kernel_rfl) ?_; clear ha a; intro a ha
    refine stepp ha 13 (.bool true) (by kernel_rfl) (by kernel_rfl) ?_; clear ha a; intro a ha
    refine stepo ha 14 (by kernel_rfl) ?_; clear ha a; intro a ha
    refine stepo ha 15 (by kernel_rfl) ?_; clear ha a; intro a ha
    refine stepo ha 16 (by kernel_rfl) ?_; clear ha a; intro a ha
    refine stepo ha 17 (by kernel_rfl) ?_; clear ha a; intro a ha
    refine stepp ha 18 (.bool true) (by kernel_rfl) (by kernel_rfl) ?_; clear ha a; intro a ha
    refine stepp ha 2 (.bool true) (by kernel_rfl) (by kernel_rfl) ?_; clear ha a; intro a ha
    refine endl ?_
    refine thenN (hK6 _ _ ?_); clear hK6
    refine wp_ret ?_
    obtain rfl := Option.some.inj h
    exact finv ha _ _ rfl (.tmp (v := .bool true) (by kernel_rfl) .nil) (.bool true) rfl ⟨rfl, HW.pick [] [] (by decide) (by decide) rfl (by kernel_rfl)⟩
  · skip
    replace h := ite_neg' h hp7
    replace ha := ha.bool 7 (by kernel_rfl) (decide_eq_false hp7)
    refine stepp ha 8 (.pointer (some ⟨b3, 5, none⟩)) (by kernel_rfl) (by kernel_rfl) ?_; clear ha a; intro a ha
    refine stepl ha 9 (HW.ca (i := 0) (b := b3) (C := #[.int .i64 a0.f0, .int .i64 a0.f1, .string a0.f2, .int .i64 a0.f3, .int .i64 a0.f4, .string a0.f5, .bool a0.f6, .slice A0_0 a0.f7.length c0_0, .int .u64 a0.f8, .int .u64 a0.f9, .int .u64 a0.f10, .int .i64 a0.f11, .bool a0.f12, .int .i64 a0.f13]) (T := 26) (fr := (0, 0)) (by kernel_rfl)) 9 5 (.tmp 8) (.string a0.f5) rfl (by kernel_rfl) (by kernel_rfl) (by kernel_rfl) ?_; clear ha a; intro a ha
    refine stepp ha 10 (.int .i64 (a0.f5.size : Int)) (by kernel_rfl) (by kernel_rfl) ?_; clear ha a; intro a ha
    refine stepp ha 11 (.bool (decide ((a0.f5.size : Int) > 1000))) (by kernel_rfl) (by kernel_rfl) ?_; clear ha a; intro a ha
    refine stepp ha 12 (.bool (decide ((a0.f5.size : Int) > 1000))) (by kernel_rfl) (by kernel_rfl) ?_; clear ha a; intro a ha
    refine stepp ha 13 (.bool (decide ((a0.f5.size : Int) > 1000))) (by kernel_rfl) (by kernel_rfl) ?_; clear ha a; intro a ha
    by_cases hp8 : (a0.f5.size : Int) > 1000
    · skip
      replace h := ite_pos' h hp8
      replace ha := ha.bool 13 (by kernel_rfl) (decide_eq_true hp8)
      refine stepo ha 14 (by kernel_rfl) ?_; clear ha a; intro a ha
      refine stepo ha 15 (by kernel_rfl) ?_; clear ha a; intro a ha
      refine stepo ha 16 (by kernel_rfl) ?_; clear ha a; intro a ha
      refine stepo ha 17 (by kernel_rfl) ?_; clear ha a; intro a ha
      refine stepp ha 18 (.bool true) (by kernel_rfl) (by kernel_rfl) ?_; clear ha a; intro a ha
      refine stepp ha 2 (.bool true) (by kernel_rfl) (by kernel_rfl) ?_; clear ha a; intro a ha
      refine endl ?_
      refine thenN (hK6 _ _ ?_); clear hK6
      refine wp_ret ?_
      obtain rfl := Option.some.inj h
      exact finv ha _ _ rfl (.tmp (v := .bool true) (by kernel_rfl) .nil) (.bool true) rfl ⟨rfl, HW.pick [] [] (by decide) (by decide) rfl (by kernel_rfl)⟩
    · skip
      replace h := ite_neg' h hp8
      replace ha := ha.bool 13 (by kernel_rfl) (decide_eq_false hp8)
      refine stepp ha 14 (.pointer (some ⟨b3, 7, none⟩)) (by kernel_rfl) (by kernel_rfl) ?_; clear ha a; intro a ha
      refine stepl ha 15 (HW.ca (i := 0) (b := b3) (C := #[.int .i64 a0.f0, .int .i64 a0.f1, .string a0.f2, .int .i64 a0.f3, .int .i64 a0.f4, .string a0.f5, .bool a0.f6, .slice A0_0 a0.f7.length c0_0, .int .u64 a0.f8, .int .u64 a0.f9, .int .u64 a0.f10, .int .i64 a0.f11, .bool a0.f12, .int .i64 a0.f13]) (T := 26) (fr := (0, 0)) (by kernel_rfl)) 23 7 (.tmp 14) (.slice A0_0 a0.f7.length c0_0) rfl (by kernel_rfl) (by kernel_rfl) (by kernel_rfl) ?_; clear ha a; intro a ha
      refine stepp ha 16 (.int .i64 (a0.f7.length : Int)) (by kernel_rfl) (by kernel_rfl) ?_; clear ha a; intro a ha
      refine stepp ha 17 (.bool (decide ((a0.f7.length : Int) > 100))) (by kernel_rfl) (by kernel_rfl) ?_; clear ha a; intro a ha
      refine stepp ha 18 (.bool (decide ((a0.f7.length : Int) > 100))) (by kernel_rfl) (by kernel_rfl) ?_; clear ha a; intro a ha
      refine stepp ha 2 (.bool (decide ((a0.f7.length : Int) > 100))) (by kernel_rfl) (by kernel_rfl) ?_; clear ha a; intro a ha
      refine endl ?_
      refine thenN (hK6 _ _ ?_); clear hK6
      refine wp_ret ?_
      obtain rfl := Option.some.inj h
      exact finv ha _ _ rfl (.tmp (v := .bool (decide ((a0.f7.length : Int) > 100))) (by kernel_rfl) .nil) (.bool (decide ((a0.f7.length : Int) > 100))) rfl ⟨rfl, HW.pick [] [] (by decide) (by decide) rfl (by kernel_rfl)⟩
end Go.Proofs.Ytceagilmillgfaa.F
