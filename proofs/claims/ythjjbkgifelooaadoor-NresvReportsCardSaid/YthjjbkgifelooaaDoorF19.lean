/- headgate/headgatekeep.Tables: plain functions, and that the calls come to what they say. No condition. -/
import Derived.Test.YthjjbkgifelooaaDoorFT
import Derived.Test.YthjjbkgifelooaaDoorF16
namespace Go.Proofs.YthjjbkgifelooaaDoor.F
open Go Go.RowKit Go.Proofs.YthjjbkgifelooaaDoor.X
set_option linter.unusedVariables false
set_option linter.unusedSimpArgs false
/-! ### headgate/headgatekeep.Tables: function 19 -/
def headgatekeep_Tables.f (K : Nat) (a0 : T_api_Table) (a1 : T_api_Table) : Option Bool :=
  (headgatekeep_Regs.f K a0.f0 a1.f0).bind fun t2240 => (if t2240 = true then (if a0.f1.f0 = a1.f1.f0 then (if a0.f1.f1 = a1.f1.f1 then (if a0.f2 = a1.f2 then (some (a0.f3 == a1.f3)) else (some false)) else (some false)) else (some false)) else (some false))
set_option maxRecDepth 100000 in
set_option maxHeartbeats 4000000 in
theorem headgatekeep_Tables.calls (K : Nat) (a0 : T_api_Table) (a1 : T_api_Table) (A0_0 : Option Addr) (c0_0 : Nat) (A1_1 : Option Addr) (c1_1 : Nat) (r : Bool) (w : World) (hr0_0 : Rd 2 w (.slice A0_0 a0.f0.length c0_0) a0.f0.length (encs T_api_Reg.enc a0.f0)) (hr1_1 : Rd 2 w (.slice A1_1 a1.f0.length c1_1) a1.f0.length (encs T_api_Reg.enc a1.f0)) (h : headgatekeep_Tables.f K a0 a1 = some r) :
    Calls Tryd.prog 19 #[.agg #[.slice A0_0 a0.f0.length c0_0, .int .i64 a0.f1.f0, .string a0.f1.f1, .int .u32 a0.f2, .bool a0.f3], .agg #[.slice A1_1 a1.f0.length c1_1, .int .i64 a1.f1.f0, .string a1.f1.f1, .int .u32 a1.f2, .bool a1.f3]] w (fun e W' => e = .returned (.bool r) ∧ Wd w W' [] [] ) := by
  refine sxstart (n := 42) (l := [(0, .agg #[.slice A0_0 a0.f0.length c0_0, .int .i64 a0.f1.f0, .string a0.f1.f1, .int .u32 a0.f2, .bool a0.f3]), (1, .agg #[.slice A1_1 a1.f0.length c1_1, .int .i64 a1.f1.f0, .string a1.f1.f1, .int .u32 a1.f2, .bool a1.f3])]) Tryd.func19 rfl rfl (Nat.le_of_ble_eq_true KR) (subsA_cons rfl (subsA_cons rfl (subsA_nil _))) ?_
  intro a ha
  have HW := Wd.refl w
  unfold headgatekeep_Tables.f at h
  refine wp_seq_k (fun K2232 hK2233 => ?_)
  refine wp_region_lit ?_
  refine stepnew ha HW 2 #[.slice A0_0 a0.f0.length c0_0, .int .i64 a0.f1.f0, .string a0.f1.f1, .int .u32 a0.f2, .bool a0.f3] 27 KR KR ?_; clear ha HW a; intro b2234 a W2235 HW ha
  refine stepnew ha HW 3 #[.slice A1_1 a1.f0.length c1_1, .int .i64 a1.f1.f0, .string a1.f1.f1, .int .u32 a1.f2, .bool a1.f3] 27 KR KR ?_; clear ha HW a; intro b2236 a W2237 HW ha
  refine stepp ha 4 (.bool false) KR KR ?_; clear ha a; intro a ha
  refine endl ?_
  refine thenN (hK2233 _ _ ?_); clear hK2233
  refine wp_seq_k (fun K2238 hK2239 => ?_)
  refine wp_region_lit ?_
  refine stepp ha 5 (.pointer (some ⟨b2234, 0, none⟩)) KR KR ?_; clear ha a; intro a ha
  refine stepl ha 6 (HW.ca (i := 1) (b := b2234) (C := #[.slice A0_0 a0.f0.length c0_0, .int .i64 a0.f1.f0, .string a0.f1.f1, .int .u32 a0.f2, .bool a0.f3]) (T := 27) (fr := (0, 0)) KR) 22 0 (.tmp 5) (.slice A0_0 a0.f0.length c0_0) rfl KR KR KR ?_; clear ha a; intro a ha
  refine stepp ha 7 (.pointer (some ⟨b2236, 0, none⟩)) KR KR ?_; clear ha a; intro a ha
  refine stepl ha 8 (HW.ca (i := 0) (b := b2236) (C := #[.slice A1_1 a1.f0.length c1_1, .int .i64 a1.f1.f0, .string a1.f1.f1, .int .u32 a1.f2, .bool a1.f3]) (T := 27) (fr := (0, 0)) KR) 22 0 (.tmp 7) (.slice A1_1 a1.f0.length c1_1) rfl KR KR KR ?_; clear ha a; intro a ha
  obtain ⟨t2240, ht2241, h_⟩ := bind_some' h; clear h; have h := h_; clear h_
  refine stepc ha 9 KR KR (headgatekeep_Regs.calls K a0.f0 a1.f0 A0_0 c0_0 A1_1 c1_1 t2240 _ ((HW.rd0 hr0_0)) ((HW.rd0 hr1_1)) ht2241) ?_; clear ha a; rintro e W2242 ⟨rfl, HX2243⟩
  refine ⟨_, rfl, ?_⟩; intro a ha; replace HW := HW.callw HX2243; clear HX2243
  refine stepp ha 10 (.bool t2240) KR KR ?_; clear ha a; intro a ha
  by_cases hp2244 : t2240 = true
  · skip
    replace h := ite_pos' h hp2244
    replace ha := ha.bool 10 KR (hp2244)
    refine stepp ha 11 (.pointer (some ⟨b2234, 1, none⟩)) KR KR ?_; clear ha a; intro a ha
    refine stepp ha 12 (.pointer (some ⟨b2234, 1, none⟩)) KR KR ?_; clear ha a; intro a ha
    refine stepl ha 13 (HW.ca (i := 1) (b := b2234) (C := #[.slice A0_0 a0.f0.length c0_0, .int .i64 a0.f1.f0, .string a0.f1.f1, .int .u32 a0.f2, .bool a0.f3]) (T := 27) (fr := (0, 0)) KR) 3 1 (.tmp 12) (.int .i64 a0.f1.f0) rfl KR KR KR ?_; clear ha a; intro a ha
    refine stepp ha 14 (.pointer (some ⟨b2236, 1, none⟩)) KR KR ?_; clear ha a; intro a ha
    refine stepp ha 15 (.pointer (some ⟨b2236, 1, none⟩)) KR KR ?_; clear ha a; intro a ha
    refine stepl ha 16 (HW.ca (i := 0) (b := b2236) (C := #[.slice A1_1 a1.f0.length c1_1, .int .i64 a1.f1.f0, .string a1.f1.f1, .int .u32 a1.f2, .bool a1.f3]) (T := 27) (fr := (0, 0)) KR) 3 1 (.tmp 15) (.int .i64 a1.f1.f0) rfl KR KR KR ?_; clear ha a; intro a ha
    refine stepp ha 17 (.bool (a0.f1.f0 == a1.f1.f0)) KR KR ?_; clear ha a; intro a ha
    refine stepp ha 18 (.bool (a0.f1.f0 == a1.f1.f0)) KR KR ?_; clear ha a; intro a ha
    refine stepp ha 19 (.bool (a0.f1.f0 == a1.f1.f0)) KR KR ?_; clear ha a; intro a ha
    by_cases hp2245 : a0.f1.f0 = a1.f1.f0
    · skip
      replace h := ite_pos' h hp2245
      replace ha := ha.bool 19 KR (ieq_t hp2245)
      refine stepp ha 20 (.pointer (some ⟨b2234, 1, none⟩)) KR KR ?_; clear ha a; intro a ha
      refine stepp ha 21 (.pointer (some ⟨b2234, 2, none⟩)) KR KR ?_; clear ha a; intro a ha
      refine stepl ha 22 (HW.ca (i := 1) (b := b2234) (C := #[.slice A0_0 a0.f0.length c0_0, .int .i64 a0.f1.f0, .string a0.f1.f1, .int .u32 a0.f2, .bool a0.f3]) (T := 27) (fr := (0, 0)) KR) 9 2 (.tmp 21) (.string a0.f1.f1) rfl KR KR KR ?_; clear ha a; intro a ha
      refine stepp ha 23 (.pointer (some ⟨b2236, 1, none⟩)) KR KR ?_; clear ha a; intro a ha
      refine stepp ha 24 (.pointer (some ⟨b2236, 2, none⟩)) KR KR ?_; clear ha a; intro a ha
      refine stepl ha 25 (HW.ca (i := 0) (b := b2236) (C := #[.slice A1_1 a1.f0.length c1_1, .int .i64 a1.f1.f0, .string a1.f1.f1, .int .u32 a1.f2, .bool a1.f3]) (T := 27) (fr := (0, 0)) KR) 9 2 (.tmp 24) (.string a1.f1.f1) rfl KR KR KR ?_; clear ha a; intro a ha
      refine stepp ha 26 (.bool (a0.f1.f1.toList == a1.f1.f1.toList)) KR KR ?_; clear ha a; intro a ha
      refine stepp ha 27 (.bool (a0.f1.f1.toList == a1.f1.f1.toList)) KR KR ?_; clear ha a; intro a ha
      refine stepp ha 28 (.bool (a0.f1.f1.toList == a1.f1.f1.toList)) KR KR ?_; clear ha a; intro a ha
      by_cases hp2246 : a0.f1.f1 = a1.f1.f1
      · skip
        replace h := ite_pos' h hp2246
        replace ha := ha.bool 28 KR (str_eq_t hp2246)
        refine stepp ha 29 (.pointer (some ⟨b2234, 3, none⟩)) KR KR ?_; clear ha a; intro a ha
        refine stepl ha 30 (HW.ca (i := 1) (b := b2234) (C := #[.slice A0_0 a0.f0.length c0_0, .int .i64 a0.f1.f0, .string a0.f1.f1, .int .u32 a0.f2, .bool a0.f3]) (T := 27) (fr := (0, 0)) KR) 25 3 (.tmp 29) (.int .u32 a0.f2) rfl KR KR KR ?_; clear ha a; intro a ha
        refine stepp ha 31 (.pointer (some ⟨b2236, 3, none⟩)) KR KR ?_; clear ha a; intro a ha
        refine stepl ha 32 (HW.ca (i := 0) (b := b2236) (C := #[.slice A1_1 a1.f0.length c1_1, .int .i64 a1.f1.f0, .string a1.f1.f1, .int .u32 a1.f2, .bool a1.f3]) (T := 27) (fr := (0, 0)) KR) 25 3 (.tmp 31) (.int .u32 a1.f2) rfl KR KR KR ?_; clear ha a; intro a ha
        refine stepp ha 33 (.bool (a0.f2 == a1.f2)) KR KR ?_; clear ha a; intro a ha
        refine stepp ha 34 (.bool (a0.f2 == a1.f2)) KR KR ?_; clear ha a; intro a ha
        refine stepp ha 35 (.bool (a0.f2 == a1.f2)) KR KR ?_; clear ha a; intro a ha
        by_cases hp2247 : a0.f2 = a1.f2
        · skip
          replace h := ite_pos' h hp2247
          replace ha := ha.bool 35 KR (ieq_t hp2247)
          refine stepp ha 36 (.pointer (some ⟨b2234, 4, none⟩)) KR KR ?_; clear ha a; intro a ha
          refine stepl ha 37 (HW.ca (i := 1) (b := b2234) (C := #[.slice A0_0 a0.f0.length c0_0, .int .i64 a0.f1.f0, .string a0.f1.f1, .int .u32 a0.f2, .bool a0.f3]) (T := 27) (fr := (0, 0)) KR) 4 4 (.tmp 36) (.bool a0.f3) rfl KR KR KR ?_; clear ha a; intro a ha
          refine stepp ha 38 (.pointer (some ⟨b2236, 4, none⟩)) KR KR ?_; clear ha a; intro a ha
          refine stepl ha 39 (HW.ca (i := 0) (b := b2236) (C := #[.slice A1_1 a1.f0.length c1_1, .int .i64 a1.f1.f0, .string a1.f1.f1, .int .u32 a1.f2, .bool a1.f3]) (T := 27) (fr := (0, 0)) KR) 4 4 (.tmp 38) (.bool a1.f3) rfl KR KR KR ?_; clear ha a; intro a ha
          refine stepp ha 40 (.bool (a0.f3 == a1.f3)) KR KR ?_; clear ha a; intro a ha
          refine stepp ha 41 (.bool (a0.f3 == a1.f3)) KR KR ?_; clear ha a; intro a ha
          refine stepp ha 4 (.bool (a0.f3 == a1.f3)) KR KR ?_; clear ha a; intro a ha
          refine endl ?_
          refine thenN (hK2239 _ _ ?_); clear hK2239
          refine wp_ret ?_
          obtain rfl := Option.some.inj h
          exact finv ha _ _ rfl (.tmp (v := .bool (a0.f3 == a1.f3)) KR .nil) (.bool (a0.f3 == a1.f3)) rfl ⟨rfl, HW.pick [] [] (by decide) (by decide) rfl KR⟩
        · skip
          replace h := ite_neg' h hp2247
          replace ha := ha.bool 35 KR (ieq_f hp2247)
          refine stepo ha 36 KR ?_; clear ha a; intro a ha
          refine stepo ha 37 KR ?_; clear ha a; intro a ha
          refine stepo ha 38 KR ?_; clear ha a; intro a ha
          refine stepo ha 39 KR ?_; clear ha a; intro a ha
          refine stepo ha 40 KR ?_; clear ha a; intro a ha
          refine stepp ha 41 (.bool false) KR KR ?_; clear ha a; intro a ha
          refine stepp ha 4 (.bool false) KR KR ?_; clear ha a; intro a ha
          refine endl ?_
          refine thenN (hK2239 _ _ ?_); clear hK2239
          refine wp_ret ?_
          obtain rfl := Option.some.inj h
          exact finv ha _ _ rfl (.tmp (v := .bool false) KR .nil) (.bool false) rfl ⟨rfl, HW.pick [] [] (by decide) (by decide) rfl KR⟩
      · skip
        replace h := ite_neg' h hp2246
        replace ha := ha.bool 28 KR (str_eq_f hp2246)
        refine stepo ha 29 KR ?_; clear ha a; intro a ha
        refine stepo ha 30 KR ?_; clear ha a; intro a ha
        refine stepo ha 31 KR ?_; clear ha a; intro a ha
        refine stepo ha 32 KR ?_; clear ha a; intro a ha
        refine stepo ha 33 KR ?_; clear ha a; intro a ha
        refine stepp ha 34 (.bool false) KR KR ?_; clear ha a; intro a ha
        refine stepp ha 35 (.bool false) KR KR ?_; clear ha a; intro a ha
        refine stepo ha 36 KR ?_; clear ha a; intro a ha
        refine stepo ha 37 KR ?_; clear ha a; intro a ha
        refine stepo ha 38 KR ?_; clear ha a; intro a ha
        refine stepo ha 39 KR ?_; clear ha a; intro a ha
        refine stepo ha 40 KR ?_; clear ha a; intro a ha
        refine stepp ha 41 (.bool false) KR KR ?_; clear ha a; intro a ha
        refine stepp ha 4 (.bool false) KR KR ?_; clear ha a; intro a ha
        refine endl ?_
        refine thenN (hK2239 _ _ ?_); clear hK2239
        refine wp_ret ?_
        obtain rfl := Option.some.inj h
        exact finv ha _ _ rfl (.tmp (v := .bool false) KR .nil) (.bool false) rfl ⟨rfl, HW.pick [] [] (by decide) (by decide) rfl KR⟩
    · skip
      replace h := ite_neg' h hp2245
      replace ha := ha.bool 19 KR (ieq_f hp2245)
      refine stepo ha 20 KR ?_; clear ha a; intro a ha
      refine stepo ha 21 KR ?_; clear ha a; intro a ha
      refine stepo ha 22 KR ?_; clear ha a; intro a ha
      refine stepo ha 23 KR ?_; clear ha a; intro a ha
      refine stepo ha 24 KR ?_; clear ha a; intro a ha
      refine stepo ha 25 KR ?_; clear ha a; intro a ha
      refine stepo ha 26 KR ?_; clear ha a; intro a ha
      refine stepp ha 27 (.bool false) KR KR ?_; clear ha a; intro a ha
      refine stepp ha 28 (.bool false) KR KR ?_; clear ha a; intro a ha
      refine stepo ha 29 KR ?_; clear ha a; intro a ha
      refine stepo ha 30 KR ?_; clear ha a; intro a ha
      refine stepo ha 31 KR ?_; clear ha a; intro a ha
      refine stepo ha 32 KR ?_; clear ha a; intro a ha
      refine stepo ha 33 KR ?_; clear ha a; intro a ha
      refine stepp ha 34 (.bool false) KR KR ?_; clear ha a; intro a ha
      refine stepp ha 35 (.bool false) KR KR ?_; clear ha a; intro a ha
      refine stepo ha 36 KR ?_; clear ha a; intro a ha
      refine stepo ha 37 KR ?_; clear ha a; intro a ha
      refine stepo ha 38 KR ?_; clear ha a; intro a ha
      refine stepo ha 39 KR ?_; clear ha a; intro a ha
      refine stepo ha 40 KR ?_; clear ha a; intro a ha
      refine stepp ha 41 (.bool false) KR KR ?_; clear ha a; intro a ha
      refine stepp ha 4 (.bool false) KR KR ?_; clear ha a; intro a ha
      refine endl ?_
      refine thenN (hK2239 _ _ ?_); clear hK2239
      refine wp_ret ?_
      obtain rfl := Option.some.inj h
      exact finv ha _ _ rfl (.tmp (v := .bool false) KR .nil) (.bool false) rfl ⟨rfl, HW.pick [] [] (by decide) (by decide) rfl KR⟩
  · skip
    replace h := ite_neg' h hp2244
    replace ha := ha.bool 10 KR (bool_f hp2244)
    refine stepo ha 11 KR ?_; clear ha a; intro a ha
    refine stepo ha 12 KR ?_; clear ha a; intro a ha
    refine stepo ha 13 KR ?_; clear ha a; intro a ha
    refine stepo ha 14 KR ?_; clear ha a; intro a ha
    refine stepo ha 15 KR ?_; clear ha a; intro a ha
    refine stepo ha 16 KR ?_; clear ha a; intro a ha
    refine stepo ha 17 KR ?_; clear ha a; intro a ha
    refine stepp ha 18 (.bool false) KR KR ?_; clear ha a; intro a ha
    refine stepp ha 19 (.bool false) KR KR ?_; clear ha a; intro a ha
    refine stepo ha 20 KR ?_; clear ha a; intro a ha
    refine stepo ha 21 KR ?_; clear ha a; intro a ha
    refine stepo ha 22 KR ?_; clear ha a; intro a ha
    refine stepo ha 23 KR ?_; clear ha a; intro a ha
    refine stepo ha 24 KR ?_; clear ha a; intro a ha
    refine stepo ha 25 KR ?_; clear ha a; intro a ha
    refine stepo ha 26 KR ?_; clear ha a; intro a ha
    refine stepp ha 27 (.bool false) KR KR ?_; clear ha a; intro a ha
    refine stepp ha 28 (.bool false) KR KR ?_; clear ha a; intro a ha
    refine stepo ha 29 KR ?_; clear ha a; intro a ha
    refine stepo ha 30 KR ?_; clear ha a; intro a ha
    refine stepo ha 31 KR ?_; clear ha a; intro a ha
    refine stepo ha 32 KR ?_; clear ha a; intro a ha
    refine stepo ha 33 KR ?_; clear ha a; intro a ha
    refine stepp ha 34 (.bool false) KR KR ?_; clear ha a; intro a ha
    refine stepp ha 35 (.bool false) KR KR ?_; clear ha a; intro a ha
    refine stepo ha 36 KR ?_; clear ha a; intro a ha
    refine stepo ha 37 KR ?_; clear ha a; intro a ha
    refine stepo ha 38 KR ?_; clear ha a; intro a ha
    refine stepo ha 39 KR ?_; clear ha a; intro a ha
    refine stepo ha 40 KR ?_; clear ha a; intro a ha
    refine stepp ha 41 (.bool false) KR KR ?_; clear ha a; intro a ha
    refine stepp ha 4 (.bool false) KR KR ?_; clear ha a; intro a ha
    refine endl ?_
    refine thenN (hK2239 _ _ ?_); clear hK2239
    refine wp_ret ?_
    obtain rfl := Option.some.inj h
    exact finv ha _ _ rfl (.tmp (v := .bool false) KR .nil) (.bool false) rfl ⟨rfl, HW.pick [] [] (by decide) (by decide) rfl KR⟩
end Go.Proofs.YthjjbkgifelooaaDoor.F
