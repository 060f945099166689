/- headgate/headgatelaw18.wakes: a plain function, and that the call comes to what it says. No condition. -/
import Derived.Test.YtceagilmillgfaaFT
import Derived.Test.YtceagilmillgfaaF7
import Derived.Test.YtceagilmillgfaaF9
import Derived.Test.YtceagilmillgfaaF12
namespace Go.Proofs.Ytceagilmillgfaa.F
open Go Go.RowKit Go.Proofs.Ytceagilmillgfaa.X
set_option linter.unusedVariables false
set_option linter.unusedSimpArgs false
/-! ### headgate/headgatelaw18.wakes: function 6 -/
def headgatelaw18_wakes.f (K : Nat)  : Option Bool :=
  (prout_List.f K (⟨8, 0, (⟨#[]⟩ : ByteArray), 0, 0, (⟨#[]⟩ : ByteArray), false, ([] : List T_api_Range), 1, 2, 0, 0, false, 2⟩ : T_api_Cmd)).bind fun t867 => ((prout_Change.f K t867.1 0 t867.2.1).bind fun t873 => (if t867.2.2 = 0 then (if t873.2 = 0 then (if t867.1 = 0 then (if (t867.2.1.size : Int) = 24 then (asrt (7 < (t867.2.1.size : Int)) (if (bt t867.2.1 7) = 1 then (asrt (15 < (t867.2.1.size : Int)) (if (bt t867.2.1 15) = 2 then (asrt (20 < (t867.2.1.size : Int)) (if (bt t867.2.1 20) = 1 then (if t873.1.f9 = 2 then ((prout_Keys.f K 5 ([(⟨(⟨#[97]⟩ : ByteArray), 7⟩ : T_api_Reg)] : List T_api_Reg)).bind fun t899 => (some ((t899.size : Int) == 16))) else (some false)) else (some false))) else (some false))) else (some false))) else (some false)) else (some false)) else (some false)) else (some false)))
set_option maxRecDepth 100000 in
set_option maxHeartbeats 4000000 in
theorem headgatelaw18_wakes.calls (K : Nat)   (r : Bool) (w : World)  (h : headgatelaw18_wakes.f K  = some r) :
    Calls Try.prog 6 #[] w (fun e W' => e = .returned (.bool r) ∧ Wd w W' [] [] ) := by
  refine sxstart (n := 60) (l := []) Try.func6 rfl rfl (Nat.le_of_ble_eq_true (by kernel_rfl)) (subsA_nil _) ?_
  intro a ha
  have HW := Wd.refl w
  unfold headgatelaw18_wakes.f at h
  refine wp_seq_k (fun K863 hK864 => ?_)
  refine wp_region_lit ?_
  refine stepp ha 0 (.bool false) (by kernel_rfl) (by kernel_rfl) ?_; clear ha a; intro a ha
  refine endl ?_
  refine thenN (hK864 _ _ ?_); clear hK864
  refine wp_seq_k (fun K865 hK866 => ?_)
  refine wp_region_lit ?_
  refine stepp ha 7 (.agg #[.int .i64 8, .int .i64 0, .string (⟨#[]⟩ : ByteArray), .int .i64 0, .int .i64 0, .string (⟨#[]⟩ : ByteArray), .bool false, .slice none 0 0, .int .u64 1, .int .u64 2, .int .u64 0, .int .i64 0, .bool false, .int .i64 2]) (by kernel_rfl) (by kernel_rfl) ?_; clear ha a; intro a ha
  obtain ⟨t867, ht868, h_⟩ := bind_some' h; clear h; have h := h_; clear h_
  refine stepc ha 8 (by kernel_rfl) (by kernel_rfl) (prout_List.calls K (⟨8, 0, (⟨#[]⟩ : ByteArray), 0, 0, (⟨#[]⟩ : ByteArray), false, ([] : List T_api_Range), 1, 2, 0, 0, false, 2⟩ : T_api_Cmd) none 0 t867 _ (Rd.nil _ _) ht868) ?_; clear ha a; rintro e W869 ⟨rfl, HX870⟩
  refine ⟨_, rfl, ?_⟩; intro a ha; replace HW := HW.callw HX870; clear HX870
  refine stepp ha 6 (.tuple #[.int .i64 t867.1, .string t867.2.1, .int .i64 t867.2.2]) (by kernel_rfl) (by kernel_rfl) ?_; clear ha a; intro a ha
  refine stepp ha 9 (.int .i64 t867.1) (by kernel_rfl) (by kernel_rfl) ?_; clear ha a; intro a ha
  refine stepp ha 10 (.string t867.2.1) (by kernel_rfl) (by kernel_rfl) ?_; clear ha a; intro a ha
  refine stepp ha 11 (.int .i64 t867.2.2) (by kernel_rfl) (by kernel_rfl) ?_; clear ha a; intro a ha
  refine stepp ha 1 (.int .i64 t867.1) (by kernel_rfl) (by kernel_rfl) ?_; clear ha a; intro a ha
  refine stepp ha 2 (.string t867.2.1) (by kernel_rfl) (by kernel_rfl) ?_; clear ha a; intro a ha
  refine stepp ha 3 (.int .i64 t867.2.2) (by kernel_rfl) (by kernel_rfl) ?_; clear ha a; intro a ha
  refine endl ?_
  refine thenN (hK866 _ _ ?_); clear hK866
  refine wp_seq_k (fun K871 hK872 => ?_)
  refine wp_region_lit ?_
  refine stepp ha 13 (.int .i64 t867.1) (by kernel_rfl) (by kernel_rfl) ?_; clear ha a; intro a ha
  refine stepp ha 14 (.string t867.2.1) (by kernel_rfl) (by kernel_rfl) ?_; clear ha a; intro a ha
  obtain ⟨t873, ht874, h_⟩ := bind_some' h; clear h; have h := h_; clear h_
  refine stepc ha 15 (by kernel_rfl) (by kernel_rfl) (prout_Change.calls K t867.1 0 t867.2.1 t873 _ ht874) ?_; clear ha a; rintro e W878 ⟨A875, c876, rfl, HX879⟩
  refine ⟨_, rfl, ?_⟩; intro a ha; replace HW := HW.callw HX879; clear HX879
  refine stepp ha 12 (.tuple #[.agg #[.int .i64 t873.1.f0, .int .i64 t873.1.f1, .string t873.1.f2, .int .i64 t873.1.f3, .int .i64 t873.1.f4, .string t873.1.f5, .bool t873.1.f6, .slice A875 t873.1.f7.length c876, .int .u64 t873.1.f8, .int .u64 t873.1.f9, .int .u64 t873.1.f10, .int .i64 t873.1.f11, .bool t873.1.f12, .int .i64 t873.1.f13], .int .i64 t873.2]) (by kernel_rfl) (by kernel_rfl) ?_; clear ha a; intro a ha
  refine stepp ha 16 (.agg #[.int .i64 t873.1.f0, .int .i64 t873.1.f1, .string t873.1.f2, .int .i64 t873.1.f3, .int .i64 t873.1.f4, .string t873.1.f5, .bool t873.1.f6, .slice A875 t873.1.f7.length c876, .int .u64 t873.1.f8, .int .u64 t873.1.f9, .int .u64 t873.1.f10, .int .i64 t873.1.f11, .bool t873.1.f12, .int .i64 t873.1.f13]) (by kernel_rfl) (by kernel_rfl) ?_; clear ha a; intro a ha
  refine stepp ha 17 (.int .i64 t873.2) (by kernel_rfl) (by kernel_rfl) ?_; clear ha a; intro a ha
  refine stepnew ha HW 4 #[.int .i64 0, .int .i64 0, .string (⟨#[]⟩ : ByteArray), .int .i64 0, .int .i64 0, .string (⟨#[]⟩ : ByteArray), .bool false, .slice none 0 0, .int .u64 0, .int .u64 0, .int .u64 0, .int .i64 0, .bool false, .int .i64 0] 26 (by kernel_rfl) (by kernel_rfl) ?_; clear ha HW a; intro b880 a W881 HW ha
  refine stepst ha HW 0 (b := b880) (C := #[.int .i64 0, .int .i64 0, .string (⟨#[]⟩ : ByteArray), .int .i64 0, .int .i64 0, .string (⟨#[]⟩ : ByteArray), .bool false, .slice none 0 0, .int .u64 0, .int .u64 0, .int .u64 0, .int .i64 0, .bool false, .int .i64 0]) (T := 26) (by kernel_rfl) 26 0 (.tmp 4) (.tmp 16) (.agg #[.int .i64 t873.1.f0, .int .i64 t873.1.f1, .string t873.1.f2, .int .i64 t873.1.f3, .int .i64 t873.1.f4, .string t873.1.f5, .bool t873.1.f6, .slice A875 t873.1.f7.length c876, .int .u64 t873.1.f8, .int .u64 t873.1.f9, .int .u64 t873.1.f10, .int .i64 t873.1.f11, .bool t873.1.f12, .int .i64 t873.1.f13]) #[.int .i64 t873.1.f0, .int .i64 t873.1.f1, .string t873.1.f2, .int .i64 t873.1.f3, .int .i64 t873.1.f4, .string t873.1.f5, .bool t873.1.f6, .slice A875 t873.1.f7.length c876, .int .u64 t873.1.f8, .int .u64 t873.1.f9, .int .u64 t873.1.f10, .int .i64 t873.1.f11, .bool t873.1.f12, .int .i64 t873.1.f13] rfl (by kernel_rfl) (by kernel_rfl) (by kernel_rfl) (by kernel_rfl) (by kernel_rfl) (by kernel_rfl) (by kernel_rfl) ?_; clear ha HW a; intro a W882 HW ha
  refine stepp ha 5 (.int .i64 t873.2) (by kernel_rfl) (by kernel_rfl) ?_; clear ha a; intro a ha
  refine endl ?_
  refine thenN (hK872 _ _ ?_); clear hK872
  refine wp_seq_k (fun K883 hK884 => ?_)
  refine wp_region_lit ?_
  refine stepp ha 18 (.int .i64 t867.2.2) (by kernel_rfl) (by kernel_rfl) ?_; clear ha a; intro a ha
  refine stepp ha 19 (.bool (t867.2.2 == 0)) (by kernel_rfl) (by kernel_rfl) ?_; clear ha a; intro a ha
  refine stepp ha 20 (.bool (t867.2.2 == 0)) (by kernel_rfl) (by kernel_rfl) ?_; clear ha a; intro a ha
  by_cases hp885 : t867.2.2 = 0
  · skip
    replace h := ite_pos' h hp885
    replace ha := ha.bool 20 (by kernel_rfl) (ieq_t hp885)
    refine stepp ha 21 (.int .i64 t873.2) (by kernel_rfl) (by kernel_rfl) ?_; clear ha a; intro a ha
    refine stepp ha 22 (.bool (t873.2 == 0)) (by kernel_rfl) (by kernel_rfl) ?_; clear ha a; intro a ha
    refine stepp ha 23 (.bool (t873.2 == 0)) (by kernel_rfl) (by kernel_rfl) ?_; clear ha a; intro a ha
    refine stepp ha 24 (.bool (t873.2 == 0)) (by kernel_rfl) (by kernel_rfl) ?_; clear ha a; intro a ha
    by_cases hp886 : t873.2 = 0
    · skip
      replace h := ite_pos' h hp886
      replace ha := ha.bool 24 (by kernel_rfl) (ieq_t hp886)
      refine stepp ha 25 (.int .i64 t867.1) (by kernel_rfl) (by kernel_rfl) ?_; clear ha a; intro a ha
      refine stepp ha 26 (.bool (t867.1 == 0)) (by kernel_rfl) (by kernel_rfl) ?_; clear ha a; intro a ha
      refine stepp ha 27 (.bool (t867.1 == 0)) (by kernel_rfl) (by kernel_rfl) ?_; clear ha a; intro a ha
      refine stepp ha 28 (.bool (t867.1 == 0)) (by kernel_rfl) (by kernel_rfl) ?_; clear ha a; intro a ha
      by_cases hp887 : t867.1 = 0
      · skip
        replace h := ite_pos' h hp887
        replace ha := ha.bool 28 (by kernel_rfl) (ieq_t hp887)
        refine stepp ha 29 (.string t867.2.1) (by kernel_rfl) (by kernel_rfl) ?_; clear ha a; intro a ha
        refine stepp ha 30 (.int .i64 (t867.2.1.size : Int)) (by kernel_rfl) (by kernel_rfl) ?_; clear ha a; intro a ha
        refine stepp ha 31 (.bool ((t867.2.1.size : Int) == 24)) (by kernel_rfl) (by kernel_rfl) ?_; clear ha a; intro a ha
        refine stepp ha 32 (.bool ((t867.2.1.size : Int) == 24)) (by kernel_rfl) (by kernel_rfl) ?_; clear ha a; intro a ha
        refine stepp ha 33 (.bool ((t867.2.1.size : Int) == 24)) (by kernel_rfl) (by kernel_rfl) ?_; clear ha a; intro a ha
        by_cases hp888 : (t867.2.1.size : Int) = 24
        · skip
          replace h := ite_pos' h hp888
          replace ha := ha.bool 33 (by kernel_rfl) (ieq_t hp888)
          refine stepp ha 34 (.string t867.2.1) (by kernel_rfl) (by kernel_rfl) ?_; clear ha a; intro a ha
          obtain ⟨hA889, h_⟩ := asrt_some h; clear h; have h := h_; clear h_
          refine stepsi ha 35 9 (.tmp 34) (.const (.int .i64 7)) t867.2.1 .i64 7 rfl (by kernel_rfl) (by kernel_rfl) (by kernel_rfl) (by decide) (show (7 : Int) < ((t867.2.1).size : Int) from hA889) (by kernel_rfl) ?_; clear ha a; intro a ha
          refine stepp ha 36 (.bool ((bt t867.2.1 7) == 1)) (by kernel_rfl) (by kernel_rfl) ?_; clear ha a; intro a ha
          refine stepp ha 37 (.bool ((bt t867.2.1 7) == 1)) (by kernel_rfl) (by kernel_rfl) ?_; clear ha a; intro a ha
          refine stepp ha 38 (.bool ((bt t867.2.1 7) == 1)) (by kernel_rfl) (by kernel_rfl) ?_; clear ha a; intro a ha
          by_cases hp890 : (bt t867.2.1 7) = 1
          · skip
            replace h := ite_pos' h hp890
            replace ha := ha.bool 38 (by kernel_rfl) (ieq_t hp890)
            refine stepp ha 39 (.string t867.2.1) (by kernel_rfl) (by kernel_rfl) ?_; clear ha a; intro a ha
            obtain ⟨hA891, h_⟩ := asrt_some h; clear h; have h := h_; clear h_
            refine stepsi ha 40 9 (.tmp 39) (.const (.int .i64 15)) t867.2.1 .i64 15 rfl (by kernel_rfl) (by kernel_rfl) (by kernel_rfl) (by decide) (show (15 : Int) < ((t867.2.1).size : Int) from hA891) (by kernel_rfl) ?_; clear ha a; intro a ha
            refine stepp ha 41 (.bool ((bt t867.2.1 15) == 2)) (by kernel_rfl) (by kernel_rfl) ?_; clear ha a; intro a ha
            refine stepp ha 42 (.bool ((bt t867.2.1 15) == 2)) (by kernel_rfl) (by kernel_rfl) ?_; clear ha a; intro a ha
            refine stepp ha 43 (.bool ((bt t867.2.1 15) == 2)) (by kernel_rfl) (by kernel_rfl) ?_; clear ha a; intro a ha
            by_cases hp892 : (bt t867.2.1 15) = 2
            · skip
              replace h := ite_pos' h hp892
              replace ha := ha.bool 43 (by kernel_rfl) (ieq_t hp892)
              refine stepp ha 44 (.string t867.2.1) (by kernel_rfl) (by kernel_rfl) ?_; clear ha a; intro a ha
              obtain ⟨hA893, h_⟩ := asrt_some h; clear h; have h := h_; clear h_
              refine stepsi ha 45 9 (.tmp 44) (.const (.int .i64 20)) t867.2.1 .i64 20 rfl (by kernel_rfl) (by kernel_rfl) (by kernel_rfl) (by decide) (show (20 : Int) < ((t867.2.1).size : Int) from hA893) (by kernel_rfl) ?_; clear ha a; intro a ha
              refine stepp ha 46 (.bool ((bt t867.2.1 20) == 1)) (by kernel_rfl) (by kernel_rfl) ?_; clear ha a; intro a ha
              refine stepp ha 47 (.bool ((bt t867.2.1 20) == 1)) (by kernel_rfl) (by kernel_rfl) ?_; clear ha a; intro a ha
              refine stepp ha 48 (.bool ((bt t867.2.1 20) == 1)) (by kernel_rfl) (by kernel_rfl) ?_; clear ha a; intro a ha
              by_cases hp894 : (bt t867.2.1 20) = 1
              · skip
                replace h := ite_pos' h hp894
                replace ha := ha.bool 48 (by kernel_rfl) (ieq_t hp894)
                refine stepp ha 49 (.pointer (some ⟨b880, 9, none⟩)) (by kernel_rfl) (by kernel_rfl) ?_; clear ha a; intro a ha
                refine stepl ha 50 (HW.ca (i := 0) (b := b880) (C := #[.int .i64 t873.1.f0, .int .i64 t873.1.f1, .string t873.1.f2, .int .i64 t873.1.f3, .int .i64 t873.1.f4, .string t873.1.f5, .bool t873.1.f6, .slice A875 t873.1.f7.length c876, .int .u64 t873.1.f8, .int .u64 t873.1.f9, .int .u64 t873.1.f10, .int .i64 t873.1.f11, .bool t873.1.f12, .int .i64 t873.1.f13]) (T := 26) (fr := (0, 0)) (by kernel_rfl)) 24 9 (.tmp 49) (.int .u64 t873.1.f9) rfl (by kernel_rfl) (by kernel_rfl) (by kernel_rfl) ?_; clear ha a; intro a ha
                refine stepp ha 51 (.bool (t873.1.f9 == 2)) (by kernel_rfl) (by kernel_rfl) ?_; clear ha a; intro a ha
                refine stepp ha 52 (.bool (t873.1.f9 == 2)) (by kernel_rfl) (by kernel_rfl) ?_; clear ha a; intro a ha
                refine stepp ha 53 (.bool (t873.1.f9 == 2)) (by kernel_rfl) (by kernel_rfl) ?_; clear ha a; intro a ha
                by_cases hp895 : t873.1.f9 = 2
                · skip
                  replace h := ite_pos' h hp895
                  replace ha := ha.bool 53 (by kernel_rfl) (ieq_t hp895)
                  refine stepp ha 54 (.agg #[.string (⟨#[97]⟩ : ByteArray), .int .u64 7]) (by kernel_rfl) (by kernel_rfl) ?_; clear ha a; intro a ha
                  refine stepbs ha HW 55 46 2 1 #[.string (⟨#[97]⟩ : ByteArray), .int .u64 7] [.string (⟨#[97]⟩ : ByteArray), .int .u64 7] (by decide) (by kernel_rfl) (by kernel_rfl) (by kernel_rfl) (by kernel_rfl) ?_; clear ha HW a; intro b896 a W897 HW ha
                  replace HW : Wd w W897 [(b880, .cells #[.int .i64 t873.1.f0, .int .i64 t873.1.f1, .string t873.1.f2, .int .i64 t873.1.f3, .int .i64 t873.1.f4, .string t873.1.f5, .bool t873.1.f6, .slice A875 t873.1.f7.length c876, .int .u64 t873.1.f8, .int .u64 t873.1.f9, .int .u64 t873.1.f10, .int .i64 t873.1.f11, .bool t873.1.f12, .int .i64 t873.1.f13] 26 (0, 0))] [⟨46, 2, .slice (some ⟨b896, 0, none⟩) ([(⟨(⟨#[97]⟩ : ByteArray), 7⟩ : T_api_Reg)] : List T_api_Reg).length 1, ([(⟨(⟨#[97]⟩ : ByteArray), 7⟩ : T_api_Reg)] : List T_api_Reg).length, encs T_api_Reg.enc ([(⟨(⟨#[97]⟩ : ByteArray), 7⟩ : T_api_Reg)] : List T_api_Reg)⟩, ⟨61, 2, .slice A875 t873.1.f7.length c876, t873.1.f7.length, encs T_api_Range.enc t873.1.f7⟩] := HW
                  replace ha := ha.turn 55 (v := .slice (some ⟨b896, 0, none⟩) ([(⟨(⟨#[97]⟩ : ByteArray), 7⟩ : T_api_Reg)] : List T_api_Reg).length 1) (by kernel_rfl) rfl
                  obtain ⟨t899, ht900, h_⟩ := bind_some' h; clear h; have h := h_; clear h_
                  refine stepc ha 56 (by kernel_rfl) (by kernel_rfl) (prout_Keys.calls K 5 ([(⟨(⟨#[97]⟩ : ByteArray), 7⟩ : T_api_Reg)] : List T_api_Reg) (some ⟨b896, 0, none⟩) 1 t899 _ (HW.rdo (i := 0) (q := ⟨46, 2, .slice (some ⟨b896, 0, none⟩) ([(⟨(⟨#[97]⟩ : ByteArray), 7⟩ : T_api_Reg)] : List T_api_Reg).length 1, ([(⟨(⟨#[97]⟩ : ByteArray), 7⟩ : T_api_Reg)] : List T_api_Reg).length, encs T_api_Reg.enc ([(⟨(⟨#[97]⟩ : ByteArray), 7⟩ : T_api_Reg)] : List T_api_Reg)⟩) (by kernel_rfl)) ht900) ?_; clear ha a; rintro e W901 ⟨rfl, HX902⟩
                  refine ⟨_, rfl, ?_⟩; intro a ha; replace HW := HW.callw HX902; clear HX902
                  refine stepp ha 57 (.int .i64 (t899.size : Int)) (by kernel_rfl) (by kernel_rfl) ?_; clear ha a; intro a ha
                  refine stepp ha 58 (.bool ((t899.size : Int) == 16)) (by kernel_rfl) (by kernel_rfl) ?_; clear ha a; intro a ha
                  refine stepp ha 59 (.bool ((t899.size : Int) == 16)) (by kernel_rfl) (by kernel_rfl) ?_; clear ha a; intro a ha
                  refine stepp ha 0 (.bool ((t899.size : Int) == 16)) (by kernel_rfl) (by kernel_rfl) ?_; clear ha a; intro a ha
                  refine endl ?_
                  refine thenN (hK884 _ _ ?_); clear hK884
                  refine wp_ret ?_
                  obtain rfl := Option.some.inj h
                  exact finv ha _ _ rfl (.tmp (v := .bool ((t899.size : Int) == 16)) (by kernel_rfl) .nil) (.bool ((t899.size : Int) == 16)) rfl ⟨rfl, HW.pick [] [] (by decide) (by decide) rfl (by kernel_rfl)⟩
                · skip
                  replace h := ite_neg' h hp895
                  replace ha := ha.bool 53 (by kernel_rfl) (ieq_f hp895)
                  refine stepo ha 54 (by kernel_rfl) ?_; clear ha a; intro a ha
                  refine stepo ha 55 (by kernel_rfl) ?_; clear ha a; intro a ha
                  refine stepo ha 56 (by kernel_rfl) ?_; clear ha a; intro a ha
                  refine stepo ha 57 (by kernel_rfl) ?_; clear ha a; intro a ha
                  refine stepo ha 58 (by kernel_rfl) ?_; clear ha a; intro a ha
                  refine stepp ha 59 (.bool false) (by kernel_rfl) (by kernel_rfl) ?_; clear ha a; intro a ha
                  refine stepp ha 0 (.bool false) (by kernel_rfl) (by kernel_rfl) ?_; clear ha a; intro a ha
                  refine endl ?_
                  refine thenN (hK884 _ _ ?_); clear hK884
                  refine wp_ret ?_
                  obtain rfl := Option.some.inj h
                  exact finv ha _ _ rfl (.tmp (v := .bool false) (by kernel_rfl) .nil) (.bool false) rfl ⟨rfl, HW.pick [] [] (by decide) (by decide) rfl (by kernel_rfl)⟩
              · skip
                replace h := ite_neg' h hp894
                replace ha := ha.bool 48 (by kernel_rfl) (ieq_f hp894)
                refine stepo ha 49 (by kernel_rfl) ?_; clear ha a; intro a ha
                refine stepo ha 50 (by kernel_rfl) ?_; clear ha a; intro a ha
                refine stepo ha 51 (by kernel_rfl) ?_; clear ha a; intro a ha
                refine stepp ha 52 (.bool false) (by kernel_rfl) (by kernel_rfl) ?_; clear ha a; intro a ha
                refine stepp ha 53 (.bool false) (by kernel_rfl) (by kernel_rfl) ?_; clear ha a; intro a ha
                refine stepo ha 54 (by kernel_rfl) ?_; clear ha a; intro a ha
                refine stepo ha 55 (by kernel_rfl) ?_; clear ha a; intro a ha
                refine stepo ha 56 (by kernel_rfl) ?_; clear ha a; intro a ha
                refine stepo ha 57 (by kernel_rfl) ?_; clear ha a; intro a ha
                refine stepo ha 58 (by kernel_rfl) ?_; clear ha a; intro a ha
                refine stepp ha 59 (.bool false) (by kernel_rfl) (by kernel_rfl) ?_; clear ha a; intro a ha
                refine stepp ha 0 (.bool false) (by kernel_rfl) (by kernel_rfl) ?_; clear ha a; intro a ha
                refine endl ?_
                refine thenN (hK884 _ _ ?_); clear hK884
                refine wp_ret ?_
                obtain rfl := Option.some.inj h
                exact finv ha _ _ rfl (.tmp (v := .bool false) (by kernel_rfl) .nil) (.bool false) rfl ⟨rfl, HW.pick [] [] (by decide) (by decide) rfl (by kernel_rfl)⟩
            · skip
              replace h := ite_neg' h hp892
              replace ha := ha.bool 43 (by kernel_rfl) (ieq_f hp892)
              refine stepo ha 44 (by kernel_rfl) ?_; clear ha a; intro a ha
              refine stepo ha 45 (by kernel_rfl) ?_; clear ha a; intro a ha
              refine stepo ha 46 (by kernel_rfl) ?_; clear ha a; intro a ha
              refine stepp ha 47 (.bool false) (by kernel_rfl) (by kernel_rfl) ?_; clear ha a; intro a ha
              refine stepp ha 48 (.bool false) (by kernel_rfl) (by kernel_rfl) ?_; clear ha a; intro a ha
              refine stepo ha 49 (by kernel_rfl) ?_; clear ha a; intro a ha
              refine stepo ha 50 (by kernel_rfl) ?_; clear ha a; intro a ha
              refine stepo ha 51 (by kernel_rfl) ?_; clear ha a; intro a ha
              refine stepp ha 52 (.bool false) (by kernel_rfl) (by kernel_rfl) ?_; clear ha a; intro a ha
              refine stepp ha 53 (.bool false) (by kernel_rfl) (by kernel_rfl) ?_; clear ha a; intro a ha
              refine stepo ha 54 (by kernel_rfl) ?_; clear ha a; intro a ha
              refine stepo ha 55 (by kernel_rfl) ?_; clear ha a; intro a ha
              refine stepo ha 56 (by kernel_rfl) ?_; clear ha a; intro a ha
              refine stepo ha 57 (by kernel_rfl) ?_; clear ha a; intro a ha
              refine stepo ha 58 (by kernel_rfl) ?_; clear ha a; intro a ha
              refine stepp ha 59 (.bool false) (by kernel_rfl) (by kernel_rfl) ?_; clear ha a; intro a ha
              refine stepp ha 0 (.bool false) (by kernel_rfl) (by kernel_rfl) ?_; clear ha a; intro a ha
              refine endl ?_
              refine thenN (hK884 _ _ ?_); clear hK884
              refine wp_ret ?_
              obtain rfl := Option.some.inj h
              exact finv ha _ _ rfl (.tmp (v := .bool false) (by kernel_rfl) .nil) (.bool false) rfl ⟨rfl, HW.pick [] [] (by decide) (by decide) rfl (by kernel_rfl)⟩
          · skip
            replace h := ite_neg' h hp890
            replace ha := ha.bool 38 (by kernel_rfl) (ieq_f hp890)
            refine stepo ha 39 (by kernel_rfl) ?_; clear ha a; intro a ha
            refine stepo ha 40 (by kernel_rfl) ?_; clear ha a; intro a ha
            refine stepo ha 41 (by kernel_rfl) ?_; clear ha a; intro a ha
            refine stepp ha 42 (.bool false) (by kernel_rfl) (by kernel_rfl) ?_; clear ha a; intro a ha
            refine stepp ha 43 (.bool false) (by kernel_rfl) (by kernel_rfl) ?_; clear ha a; intro a ha
            refine stepo ha 44 (by kernel_rfl) ?_; clear ha a; intro a ha
            refine stepo ha 45 (by kernel_rfl) ?_; clear ha a; intro a ha
            refine stepo ha 46 (by kernel_rfl) ?_; clear ha a; intro a ha
            refine stepp ha 47 (.bool false) (by kernel_rfl) (by kernel_rfl) ?_; clear ha a; intro a ha
            refine stepp ha 48 (.bool false) (by kernel_rfl) (by kernel_rfl) ?_; clear ha a; intro a ha
            refine stepo ha 49 (by kernel_rfl) ?_; clear ha a; intro a ha
            refine stepo ha 50 (by kernel_rfl) ?_; clear ha a; intro a ha
            refine stepo ha 51 (by kernel_rfl) ?_; clear ha a; intro a ha
            refine stepp ha 52 (.bool false) (by kernel_rfl) (by kernel_rfl) ?_; clear ha a; intro a ha
            refine stepp ha 53 (.bool false) (by kernel_rfl) (by kernel_rfl) ?_; clear ha a; intro a ha
            refine stepo ha 54 (by kernel_rfl) ?_; clear ha a; intro a ha
            refine stepo ha 55 (by kernel_rfl) ?_; clear ha a; intro a ha
            refine stepo ha 56 (by kernel_rfl) ?_; clear ha a; intro a ha
            refine stepo ha 57 (by kernel_rfl) ?_; clear ha a; intro a ha
            refine stepo ha 58 (by kernel_rfl) ?_; clear ha a; intro a ha
            refine stepp ha 59 (.bool false) (by kernel_rfl) (by kernel_rfl) ?_; clear ha a; intro a ha
            refine stepp ha 0 (.bool false) (by kernel_rfl) (by kernel_rfl) ?_; clear ha a; intro a ha
            refine endl ?_
            refine thenN (hK884 _ _ ?_); clear hK884
            refine wp_ret ?_
            obtain rfl := Option.some.inj h
            exact finv ha _ _ rfl (.tmp (v := .bool false) (by kernel_rfl) .nil) (.bool false) rfl ⟨rfl, HW.pick [] [] (by decide) (by decide) rfl (by kernel_rfl)⟩
        · skip
          replace h := ite_neg' h hp888
          replace ha := ha.bool 33 (by kernel_rfl) (ieq_f hp888)
          refine stepo ha 34 (by kernel_rfl) ?_; clear ha a; intro a ha
          refine stepo ha 35 (by kernel_rfl) ?_; clear ha a; intro a ha
          refine stepo ha 36 (by kernel_rfl) ?_; clear ha a; intro a ha
          refine stepp ha 37 (.bool false) (by kernel_rfl) (by kernel_rfl) ?_; clear ha a; intro a ha
          refine stepp ha 38 (.bool false) (by kernel_rfl) (by kernel_rfl) ?_; clear ha a; intro a ha
          refine stepo ha 39 (by kernel_rfl) ?_; clear ha a; intro a ha
          refine stepo ha 40 (by kernel_rfl) ?_; clear ha a; intro a ha
          refine stepo ha 41 (by kernel_rfl) ?_; clear ha a; intro a ha
          refine stepp ha 42 (.bool false) (by kernel_rfl) (by kernel_rfl) ?_; clear ha a; intro a ha
          refine stepp ha 43 (.bool false) (by kernel_rfl) (by kernel_rfl) ?_; clear ha a; intro a ha
          refine stepo ha 44 (by kernel_rfl) ?_; clear ha a; intro a ha
          refine stepo ha 45 (by kernel_rfl) ?_; clear ha a; intro a ha
          refine stepo ha 46 (by kernel_rfl) ?_; clear ha a; intro a ha
          refine stepp ha 47 (.bool false) (by kernel_rfl) (by kernel_rfl) ?_; clear ha a; intro a ha
          refine stepp ha 48 (.bool false) (by kernel_rfl) (by kernel_rfl) ?_; clear ha a; intro a ha
          refine stepo ha 49 (by kernel_rfl) ?_; clear ha a; intro a ha
          refine stepo ha 50 (by kernel_rfl) ?_; clear ha a; intro a ha
          refine stepo ha 51 (by kernel_rfl) ?_; clear ha a; intro a ha
          refine stepp ha 52 (.bool false) (by kernel_rfl) (by kernel_rfl) ?_; clear ha a; intro a ha
          refine stepp ha 53 (.bool false) (by kernel_rfl) (by kernel_rfl) ?_; clear ha a; intro a ha
          refine stepo ha 54 (by kernel_rfl) ?_; clear ha a; intro a ha
          refine stepo ha 55 (by kernel_rfl) ?_; clear ha a; intro a ha
          refine stepo ha 56 (by kernel_rfl) ?_; clear ha a; intro a ha
          refine stepo ha 57 (by kernel_rfl) ?_; clear ha a; intro a ha
          refine stepo ha 58 (by kernel_rfl) ?_; clear ha a; intro a ha
          refine stepp ha 59 (.bool false) (by kernel_rfl) (by kernel_rfl) ?_; clear ha a; intro a ha
          refine stepp ha 0 (.bool false) (by kernel_rfl) (by kernel_rfl) ?_; clear ha a; intro a ha
          refine endl ?_
          refine thenN (hK884 _ _ ?_); clear hK884
          refine wp_ret ?_
          obtain rfl := Option.some.inj h
          exact finv ha _ _ rfl (.tmp (v := .bool false) (by kernel_rfl) .nil) (.bool false) rfl ⟨rfl, HW.pick [] [] (by decide) (by decide) rfl (by kernel_rfl)⟩
      · skip
        replace h := ite_neg' h hp887
        replace ha := ha.bool 28 (by kernel_rfl) (ieq_f hp887)
        refine stepo ha 29 (by kernel_rfl) ?_; clear ha a; intro a ha
        refine stepo ha 30 (by kernel_rfl) ?_; clear ha a; intro a ha
        refine stepo ha 31 (by kernel_rfl) ?_; clear ha a; intro a ha
        refine stepp ha 32 (.bool false) (by kernel_rfl) (by kernel_rfl) ?_; clear ha a; intro a ha
        refine stepp ha 33 (.bool false) (by kernel_rfl) (by kernel_rfl) ?_; clear ha a; intro a ha
        refine stepo ha 34 (by kernel_rfl) ?_; clear ha a; intro a ha
        refine stepo ha 35 (by kernel_rfl) ?_; clear ha a; intro a ha
        refine stepo ha 36 (by kernel_rfl) ?_; clear ha a; intro a ha
        refine stepp ha 37 (.bool false) (by kernel_rfl) (by kernel_rfl) ?_; clear ha a; intro a ha
        refine stepp ha 38 (.bool false) (by kernel_rfl) (by kernel_rfl) ?_; clear ha a; intro a ha
        refine stepo ha 39 (by kernel_rfl) ?_; clear ha a; intro a ha
        refine stepo ha 40 (by kernel_rfl) ?_; clear ha a; intro a ha
        refine stepo ha 41 (by kernel_rfl) ?_; clear ha a; intro a ha
        refine stepp ha 42 (.bool false) (by kernel_rfl) (by kernel_rfl) ?_; clear ha a; intro a ha
        refine stepp ha 43 (.bool false) (by kernel_rfl) (by kernel_rfl) ?_; clear ha a; intro a ha
        refine stepo ha 44 (by kernel_rfl) ?_; clear ha a; intro a ha
        refine stepo ha 45 (by kernel_rfl) ?_; clear ha a; intro a ha
        refine stepo ha 46 (by kernel_rfl) ?_; clear ha a; intro a ha
        refine stepp ha 47 (.bool false) (by kernel_rfl) (by kernel_rfl) ?_; clear ha a; intro a ha
        refine stepp ha 48 (.bool false) (by kernel_rfl) (by kernel_rfl) ?_; clear ha a; intro a ha
        refine stepo ha 49 (by kernel_rfl) ?_; clear ha a; intro a ha
        refine stepo ha 50 (by kernel_rfl) ?_; clear ha a; intro a ha
        refine stepo ha 51 (by kernel_rfl) ?_; clear ha a; intro a ha
        refine stepp ha 52 (.bool false) (by kernel_rfl) (by kernel_rfl) ?_; clear ha a; intro a ha
        refine stepp ha 53 (.bool false) (by kernel_rfl) (by kernel_rfl) ?_; clear ha a; intro a ha
        refine stepo ha 54 (by kernel_rfl) ?_; clear ha a; intro a ha
        refine stepo ha 55 (by kernel_rfl) ?_; clear ha a; intro a ha
        refine stepo ha 56 (by kernel_rfl) ?_; clear ha a; intro a ha
        refine stepo ha 57 (by kernel_rfl) ?_; clear ha a; intro a ha
        refine stepo ha 58 (by kernel_rfl) ?_; clear ha a; intro a ha
        refine stepp ha 59 (.bool false) (by kernel_rfl) (by kernel_rfl) ?_; clear ha a; intro a ha
        refine stepp ha 0 (.bool false) (by kernel_rfl) (by kernel_rfl) ?_; clear ha a; intro a ha
        refine endl ?_
        refine thenN (hK884 _ _ ?_); clear hK884
        refine wp_ret ?_
        obtain rfl := Option.some.inj h
        exact finv ha _ _ rfl (.tmp (v := .bool false) (by kernel_rfl) .nil) (.bool false) rfl ⟨rfl, HW.pick [] [] (by decide) (by decide) rfl (by kernel_rfl)⟩
    · skip
      replace h := ite_neg' h hp886
      replace ha := ha.bool 24 (by kernel_rfl) (ieq_f hp886)
      refine stepo ha 25 (by kernel_rfl) ?_; clear ha a; intro a ha
      refine stepo ha 26 (by kernel_rfl) ?_; clear ha a; intro a ha
      refine stepp ha 27 (.bool false) (by kernel_rfl) (by kernel_rfl) ?_; clear ha a; intro a ha
      refine stepp ha 28 (.bool false) (by kernel_rfl) (by kernel_rfl) ?_; clear ha a; intro a ha
      refine stepo ha 29 (by kernel_rfl) ?_; clear ha a; intro a ha
      refine stepo ha 30 (by kernel_rfl) ?_; clear ha a; intro a ha
      refine stepo ha 31 (by kernel_rfl) ?_; clear ha a; intro a ha
      refine stepp ha 32 (.bool false) (by kernel_rfl) (by kernel_rfl) ?_; clear ha a; intro a ha
      refine stepp ha 33 (.bool false) (by kernel_rfl) (by kernel_rfl) ?_; clear ha a; intro a ha
      refine stepo ha 34 (by kernel_rfl) ?_; clear ha a; intro a ha
      refine stepo ha 35 (by kernel_rfl) ?_; clear ha a; intro a ha
      refine stepo ha 36 (by kernel_rfl) ?_; clear ha a; intro a ha
      refine stepp ha 37 (.bool false) (by kernel_rfl) (by kernel_rfl) ?_; clear ha a; intro a ha
      refine stepp ha 38 (.bool false) (by kernel_rfl) (by kernel_rfl) ?_; clear ha a; intro a ha
      refine stepo ha 39 (by kernel_rfl) ?_; clear ha a; intro a ha
      refine stepo ha 40 (by kernel_rfl) ?_; clear ha a; intro a ha
      refine stepo ha 41 (by kernel_rfl) ?_; clear ha a; intro a ha
      refine stepp ha 42 (.bool false) (by kernel_rfl) (by kernel_rfl) ?_; clear ha a; intro a ha
      refine stepp ha 43 (.bool false) (by kernel_rfl) (by kernel_rfl) ?_; clear ha a; intro a ha
      refine stepo ha 44 (by kernel_rfl) ?_; clear ha a; intro a ha
      refine stepo ha 45 (by kernel_rfl) ?_; clear ha a; intro a ha
      refine stepo ha 46 (by kernel_rfl) ?_; clear ha a; intro a ha
      refine stepp ha 47 (.bool false) (by kernel_rfl) (by kernel_rfl) ?_; clear ha a; intro a ha
      refine stepp ha 48 (.bool false) (by kernel_rfl) (by kernel_rfl) ?_; clear ha a; intro a ha
      refine stepo ha 49 (by kernel_rfl) ?_; clear ha a; intro a ha
      refine stepo ha 50 (by kernel_rfl) ?_; clear ha a; intro a ha
      refine stepo ha 51 (by kernel_rfl) ?_; clear ha a; intro a ha
      refine stepp ha 52 (.bool false) (by kernel_rfl) (by kernel_rfl) ?_; clear ha a; intro a ha
      refine stepp ha 53 (.bool false) (by kernel_rfl) (by kernel_rfl) ?_; clear ha a; intro a ha
      refine stepo ha 54 (by kernel_rfl) ?_; clear ha a; intro a ha
      refine stepo ha 55 (by kernel_rfl) ?_; clear ha a; intro a ha
      refine stepo ha 56 (by kernel_rfl) ?_; clear ha a; intro a ha
      refine stepo ha 57 (by kernel_rfl) ?_; clear ha a; intro a ha
      refine stepo ha 58 (by kernel_rfl) ?_; clear ha a; intro a ha
      refine stepp ha 59 (.bool false) (by kernel_rfl) (by kernel_rfl) ?_; clear ha a; intro a ha
      refine stepp ha 0 (.bool false) (by kernel_rfl) (by kernel_rfl) ?_; clear ha a; intro a ha
      refine endl ?_
      refine thenN (hK884 _ _ ?_); clear hK884
      refine wp_ret ?_
      obtain rfl := Option.some.inj h
      exact finv ha _ _ rfl (.tmp (v := .bool false) (by kernel_rfl) .nil) (.bool false) rfl ⟨rfl, HW.pick [] [] (by decide) (by decide) rfl (by kernel_rfl)⟩
  · skip
    replace h := ite_neg' h hp885
    replace ha := ha.bool 20 (by kernel_rfl) (ieq_f hp885)
    refine stepo ha 21 (by kernel_rfl) ?_; clear ha a; intro a ha
    refine stepo ha 22 (by kernel_rfl) ?_; clear ha a; intro a ha
    refine stepp ha 23 (.bool false) (by kernel_rfl) (by kernel_rfl) ?_; clear ha a; intro a ha
    refine stepp ha 24 (.bool false) (by kernel_rfl) (by kernel_rfl) ?_; clear ha a; intro a ha
    refine stepo ha 25 (by kernel_rfl) ?_; clear ha a; intro a ha
    refine stepo ha 26 (by kernel_rfl) ?_; clear ha a; intro a ha
    refine stepp ha 27 (.bool false) (by kernel_rfl) (by kernel_rfl) ?_; clear ha a; intro a ha
    refine stepp ha 28 (.bool false) (by kernel_rfl) (by kernel_rfl) ?_; clear ha a; intro a ha
    refine stepo ha 29 (by kernel_rfl) ?_; clear ha a; intro a ha
    refine stepo ha 30 (by kernel_rfl) ?_; clear ha a; intro a ha
    refine stepo ha 31 (by kernel_rfl) ?_; clear ha a; intro a ha
    refine stepp ha 32 (.bool false) (by kernel_rfl) (by kernel_rfl) ?_; clear ha a; intro a ha
    refine stepp ha 33 (.bool false) (by kernel_rfl) (by kernel_rfl) ?_; clear ha a; intro a ha
    refine stepo ha 34 (by kernel_rfl) ?_; clear ha a; intro a ha
    refine stepo ha 35 (by kernel_rfl) ?_; clear ha a; intro a ha
    refine stepo ha 36 (by kernel_rfl) ?_; clear ha a; intro a ha
    refine stepp ha 37 (.bool false) (by kernel_rfl) (by kernel_rfl) ?_; clear ha a; intro a ha
    refine stepp ha 38 (.bool false) (by kernel_rfl) (by kernel_rfl) ?_; clear ha a; intro a ha
    refine stepo ha 39 (by kernel_rfl) ?_; clear ha a; intro a ha
    refine stepo ha 40 (by kernel_rfl) ?_; clear ha a; intro a ha
    refine stepo ha 41 (by kernel_rfl) ?_; clear ha a; intro a ha
    refine stepp ha 42 (.bool false) (by kernel_rfl) (by kernel_rfl) ?_; clear ha a; intro a ha
    refine stepp ha 43 (.bool false) (by kernel_rfl) (by kernel_rfl) ?_; clear ha a; intro a ha
    refine stepo ha 44 (by kernel_rfl) ?_; clear ha a; intro a ha
    refine stepo ha 45 (by kernel_rfl) ?_; clear ha a; intro a ha
    refine stepo ha 46 (by kernel_rfl) ?_; clear ha a; intro a ha
    refine stepp ha 47 (.bool false) (by kernel_rfl) (by kernel_rfl) ?_; clear ha a; intro a ha
    refine stepp ha 48 (.bool false) (by kernel_rfl) (by kernel_rfl) ?_; clear ha a; intro a ha
    refine stepo ha 49 (by kernel_rfl) ?_; clear ha a; intro a ha
    refine stepo ha 50 (by kernel_rfl) ?_; clear ha a; intro a ha
    refine stepo ha 51 (by kernel_rfl) ?_; clear ha a; intro a ha
    refine stepp ha 52 (.bool false) (by kernel_rfl) (by kernel_rfl) ?_; clear ha a; intro a ha
    refine stepp ha 53 (.bool false) (by kernel_rfl) (by kernel_rfl) ?_; clear ha a; intro a ha
    refine stepo ha 54 (by kernel_rfl) ?_; clear ha a; intro a ha
    refine stepo ha 55 (by kernel_rfl) ?_; clear ha a; intro a ha
    refine stepo ha 56 (by kernel_rfl) ?_; clear ha a; intro a ha
    refine stepo ha 57 (by kernel_rfl) ?_; clear ha a; intro a ha
    refine stepo ha 58 (by kernel_rfl) ?_; clear ha a; intro a ha
    refine stepp ha 59 (.bool false) (by kernel_rfl) (by kernel_rfl) ?_; clear ha a; intro a ha
    refine stepp ha 0 (.bool false) (by kernel_rfl) (by kernel_rfl) ?_; clear ha a; intro a ha
    refine endl ?_
    refine thenN (hK884 _ _ ?_); clear hK884
    refine wp_ret ?_
    obtain rfl := Option.some.inj h
    exact finv ha _ _ rfl (.tmp (v := .bool false) (by kernel_rfl) .nil) (.bool false) rfl ⟨rfl, HW.pick [] [] (by decide) (by decide) rfl (by kernel_rfl)⟩
end Go.Proofs.Ytceagilmillgfaa.F
