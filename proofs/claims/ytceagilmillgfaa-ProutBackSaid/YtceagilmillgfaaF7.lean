/- headgate/prout.Change: a plain function, and that the call comes to what it says. No condition. -/
import Derived.Test.YtceagilmillgfaaFT
import Derived.Test.YtceagilmillgfaaF13
import Derived.Test.YtceagilmillgfaaF14
namespace Go.Proofs.Ytceagilmillgfaa.F
open Go Go.RowKit Go.Proofs.Ytceagilmillgfaa.X
set_option linter.unusedVariables false
set_option linter.unusedSimpArgs false
/-! ### headgate/prout.Change: function 7 -/
def prout_Change.j2 (K : Nat) (a0 : Int) (a1 : Int) (t269 : T_arr7_3) (x341 : Bool) (x342 : Int) (x343 : Int) (x344 : Int) (x345 : Bool) (x346 : Int) : Option (T_api_Cmd × Int) :=
  if x341 = true then (some ((⟨rdL (0 : Int) ([t269.f0, t269.f1, t269.f2, t269.f3, t269.f4, t269.f5, t269.f6] : List Int) a0, 0, (⟨#[]⟩ : ByteArray), 0, 0, (⟨#[]⟩ : ByteArray), false, ([] : List T_api_Range), x342, x343, x344, a1, x345, x346⟩ : T_api_Cmd), 0)) else (some ((⟨0, 0, (⟨#[]⟩ : ByteArray), 0, 0, (⟨#[]⟩ : ByteArray), false, ([] : List T_api_Range), 0, 0, 0, 0, false, 0⟩ : T_api_Cmd), 180))
def prout_Change.j1 (K : Nat) (a0 : Int) (a1 : Int) (t269 : T_arr7_3) (t284 : Int × Bool) (t290 : Int × Bool) (x319 : Int) (x327 : Int) : Option (T_api_Cmd × Int) :=
  if (bandNot .u64 t290.1 16777216) = 0 then (prout_Change.j2 K a0 a1 t269 (a1 == 0) x327 t284.1 0 (a0 == 6) x319) else (prout_Change.j2 K a0 a1 t269 false x327 t284.1 0 (a0 == 6) x319)
def prout_Change.j0 (K : Nat) (a0 : Int) (a1 : Int) (t269 : T_arr7_3) (t278 : Int × Bool) (t284 : Int × Bool) (t290 : Int × Bool) (x319 : Int) : Option (T_api_Cmd × Int) :=
  if a0 = 6 then (prout_Change.j1 K a0 a1 t269 t284 t290 x319 0) else (prout_Change.j1 K a0 a1 t269 t284 t290 x319 t278.1)
def prout_Change.f (K : Nat) (a0 : Int) (a1 : Int) (a2 : ByteArray) : Option (T_api_Cmd × Int) :=
  if a0 < 0 then (some ((⟨0, 0, (⟨#[]⟩ : ByteArray), 0, 0, (⟨#[]⟩ : ByteArray), false, ([] : List T_api_Range), 0, 0, 0, 0, false, 0⟩ : T_api_Cmd), 180)) else (if a0 > 6 then (some ((⟨0, 0, (⟨#[]⟩ : ByteArray), 0, 0, (⟨#[]⟩ : ByteArray), false, ([] : List T_api_Range), 0, 0, 0, 0, false, 0⟩ : T_api_Cmd), 180)) else ((prout_ops.f).bind fun t243 => (asrt (0 ≤ a0) (asrt (a0 < 7) (if (rdL (0 : Int) ([t243.f0, t243.f1, t243.f2, t243.f3, t243.f4, t243.f5, t243.f6] : List Int) a0) = 0 then (some ((⟨0, 0, (⟨#[]⟩ : ByteArray), 0, 0, (⟨#[]⟩ : ByteArray), false, ([] : List T_api_Range), 0, 0, 0, 0, false, 0⟩ : T_api_Cmd), 180)) else (if (a2.size : Int) = 24 then ((prout_ops.f).bind fun t269 => ((fields_Big.f K a2 0 8).bind fun t278 => ((fields_Big.f K a2 8 8).bind fun t284 => ((fields_Big.f K a2 16 8).bind fun t290 => (if (rdL (0 : Int) ([t269.f0, t269.f1, t269.f2, t269.f3, t269.f4, t269.f5, t269.f6] : List Int) a0) = 8 then (if (band .u64 (t290.1.fdiv 16777216) 1) = 1 then (prout_Change.j0 K a0 a1 t269 t278 t284 t290 2) else (prout_Change.j0 K a0 a1 t269 t278 t284 t290 1)) else (if (rdL (0 : Int) ([t269.f0, t269.f1, t269.f2, t269.f3, t269.f4, t269.f5, t269.f6] : List Int) a0) = 12 then (if (bandNot .u64 t290.1 16777216) = 0 then (prout_Change.j2 K a0 a1 t269 (!((band .u64 (t290.1.fdiv 16777216) 1) == 1)) t278.1 0 t284.1 false 0) else (prout_Change.j2 K a0 a1 t269 false t278.1 0 t284.1 false 0)) else (if (bandNot .u64 t290.1 16777216) = 0 then (if (band .u64 (t290.1.fdiv 16777216) 1) = 1 then (prout_Change.j2 K a0 a1 t269 false t278.1 0 0 false 0) else (if t284.1 = 0 then (if a1 = 0 then (prout_Change.j2 K a0 a1 t269 true t278.1 0 0 false 0) else (prout_Change.j2 K a0 a1 t269 ((rdL (0 : Int) ([t269.f0, t269.f1, t269.f2, t269.f3, t269.f4, t269.f5, t269.f6] : List Int) a0) != 11) t278.1 0 0 false 0)) else (prout_Change.j2 K a0 a1 t269 false t278.1 0 0 false 0))) else (prout_Change.j2 K a0 a1 t269 false t278.1 0 0 false 0)))))))) else (some ((⟨0, 0, (⟨#[]⟩ : ByteArray), 0, 0, (⟨#[]⟩ : ByteArray), false, ([] : List T_api_Range), 0, 0, 0, 0, false, 0⟩ : T_api_Cmd), 180))))))))
set_option maxRecDepth 100000 in
set_option maxHeartbeats 4000000 in
theorem prout_Change.calls (K : Nat) (a0 : Int) (a1 : Int) (a2 : ByteArray)  (r : T_api_Cmd × Int) (w : World)  (h : prout_Change.f K a0 a1 a2 = some r) :
    Calls Try.prog 7 #[.int .i64 a0, .int .i64 a1, .string a2] w (fun e W' => ∃ A_0 c_0, e = .returned (.tuple #[.agg #[.int .i64 r.1.f0, .int .i64 r.1.f1, .string r.1.f2, .int .i64 r.1.f3, .int .i64 r.1.f4, .string r.1.f5, .bool r.1.f6, .slice A_0 r.1.f7.length c_0, .int .u64 r.1.f8, .int .u64 r.1.f9, .int .u64 r.1.f10, .int .i64 r.1.f11, .bool r.1.f12, .int .i64 r.1.f13], .int .i64 r.2]) ∧ Wd w W' [] [⟨61, 2, .slice A_0 r.1.f7.length c_0, r.1.f7.length, encs T_api_Range.enc r.1.f7⟩] ) := by
  refine sxstart (n := 115) (l := [(0, .int .i64 a0), (1, .int .i64 a1), (2, .string a2)]) Try.func7 rfl rfl (Nat.le_of_ble_eq_true (by kernel_rfl)) (subsA_cons rfl (subsA_cons rfl (subsA_cons rfl (subsA_nil _)))) ?_
  intro a ha
  have HW := Wd.refl w
  unfold prout_Change.f at h
  refine wp_seq_k (fun K233 hK234 => ?_)
  refine wp_region_lit ?_
  refine stepnew ha HW 6 #[.int .i64 0, .int .i64 0, .string (⟨#[]⟩ : ByteArray), .int .i64 0, .int .i64 0, .string (⟨#[]⟩ : ByteArray), .bool false, .slice none 0 0, .int .u64 0, .int .u64 0, .int .u64 0, .int .i64 0, .bool false, .int .i64 0] 26 (by kernel_rfl) (by kernel_rfl) ?_; clear ha HW a; intro b235 a W236 HW ha
  refine stepp ha 7 (.int .i64 0) (by kernel_rfl) (by kernel_rfl) ?_; clear ha a; intro a ha
  refine endl ?_
  refine thenN (hK234 _ _ ?_); clear hK234
  refine wp_seq_k (fun K237 hK238 => ?_)
  refine wp_seq_k (fun K239 hK240 => ?_)
  refine wp_region_lit ?_
  refine stepp ha 17 (.int .i64 a0) (by kernel_rfl) (by kernel_rfl) ?_; clear ha a; intro a ha
  refine stepp ha 18 (.bool (decide (a0 < 0))) (by kernel_rfl) (by kernel_rfl) ?_; clear ha a; intro a ha
  refine stepp ha 19 (.bool (decide (a0 < 0))) (by kernel_rfl) (by kernel_rfl) ?_; clear ha a; intro a ha
  by_cases hp241 : a0 < 0
  · skip
    replace h := ite_pos' h hp241
    replace ha := ha.bool 19 (by kernel_rfl) (decide_eq_true hp241)
    refine stepo ha 20 (by kernel_rfl) ?_; clear ha a; intro a ha
    refine stepo ha 21 (by kernel_rfl) ?_; clear ha a; intro a ha
    refine stepp ha 22 (.bool true) (by kernel_rfl) (by kernel_rfl) ?_; clear ha a; intro a ha
    refine stepp ha 23 (.bool true) (by kernel_rfl) (by kernel_rfl) ?_; clear ha a; intro a ha
    refine stepo ha 24 (by kernel_rfl) ?_; clear ha a; intro a ha
    refine stepo ha 25 (by kernel_rfl) ?_; clear ha a; intro a ha
    refine stepo ha 26 (by kernel_rfl) ?_; clear ha a; intro a ha
    refine stepo ha 27 (by kernel_rfl) ?_; clear ha a; intro a ha
    refine stepp ha 28 (.bool true) (by kernel_rfl) (by kernel_rfl) ?_; clear ha a; intro a ha
    refine stepp ha 29 (.bool true) (by kernel_rfl) (by kernel_rfl) ?_; clear ha a; intro a ha
    refine stepo ha 30 (by kernel_rfl) ?_; clear ha a; intro a ha
    refine stepo ha 31 (by kernel_rfl) ?_; clear ha a; intro a ha
    refine stepo ha 32 (by kernel_rfl) ?_; clear ha a; intro a ha
    refine stepp ha 33 (.bool true) (by kernel_rfl) (by kernel_rfl) ?_; clear ha a; intro a ha
    refine endl ?_
    refine thenN (hK240 _ _ ?_); clear hK240
    refine condT ha (by kernel_rfl) (by kernel_rfl) (t := true) (rfl) ?_
    refine wp_seq_k (fun K250 hK251 => ?_)
    refine wp_region_lit ?_
    refine stepp ha 34 (.agg #[.int .i64 0, .int .i64 0, .string (⟨#[]⟩ : ByteArray), .int .i64 0, .int .i64 0, .string (⟨#[]⟩ : ByteArray), .bool false, .slice none 0 0, .int .u64 0, .int .u64 0, .int .u64 0, .int .i64 0, .bool false, .int .i64 0]) (by kernel_rfl) (by kernel_rfl) ?_; clear ha a; intro a ha
    refine stepst ha HW 0 (b := b235) (C := #[.int .i64 0, .int .i64 0, .string (⟨#[]⟩ : ByteArray), .int .i64 0, .int .i64 0, .string (⟨#[]⟩ : ByteArray), .bool false, .slice none 0 0, .int .u64 0, .int .u64 0, .int .u64 0, .int .i64 0, .bool false, .int .i64 0]) (T := 26) (by kernel_rfl) 26 0 (.tmp 6) (.tmp 34) (.agg #[.int .i64 0, .int .i64 0, .string (⟨#[]⟩ : ByteArray), .int .i64 0, .int .i64 0, .string (⟨#[]⟩ : ByteArray), .bool false, .slice none 0 0, .int .u64 0, .int .u64 0, .int .u64 0, .int .i64 0, .bool false, .int .i64 0]) #[.int .i64 0, .int .i64 0, .string (⟨#[]⟩ : ByteArray), .int .i64 0, .int .i64 0, .string (⟨#[]⟩ : ByteArray), .bool false, .slice none 0 0, .int .u64 0, .int .u64 0, .int .u64 0, .int .i64 0, .bool false, .int .i64 0] rfl (by kernel_rfl) (by kernel_rfl) (by kernel_rfl) (by kernel_rfl) (by kernel_rfl) (by kernel_rfl) (by kernel_rfl) ?_; clear ha HW a; intro a W252 HW ha
    refine stepp ha 7 (.int .i64 180) (by kernel_rfl) (by kernel_rfl) ?_; clear ha a; intro a ha
    refine endl ?_
    refine thenN (hK251 _ _ ?_); clear hK251
    refine wp_ret ?_
    refine thenR ?_
    obtain rfl := Option.some.inj h
    replace HW := HW.nilo 61 2
    exact finv ha _ _ rfl (.cell (ad := ⟨b235, 0, none⟩) (v := .agg #[.int .i64 0, .int .i64 0, .string (⟨#[]⟩ : ByteArray), .int .i64 0, .int .i64 0, .string (⟨#[]⟩ : ByteArray), .bool false, .slice none 0 0, .int .u64 0, .int .u64 0, .int .u64 0, .int .i64 0, .bool false, .int .i64 0]) (by kernel_rfl) (run_loadVar_ca0 (HW.ca (i := 0) (b := b235) (C := #[.int .i64 0, .int .i64 0, .string (⟨#[]⟩ : ByteArray), .int .i64 0, .int .i64 0, .string (⟨#[]⟩ : ByteArray), .bool false, .slice none 0 0, .int .u64 0, .int .u64 0, .int .u64 0, .int .i64 0, .bool false, .int .i64 0]) (T := 26) (fr := (0, 0)) (by kernel_rfl)) 26 0 (.agg #[.int .i64 0, .int .i64 0, .string (⟨#[]⟩ : ByteArray), .int .i64 0, .int .i64 0, .string (⟨#[]⟩ : ByteArray), .bool false, .slice none 0 0, .int .u64 0, .int .u64 0, .int .u64 0, .int .i64 0, .bool false, .int .i64 0]) (by kernel_rfl)) (.tmp (v := .int .i64 180) (by kernel_rfl) .nil)) (.tuple #[.agg #[.int .i64 0, .int .i64 0, .string (⟨#[]⟩ : ByteArray), .int .i64 0, .int .i64 0, .string (⟨#[]⟩ : ByteArray), .bool false, .slice none 0 0, .int .u64 0, .int .u64 0, .int .u64 0, .int .i64 0, .bool false, .int .i64 0], .int .i64 180]) rfl ⟨none, 0, rfl, HW.pick [] [0] (by decide) (by decide) rfl (by kernel_rfl)⟩
  · skip
    replace h := ite_neg' h hp241
    replace ha := ha.bool 19 (by kernel_rfl) (decide_eq_false hp241)
    refine stepp ha 20 (.int .i64 a0) (by kernel_rfl) (by kernel_rfl) ?_; clear ha a; intro a ha
    refine stepp ha 21 (.bool (decide (a0 > 6))) (by kernel_rfl) (by kernel_rfl) ?_; clear ha a; intro a ha
    refine stepp ha 22 (.bool (decide (a0 > 6))) (by kernel_rfl) (by kernel_rfl) ?_; clear ha a; intro a ha
    refine stepp ha 23 (.bool (decide (a0 > 6))) (by kernel_rfl) (by kernel_rfl) ?_; clear ha a; intro a ha
    by_cases hp242 : a0 > 6
    · skip
      replace h := ite_pos' h hp242
      replace ha := ha.bool 23 (by kernel_rfl) (decide_eq_true hp242)
      refine stepo ha 24 (by kernel_rfl) ?_; clear ha a; intro a ha
      refine stepo ha 25 (by kernel_rfl) ?_; clear ha a; intro a ha
      refine stepo ha 26 (by kernel_rfl) ?_; clear ha a; intro a ha
      refine stepo ha 27 (by kernel_rfl) ?_; clear ha a; intro a ha
      refine stepp ha 28 (.bool true) (by kernel_rfl) (by kernel_rfl) ?_; clear ha a; intro a ha
      refine stepp ha 29 (.bool true) (by kernel_rfl) (by kernel_rfl) ?_; clear ha a; intro a ha
      refine stepo ha 30 (by kernel_rfl) ?_; clear ha a; intro a ha
      refine stepo ha 31 (by kernel_rfl) ?_; clear ha a; intro a ha
      refine stepo ha 32 (by kernel_rfl) ?_; clear ha a; intro a ha
      refine stepp ha 33 (.bool true) (by kernel_rfl) (by kernel_rfl) ?_; clear ha a; intro a ha
      refine endl ?_
      refine thenN (hK240 _ _ ?_); clear hK240
      refine condT ha (by kernel_rfl) (by kernel_rfl) (t := true) (rfl) ?_
      refine wp_seq_k (fun K254 hK255 => ?_)
      refine wp_region_lit ?_
      refine stepp ha 34 (.agg #[.int .i64 0, .int .i64 0, .string (⟨#[]⟩ : ByteArray), .int .i64 0, .int .i64 0, .string (⟨#[]⟩ : ByteArray), .bool false, .slice none 0 0, .int .u64 0, .int .u64 0, .int .u64 0, .int .i64 0, .bool false, .int .i64 0]) (by kernel_rfl) (by kernel_rfl) ?_; clear ha a; intro a ha
      refine stepst ha HW 0 (b := b235) (C := #[.int .i64 0, .int .i64 0, .string (⟨#[]⟩ : ByteArray), .int .i64 0, .int .i64 0, .string (⟨#[]⟩ : ByteArray), .bool false, .slice none 0 0, .int .u64 0, .int .u64 0, .int .u64 0, .int .i64 0, .bool false, .int .i64 0]) (T := 26) (by kernel_rfl) 26 0 (.tmp 6) (.tmp 34) (.agg #[.int .i64 0, .int .i64 0, .string (⟨#[]⟩ : ByteArray), .int .i64 0, .int .i64 0, .string (⟨#[]⟩ : ByteArray), .bool false, .slice none 0 0, .int .u64 0, .int .u64 0, .int .u64 0, .int .i64 0, .bool false, .int .i64 0]) #[.int .i64 0, .int .i64 0, .string (⟨#[]⟩ : ByteArray), .int .i64 0, .int .i64 0, .string (⟨#[]⟩ : ByteArray), .bool false, .slice none 0 0, .int .u64 0, .int .u64 0, .int .u64 0, .int .i64 0, .bool false, .int .i64 0] rfl (by kernel_rfl) (by kernel_rfl) (by kernel_rfl) (by kernel_rfl) (by kernel_rfl) (by kernel_rfl) (by kernel_rfl) ?_; clear ha HW a; intro a W256 HW ha
      refine stepp ha 7 (.int .i64 180) (by kernel_rfl) (by kernel_rfl) ?_; clear ha a; intro a ha
      refine endl ?_
      refine thenN (hK255 _ _ ?_); clear hK255
      refine wp_ret ?_
      refine thenR ?_
      obtain rfl := Option.some.inj h
      replace HW := HW.nilo 61 2
      exact finv ha _ _ rfl (.cell (ad := ⟨b235, 0, none⟩) (v := .agg #[.int .i64 0, .int .i64 0, .string (⟨#[]⟩ : ByteArray), .int .i64 0, .int .i64 0, .string (⟨#[]⟩ : ByteArray), .bool false, .slice none 0 0, .int .u64 0, .int .u64 0, .int .u64 0, .int .i64 0, .bool false, .int .i64 0]) (by kernel_rfl) (run_loadVar_ca0 (HW.ca (i := 0) (b := b235) (C := #[.int .i64 0, .int .i64 0, .string (⟨#[]⟩ : ByteArray), .int .i64 0, .int .i64 0, .string (⟨#[]⟩ : ByteArray), .bool false, .slice none 0 0, .int .u64 0, .int .u64 0, .int .u64 0, .int .i64 0, .bool false, .int .i64 0]) (T := 26) (fr := (0, 0)) (by kernel_rfl)) 26 0 (.agg #[.int .i64 0, .int .i64 0, .string (⟨#[]⟩ : ByteArray), .int .i64 0, .int .i64 0, .string (⟨#[]⟩ : ByteArray), .bool false, .slice none 0 0, .int .u64 0, .int .u64 0, .int .u64 0, .int .i64 0, .bool false, .int .i64 0]) (by kernel_rfl)) (.tmp (v := .int .i64 180) (by kernel_rfl) .nil)) (.tuple #[.agg #[.int .i64 0, .int .i64 0, .string (⟨#[]⟩ : ByteArray), .int .i64 0, .int .i64 0, .string (⟨#[]⟩ : ByteArray), .bool false, .slice none 0 0, .int .u64 0, .int .u64 0, .int .u64 0, .int .i64 0, .bool false, .int .i64 0], .int .i64 180]) rfl ⟨none, 0, rfl, HW.pick [] [0] (by decide) (by decide) rfl (by kernel_rfl)⟩
    · skip
      replace h := ite_neg' h hp242
      replace ha := ha.bool 23 (by kernel_rfl) (decide_eq_false hp242)
      obtain ⟨t243, ht244, h_⟩ := bind_some' h; clear h; have h := h_; clear h_
      refine stepc ha 24 (by kernel_rfl) (by kernel_rfl) (prout_ops.calls t243 _ ht244) ?_; clear ha a; rintro e W245 ⟨rfl, HX246⟩
      refine ⟨_, rfl, ?_⟩; intro a ha; replace HW := HW.callw HX246; clear HX246
      refine stepp ha 25 (.int .i64 a0) (by kernel_rfl) (by kernel_rfl) ?_; clear ha a; intro a ha
      obtain ⟨hA247, h_⟩ := asrt_some h; clear h; have h := h_; clear h_
      obtain ⟨hA248, h_⟩ := asrt_some h; clear h; have h := h_; clear h_
      refine stepai (Value.int .i64) (0 : Int) ha 26 48 7 3 (.tmp 24) (.tmp 25) .i64 a0 ([t243.f0, t243.f1, t243.f2, t243.f3, t243.f4, t243.f5, t243.f6] : List Int) rfl (by kernel_rfl) (by kernel_rfl) (by kernel_rfl) (by kernel_rfl) hA247 hA248 (by kernel_rfl) ?_; clear ha a; intro a ha
      refine stepp ha 27 (.bool ((rdL (0 : Int) ([t243.f0, t243.f1, t243.f2, t243.f3, t243.f4, t243.f5, t243.f6] : List Int) a0) == 0)) (by kernel_rfl) (by kernel_rfl) ?_; clear ha a; intro a ha
      refine stepp ha 28 (.bool ((rdL (0 : Int) ([t243.f0, t243.f1, t243.f2, t243.f3, t243.f4, t243.f5, t243.f6] : List Int) a0) == 0)) (by kernel_rfl) (by kernel_rfl) ?_; clear ha a; intro a ha
      refine stepp ha 29 (.bool ((rdL (0 : Int) ([t243.f0, t243.f1, t243.f2, t243.f3, t243.f4, t243.f5, t243.f6] : List Int) a0) == 0)) (by kernel_rfl) (by kernel_rfl) ?_; clear ha a; intro a ha
      by_cases hp249 : (rdL (0 : Int) ([t243.f0, t243.f1, t243.f2, t243.f3, t243.f4, t243.f5, t243.f6] : List Int) a0) = 0
      · skip
        replace h := ite_pos' h hp249
        replace ha := ha.bool 29 (by kernel_rfl) (ieq_t hp249)
        refine stepo ha 30 (by kernel_rfl) ?_; clear ha a; intro a ha
        refine stepo ha 31 (by kernel_rfl) ?_; clear ha a; intro a ha
        refine stepo ha 32 (by kernel_rfl) ?_; clear ha a; intro a ha
        refine stepp ha 33 (.bool true) (by kernel_rfl) (by kernel_rfl) ?_; clear ha a; intro a ha
        refine endl ?_
        refine thenN (hK240 _ _ ?_); clear hK240
        refine condT ha (by kernel_rfl) (by kernel_rfl) (t := true) (rfl) ?_
        refine wp_seq_k (fun K258 hK259 => ?_)
        refine wp_region_lit ?_
        refine stepp ha 34 (.agg #[.int .i64 0, .int .i64 0, .string (⟨#[]⟩ : ByteArray), .int .i64 0, .int .i64 0, .string (⟨#[]⟩ : ByteArray), .bool false, .slice none 0 0, .int .u64 0, .int .u64 0, .int .u64 0, .int .i64 0, .bool false, .int .i64 0]) (by kernel_rfl) (by kernel_rfl) ?_; clear ha a; intro a ha
        refine stepst ha HW 0 (b := b235) (C := #[.int .i64 0, .int .i64 0, .string (⟨#[]⟩ : ByteArray), .int .i64 0, .int .i64 0, .string (⟨#[]⟩ : ByteArray), .bool false, .slice none 0 0, .int .u64 0, .int .u64 0, .int .u64 0, .int .i64 0, .bool false, .int .i64 0]) (T := 26) (by kernel_rfl) 26 0 (.tmp 6) (.tmp 34) (.agg #[.int .i64 0, .int .i64 0, .string (⟨#[]⟩ : ByteArray), .int .i64 0, .int .i64 0, .string (⟨#[]⟩ : ByteArray), .bool false, .slice none 0 0, .int .u64 0, .int .u64 0, .int .u64 0, .int .i64 0, .bool false, .int .i64 0]) #[.int .i64 0, .int .i64 0, .string (⟨#[]⟩ : ByteArray), .int .i64 0, .int .i64 0, .string (⟨#[]⟩ : ByteArray), .bool false, .slice none 0 0, .int .u64 0, .int .u64 0, .int .u64 0, .int .i64 0, .bool false, .int .i64 0] rfl (by kernel_rfl) (by kernel_rfl) (by kernel_rfl) (by kernel_rfl) (by kernel_rfl) (by kernel_rfl) (by kernel_rfl) ?_; clear ha HW a; intro a W260 HW ha
        refine stepp ha 7 (.int .i64 180) (by kernel_rfl) (by kernel_rfl) ?_; clear ha a; intro a ha
        refine endl ?_
        refine thenN (hK259 _ _ ?_); clear hK259
        refine wp_ret ?_
        refine thenR ?_
        obtain rfl := Option.some.inj h
        replace HW := HW.nilo 61 2
        exact finv ha _ _ rfl (.cell (ad := ⟨b235, 0, none⟩) (v := .agg #[.int .i64 0, .int .i64 0, .string (⟨#[]⟩ : ByteArray), .int .i64 0, .int .i64 0, .string (⟨#[]⟩ : ByteArray), .bool false, .slice none 0 0, .int .u64 0, .int .u64 0, .int .u64 0, .int .i64 0, .bool false, .int .i64 0]) (by kernel_rfl) (run_loadVar_ca0 (HW.ca (i := 0) (b := b235) (C := #[.int .i64 0, .int .i64 0, .string (⟨#[]⟩ : ByteArray), .int .i64 0, .int .i64 0, .string (⟨#[]⟩ : ByteArray), .bool false, .slice none 0 0, .int .u64 0, .int .u64 0, .int .u64 0, .int .i64 0, .bool false, .int .i64 0]) (T := 26) (fr := (0, 0)) (by kernel_rfl)) 26 0 (.agg #[.int .i64 0, .int .i64 0, .string (⟨#[]⟩ : ByteArray), .int .i64 0, .int .i64 0, .string (⟨#[]⟩ : ByteArray), .bool false, .slice none 0 0, .int .u64 0, .int .u64 0, .int .u64 0, .int .i64 0, .bool false, .int .i64 0]) (by kernel_rfl)) (.tmp (v := .int .i64 180) (by kernel_rfl) .nil)) (.tuple #[.agg #[.int .i64 0, .int .i64 0, .string (⟨#[]⟩ : ByteArray), .int .i64 0, .int .i64 0, .string (⟨#[]⟩ : ByteArray), .bool false, .slice none 0 0, .int .u64 0, .int .u64 0, .int .u64 0, .int .i64 0, .bool false, .int .i64 0], .int .i64 180]) rfl ⟨none, 0, rfl, HW.pick [] [0] (by decide) (by decide) rfl (by kernel_rfl)⟩
      · skip
        replace h := ite_neg' h hp249
        replace ha := ha.bool 29 (by kernel_rfl) (ieq_f hp249)
        refine stepp ha 30 (.string a2) (by kernel_rfl) (by kernel_rfl) ?_; clear ha a; intro a ha
        refine stepp ha 31 (.int .i64 (a2.size : Int)) (by kernel_rfl) (by kernel_rfl) ?_; clear ha a; intro a ha
        refine stepp ha 32 (.bool ((a2.size : Int) != 24)) (by kernel_rfl) (by kernel_rfl) ?_; clear ha a; intro a ha
        refine stepp ha 33 (.bool ((a2.size : Int) != 24)) (by kernel_rfl) (by kernel_rfl) ?_; clear ha a; intro a ha
        refine endl ?_
        refine thenN (hK240 _ _ ?_); clear hK240
        by_cases hp262 : (a2.size : Int) = 24
        · skip
          replace h := ite_pos' h hp262
          refine condF ha (by kernel_rfl) (by kernel_rfl) (t := ((a2.size : Int) != 24)) (ineq_f hp262) ?_
          refine wp_skip ?_
          refine thenN (hK238 _ _ ?_); clear hK238
          refine wp_seq_k (fun K267 hK268 => ?_)
          refine wp_region_lit ?_
          obtain ⟨t269, ht270, h_⟩ := bind_some' h; clear h; have h := h_; clear h_
          refine stepc ha 35 (by kernel_rfl) (by kernel_rfl) (prout_ops.calls t269 _ ht270) ?_; clear ha a; rintro e W271 ⟨rfl, HX272⟩
          refine ⟨_, rfl, ?_⟩; intro a ha; replace HW := HW.callw HX272; clear HX272
          refine stepp ha 36 (.int .i64 a0) (by kernel_rfl) (by kernel_rfl) ?_; clear ha a; intro a ha
          refine stepai (Value.int .i64) (0 : Int) ha 37 48 7 3 (.tmp 35) (.tmp 36) .i64 a0 ([t269.f0, t269.f1, t269.f2, t269.f3, t269.f4, t269.f5, t269.f6] : List Int) rfl (by kernel_rfl) (by kernel_rfl) (by kernel_rfl) (by kernel_rfl) hA247 hA248 (by kernel_rfl) ?_; clear ha a; intro a ha
          refine stepp ha 38 (.int .i64 a1) (by kernel_rfl) (by kernel_rfl) ?_; clear ha a; intro a ha
          refine stepp ha 39 (.agg #[.int .i64 (rdL (0 : Int) ([t269.f0, t269.f1, t269.f2, t269.f3, t269.f4, t269.f5, t269.f6] : List Int) a0), .int .i64 0, .string (⟨#[]⟩ : ByteArray), .int .i64 0, .int .i64 0, .string (⟨#[]⟩ : ByteArray), .bool false, .slice none 0 0, .int .u64 0, .int .u64 0, .int .u64 0, .int .i64 a1, .bool false, .int .i64 0]) (by kernel_rfl) (by kernel_rfl) ?_; clear ha a; intro a ha
          refine stepnew ha HW 8 #[.int .i64 0, .int .i64 0, .string (⟨#[]⟩ : ByteArray), .int .i64 0, .int .i64 0, .string (⟨#[]⟩ : ByteArray), .bool false, .slice none 0 0, .int .u64 0, .int .u64 0, .int .u64 0, .int .i64 0, .bool false, .int .i64 0] 26 (by kernel_rfl) (by kernel_rfl) ?_; clear ha HW a; intro b273 a W274 HW ha
          refine stepst ha HW 0 (b := b273) (C := #[.int .i64 0, .int .i64 0, .string (⟨#[]⟩ : ByteArray), .int .i64 0, .int .i64 0, .string (⟨#[]⟩ : ByteArray), .bool false, .slice none 0 0, .int .u64 0, .int .u64 0, .int .u64 0, .int .i64 0, .bool false, .int .i64 0]) (T := 26) (by kernel_rfl) 26 0 (.tmp 8) (.tmp 39) (.agg #[.int .i64 (rdL (0 : Int) ([t269.f0, t269.f1, t269.f2, t269.f3, t269.f4, t269.f5, t269.f6] : List Int) a0), .int .i64 0, .string (⟨#[]⟩ : ByteArray), .int .i64 0, .int .i64 0, .string (⟨#[]⟩ : ByteArray), .bool false, .slice none 0 0, .int .u64 0, .int .u64 0, .int .u64 0, .int .i64 a1, .bool false, .int .i64 0]) #[.int .i64 (rdL (0 : Int) ([t269.f0, t269.f1, t269.f2, t269.f3, t269.f4, t269.f5, t269.f6] : List Int) a0), .int .i64 0, .string (⟨#[]⟩ : ByteArray), .int .i64 0, .int .i64 0, .string (⟨#[]⟩ : ByteArray), .bool false, .slice none 0 0, .int .u64 0, .int .u64 0, .int .u64 0, .int .i64 a1, .bool false, .int .i64 0] rfl (by kernel_rfl) (by kernel_rfl) (by kernel_rfl) (by kernel_rfl) (by kernel_rfl) (by kernel_rfl) (by kernel_rfl) ?_; clear ha HW a; intro a W275 HW ha
          refine endl ?_
          refine thenN (hK268 _ _ ?_); clear hK268
          refine wp_seq_k (fun K276 hK277 => ?_)
          refine wp_region_lit ?_
          refine stepp ha 41 (.string a2) (by kernel_rfl) (by kernel_rfl) ?_; clear ha a; intro a ha
          obtain ⟨t278, ht279, h_⟩ := bind_some' h; clear h; have h := h_; clear h_
          refine stepc ha 42 (by kernel_rfl) (by kernel_rfl) (fields_Big.calls K a2 0 8 t278 _ ht279) ?_; clear ha a; rintro e W280 ⟨rfl, HX281⟩
          refine ⟨_, rfl, ?_⟩; intro a ha; replace HW := HW.callw HX281; clear HX281
          refine stepp ha 40 (.tuple #[.int .u64 t278.1, .bool t278.2]) (by kernel_rfl) (by kernel_rfl) ?_; clear ha a; intro a ha
          refine stepp ha 43 (.int .u64 t278.1) (by kernel_rfl) (by kernel_rfl) ?_; clear ha a; intro a ha
          refine stepp ha 44 (.bool t278.2) (by kernel_rfl) (by kernel_rfl) ?_; clear ha a; intro a ha
          refine stepp ha 9 (.int .u64 t278.1) (by kernel_rfl) (by kernel_rfl) ?_; clear ha a; intro a ha
          refine stepp ha 10 (.bool t278.2) (by kernel_rfl) (by kernel_rfl) ?_; clear ha a; intro a ha
          refine endl ?_
          refine thenN (hK277 _ _ ?_); clear hK277
          refine wp_seq_k (fun K282 hK283 => ?_)
          refine wp_region_lit ?_
          refine stepp ha 46 (.string a2) (by kernel_rfl) (by kernel_rfl) ?_; clear ha a; intro a ha
          obtain ⟨t284, ht285, h_⟩ := bind_some' h; clear h; have h := h_; clear h_
          refine stepc ha 47 (by kernel_rfl) (by kernel_rfl) (fields_Big.calls K a2 8 8 t284 _ ht285) ?_; clear ha a; rintro e W286 ⟨rfl, HX287⟩
          refine ⟨_, rfl, ?_⟩; intro a ha; replace HW := HW.callw HX287; clear HX287
          refine stepp ha 45 (.tuple #[.int .u64 t284.1, .bool t284.2]) (by kernel_rfl) (by kernel_rfl) ?_; clear ha a; intro a ha
          refine stepp ha 48 (.int .u64 t284.1) (by kernel_rfl) (by kernel_rfl) ?_; clear ha a; intro a ha
          refine stepp ha 49 (.bool t284.2) (by kernel_rfl) (by kernel_rfl) ?_; clear ha a; intro a ha
          refine stepp ha 11 (.int .u64 t284.1) (by kernel_rfl) (by kernel_rfl) ?_; clear ha a; intro a ha
          refine stepp ha 12 (.bool t284.2) (by kernel_rfl) (by kernel_rfl) ?_; clear ha a; intro a ha
          refine endl ?_
          refine thenN (hK283 _ _ ?_); clear hK283
          refine wp_seq_k (fun K288 hK289 => ?_)
          refine wp_region_lit ?_
          refine stepp ha 51 (.string a2) (by kernel_rfl) (by kernel_rfl) ?_; clear ha a; intro a ha
          obtain ⟨t290, ht291, h_⟩ := bind_some' h; clear h; have h := h_; clear h_
          refine stepc ha 52 (by kernel_rfl) (by kernel_rfl) (fields_Big.calls K a2 16 8 t290 _ ht291) ?_; clear ha a; rintro e W292 ⟨rfl, HX293⟩
          refine ⟨_, rfl, ?_⟩; intro a ha; replace HW := HW.callw HX293; clear HX293
          refine stepp ha 50 (.tuple #[.int .u64 t290.1, .bool t290.2]) (by kernel_rfl) (by kernel_rfl) ?_; clear ha a; intro a ha
          refine stepp ha 53 (.int .u64 t290.1) (by kernel_rfl) (by kernel_rfl) ?_; clear ha a; intro a ha
          refine stepp ha 54 (.bool t290.2) (by kernel_rfl) (by kernel_rfl) ?_; clear ha a; intro a ha
          refine stepp ha 13 (.int .u64 t290.1) (by kernel_rfl) (by kernel_rfl) ?_; clear ha a; intro a ha
          refine stepp ha 14 (.bool t290.2) (by kernel_rfl) (by kernel_rfl) ?_; clear ha a; intro a ha
          refine endl ?_
          refine thenN (hK289 _ _ ?_); clear hK289
          refine wp_seq_k (fun K294 hK295 => ?_)
          refine wp_region_lit ?_
          refine stepp ha 55 (.int .u64 t278.1) (by kernel_rfl) (by kernel_rfl) ?_; clear ha a; intro a ha
          refine stepp ha 56 (.pointer (some ⟨b273, 8, none⟩)) (by kernel_rfl) (by kernel_rfl) ?_; clear ha a; intro a ha
          refine stepst ha HW 0 (b := b273) (C := #[.int .i64 (rdL (0 : Int) ([t269.f0, t269.f1, t269.f2, t269.f3, t269.f4, t269.f5, t269.f6] : List Int) a0), .int .i64 0, .string (⟨#[]⟩ : ByteArray), .int .i64 0, .int .i64 0, .string (⟨#[]⟩ : ByteArray), .bool false, .slice none 0 0, .int .u64 0, .int .u64 0, .int .u64 0, .int .i64 a1, .bool false, .int .i64 0]) (T := 26) (by kernel_rfl) 24 8 (.tmp 56) (.tmp 55) (.int .u64 t278.1) #[.int .i64 (rdL (0 : Int) ([t269.f0, t269.f1, t269.f2, t269.f3, t269.f4, t269.f5, t269.f6] : List Int) a0), .int .i64 0, .string (⟨#[]⟩ : ByteArray), .int .i64 0, .int .i64 0, .string (⟨#[]⟩ : ByteArray), .bool false, .slice none 0 0, .int .u64 t278.1, .int .u64 0, .int .u64 0, .int .i64 a1, .bool false, .int .i64 0] rfl (by kernel_rfl) (by kernel_rfl) (by kernel_rfl) (by kernel_rfl) (by kernel_rfl) (by kernel_rfl) (by kernel_rfl) ?_; clear ha HW a; intro a W296 HW ha
          refine endl ?_
          refine thenN (hK295 _ _ ?_); clear hK295
          refine wp_seq_k (fun K297 hK298 => ?_)
          refine wp_region_lit ?_
          refine stepp ha 57 (.int .u64 t290.1) (by kernel_rfl) (by kernel_rfl) ?_; clear ha a; intro a ha
          refine stepp ha 58 (.int .u64 (t290.1.fdiv 16777216)) (by kernel_rfl) (by kernel_rfl) ?_; clear ha a; intro a ha
          refine stepp ha 59 (.int .u64 (band .u64 (t290.1.fdiv 16777216) 1)) (by kernel_rfl) (by kernel_rfl) ?_; clear ha a; intro a ha
          refine stepp ha 60 (.bool ((band .u64 (t290.1.fdiv 16777216) 1) == 1)) (by kernel_rfl) (by kernel_rfl) ?_; clear ha a; intro a ha
          refine stepp ha 15 (.bool ((band .u64 (t290.1.fdiv 16777216) 1) == 1)) (by kernel_rfl) (by kernel_rfl) ?_; clear ha a; intro a ha
          refine endl ?_
          refine thenN (hK298 _ _ ?_); clear hK298
          refine wp_seq_k (fun K299 hK300 => ?_)
          refine wp_region_lit ?_
          refine stepp ha 61 (.int .u64 t290.1) (by kernel_rfl) (by kernel_rfl) ?_; clear ha a; intro a ha
          refine stepp ha 62 (.int .u64 (bandNot .u64 t290.1 16777216)) (by kernel_rfl) (by kernel_rfl) ?_; clear ha a; intro a ha
          refine stepp ha 63 (.bool ((bandNot .u64 t290.1 16777216) == 0)) (by kernel_rfl) (by kernel_rfl) ?_; clear ha a; intro a ha
          refine stepp ha 16 (.bool ((bandNot .u64 t290.1 16777216) == 0)) (by kernel_rfl) (by kernel_rfl) ?_; clear ha a; intro a ha
          refine endl ?_
          refine thenN (hK300 _ _ ?_); clear hK300
          refine wp_seq_k (fun K301 hK302 => ?_)
          refine cutn (fun a W347 => ∃ (x341 : Bool), ∃ (x342 : Int), ∃ (x343 : Int), ∃ (x344 : Int), ∃ (x345 : Bool), ∃ (x346 : Int), prout_Change.j2 K a0 a1 t269 x341 x342 x343 x344 x345 x346 = some r ∧ Has 115 [(6, .pointer (some ⟨b235, 0, none⟩)), (8, .pointer (some ⟨b273, 0, none⟩)), (16, .bool x341)] a ∧ Wd w W347 [(b235, .cells #[.int .i64 0, .int .i64 0, .string (⟨#[]⟩ : ByteArray), .int .i64 0, .int .i64 0, .string (⟨#[]⟩ : ByteArray), .bool false, .slice none 0 0, .int .u64 0, .int .u64 0, .int .u64 0, .int .i64 0, .bool false, .int .i64 0] 26 (0, 0)), (b273, .cells #[.int .i64 (rdL (0 : Int) ([t269.f0, t269.f1, t269.f2, t269.f3, t269.f4, t269.f5, t269.f6] : List Int) a0), .int .i64 0, .string (⟨#[]⟩ : ByteArray), .int .i64 0, .int .i64 0, .string (⟨#[]⟩ : ByteArray), .bool false, .slice none 0 0, .int .u64 x342, .int .u64 x343, .int .u64 x344, .int .i64 a1, .bool x345, .int .i64 x346] 26 (0, 0))] []) ?_ ?_
          · skip
            refine wp_seq_k (fun K303 hK304 => ?_)
            refine wp_region_lit ?_
            refine stepp ha 64 (.pointer (some ⟨b273, 0, none⟩)) (by kernel_rfl) (by kernel_rfl) ?_; clear ha a; intro a ha
            refine stepl ha 65 (HW.ca (i := 0) (b := b273) (C := #[.int .i64 (rdL (0 : Int) ([t269.f0, t269.f1, t269.f2, t269.f3, t269.f4, t269.f5, t269.f6] : List Int) a0), .int .i64 0, .string (⟨#[]⟩ : ByteArray), .int .i64 0, .int .i64 0, .string (⟨#[]⟩ : ByteArray), .bool false, .slice none 0 0, .int .u64 t278.1, .int .u64 0, .int .u64 0, .int .i64 a1, .bool false, .int .i64 0]) (T := 26) (fr := (0, 0)) (by kernel_rfl)) 3 0 (.tmp 64) (.int .i64 (rdL (0 : Int) ([t269.f0, t269.f1, t269.f2, t269.f3, t269.f4, t269.f5, t269.f6] : List Int) a0)) rfl (by kernel_rfl) (by kernel_rfl) (by kernel_rfl) ?_; clear ha a; intro a ha
            refine endl ?_
            refine thenN (hK304 _ _ ?_); clear hK304
            refine wp_block ?_
            refine wp_seq_k (fun K305 hK306 => ?_)
            refine wp_region_lit ?_
            refine stepp ha 85 (.bool ((rdL (0 : Int) ([t269.f0, t269.f1, t269.f2, t269.f3, t269.f4, t269.f5, t269.f6] : List Int) a0) == 8)) (by kernel_rfl) (by kernel_rfl) ?_; clear ha a; intro a ha
            refine stepp ha 84 (.bool ((rdL (0 : Int) ([t269.f0, t269.f1, t269.f2, t269.f3, t269.f4, t269.f5, t269.f6] : List Int) a0) == 8)) (by kernel_rfl) (by kernel_rfl) ?_; clear ha a; intro a ha
            refine endl ?_
            refine thenN (hK306 _ _ ?_); clear hK306
            by_cases hp307 : (rdL (0 : Int) ([t269.f0, t269.f1, t269.f2, t269.f3, t269.f4, t269.f5, t269.f6] : List Int) a0) = 8
            · skip
              replace h := ite_pos' h hp307
              refine condT ha (by kernel_rfl) (by kernel_rfl) (t := ((rdL (0 : Int) ([t269.f0, t269.f1, t269.f2, t269.f3, t269.f4, t269.f5, t269.f6] : List Int) a0) == 8)) (ieq_t hp307) ?_
              refine wp_seq_k (fun K308 hK309 => ?_)
              refine wp_region_lit ?_
              refine stepp ha 86 (.int .u64 t284.1) (by kernel_rfl) (by kernel_rfl) ?_; clear ha a; intro a ha
              refine stepp ha 87 (.int .i64 a0) (by kernel_rfl) (by kernel_rfl) ?_; clear ha a; intro a ha
              refine stepp ha 88 (.bool (a0 == 6)) (by kernel_rfl) (by kernel_rfl) ?_; clear ha a; intro a ha
              refine stepp ha 89 (.pointer (some ⟨b273, 9, none⟩)) (by kernel_rfl) (by kernel_rfl) ?_; clear ha a; intro a ha
              refine stepst ha HW 0 (b := b273) (C := #[.int .i64 (rdL (0 : Int) ([t269.f0, t269.f1, t269.f2, t269.f3, t269.f4, t269.f5, t269.f6] : List Int) a0), .int .i64 0, .string (⟨#[]⟩ : ByteArray), .int .i64 0, .int .i64 0, .string (⟨#[]⟩ : ByteArray), .bool false, .slice none 0 0, .int .u64 t278.1, .int .u64 0, .int .u64 0, .int .i64 a1, .bool false, .int .i64 0]) (T := 26) (by kernel_rfl) 24 9 (.tmp 89) (.tmp 86) (.int .u64 t284.1) #[.int .i64 (rdL (0 : Int) ([t269.f0, t269.f1, t269.f2, t269.f3, t269.f4, t269.f5, t269.f6] : List Int) a0), .int .i64 0, .string (⟨#[]⟩ : ByteArray), .int .i64 0, .int .i64 0, .string (⟨#[]⟩ : ByteArray), .bool false, .slice none 0 0, .int .u64 t278.1, .int .u64 t284.1, .int .u64 0, .int .i64 a1, .bool false, .int .i64 0] rfl (by kernel_rfl) (by kernel_rfl) (by kernel_rfl) (by kernel_rfl) (by kernel_rfl) (by kernel_rfl) (by kernel_rfl) ?_; clear ha HW a; intro a W310 HW ha
              refine stepp ha 90 (.pointer (some ⟨b273, 12, none⟩)) (by kernel_rfl) (by kernel_rfl) ?_; clear ha a; intro a ha
              refine stepst ha HW 0 (b := b273) (C := #[.int .i64 (rdL (0 : Int) ([t269.f0, t269.f1, t269.f2, t269.f3, t269.f4, t269.f5, t269.f6] : List Int) a0), .int .i64 0, .string (⟨#[]⟩ : ByteArray), .int .i64 0, .int .i64 0, .string (⟨#[]⟩ : ByteArray), .bool false, .slice none 0 0, .int .u64 t278.1, .int .u64 t284.1, .int .u64 0, .int .i64 a1, .bool false, .int .i64 0]) (T := 26) (by kernel_rfl) 4 12 (.tmp 90) (.tmp 88) (.bool (a0 == 6)) #[.int .i64 (rdL (0 : Int) ([t269.f0, t269.f1, t269.f2, t269.f3, t269.f4, t269.f5, t269.f6] : List Int) a0), .int .i64 0, .string (⟨#[]⟩ : ByteArray), .int .i64 0, .int .i64 0, .string (⟨#[]⟩ : ByteArray), .bool false, .slice none 0 0, .int .u64 t278.1, .int .u64 t284.1, .int .u64 0, .int .i64 a1, .bool (a0 == 6), .int .i64 0] rfl (by kernel_rfl) (by kernel_rfl) (by kernel_rfl) (by kernel_rfl) (by kernel_rfl) (by kernel_rfl) (by kernel_rfl) ?_; clear ha HW a; intro a W311 HW ha
              refine stepp ha 91 (.pointer (some ⟨b273, 13, none⟩)) (by kernel_rfl) (by kernel_rfl) ?_; clear ha a; intro a ha
              refine stepst ha HW 0 (b := b273) (C := #[.int .i64 (rdL (0 : Int) ([t269.f0, t269.f1, t269.f2, t269.f3, t269.f4, t269.f5, t269.f6] : List Int) a0), .int .i64 0, .string (⟨#[]⟩ : ByteArray), .int .i64 0, .int .i64 0, .string (⟨#[]⟩ : ByteArray), .bool false, .slice none 0 0, .int .u64 t278.1, .int .u64 t284.1, .int .u64 0, .int .i64 a1, .bool (a0 == 6), .int .i64 0]) (T := 26) (by kernel_rfl) 3 13 (.tmp 91) (.const (.int .i64 1)) (.int .i64 1) #[.int .i64 (rdL (0 : Int) ([t269.f0, t269.f1, t269.f2, t269.f3, t269.f4, t269.f5, t269.f6] : List Int) a0), .int .i64 0, .string (⟨#[]⟩ : ByteArray), .int .i64 0, .int .i64 0, .string (⟨#[]⟩ : ByteArray), .bool false, .slice none 0 0, .int .u64 t278.1, .int .u64 t284.1, .int .u64 0, .int .i64 a1, .bool (a0 == 6), .int .i64 1] rfl (by kernel_rfl) (by kernel_rfl) (by kernel_rfl) (by kernel_rfl) (by kernel_rfl) (by kernel_rfl) (by kernel_rfl) ?_; clear ha HW a; intro a W312 HW ha
              refine endl ?_
              refine thenN (hK309 _ _ ?_); clear hK309
              refine wp_seq_k (fun K313 hK314 => ?_)
              refine cutn (fun a W320 => ∃ (x319 : Int), prout_Change.j0 K a0 a1 t269 t278 t284 t290 x319 = some r ∧ Has 115 [(1, .int .i64 a1), (6, .pointer (some ⟨b235, 0, none⟩)), (8, .pointer (some ⟨b273, 0, none⟩)), (16, .bool ((bandNot .u64 t290.1 16777216) == 0))] a ∧ Wd w W320 [(b235, .cells #[.int .i64 0, .int .i64 0, .string (⟨#[]⟩ : ByteArray), .int .i64 0, .int .i64 0, .string (⟨#[]⟩ : ByteArray), .bool false, .slice none 0 0, .int .u64 0, .int .u64 0, .int .u64 0, .int .i64 0, .bool false, .int .i64 0] 26 (0, 0)), (b273, .cells #[.int .i64 (rdL (0 : Int) ([t269.f0, t269.f1, t269.f2, t269.f3, t269.f4, t269.f5, t269.f6] : List Int) a0), .int .i64 0, .string (⟨#[]⟩ : ByteArray), .int .i64 0, .int .i64 0, .string (⟨#[]⟩ : ByteArray), .bool false, .slice none 0 0, .int .u64 t278.1, .int .u64 t284.1, .int .u64 0, .int .i64 a1, .bool (a0 == 6), .int .i64 x319] 26 (0, 0))] []) ?_ ?_
              · skip
                refine wp_seq_k (fun K315 hK316 => ?_)
                refine wp_region_lit ?_
                refine stepp ha 92 (.bool ((band .u64 (t290.1.fdiv 16777216) 1) == 1)) (by kernel_rfl) (by kernel_rfl) ?_; clear ha a; intro a ha
                refine endl ?_
                refine thenN (hK316 _ _ ?_); clear hK316
                by_cases hp317 : (band .u64 (t290.1.fdiv 16777216) 1) = 1
                · skip
                  replace h := ite_pos' h hp317
                  refine condT ha (by kernel_rfl) (by kernel_rfl) (t := ((band .u64 (t290.1.fdiv 16777216) 1) == 1)) (ieq_t hp317) ?_
                  refine wp_region_lit ?_
                  refine stepp ha 93 (.pointer (some ⟨b273, 13, none⟩)) (by kernel_rfl) (by kernel_rfl) ?_; clear ha a; intro a ha
                  refine stepst ha HW 0 (b := b273) (C := #[.int .i64 (rdL (0 : Int) ([t269.f0, t269.f1, t269.f2, t269.f3, t269.f4, t269.f5, t269.f6] : List Int) a0), .int .i64 0, .string (⟨#[]⟩ : ByteArray), .int .i64 0, .int .i64 0, .string (⟨#[]⟩ : ByteArray), .bool false, .slice none 0 0, .int .u64 t278.1, .int .u64 t284.1, .int .u64 0, .int .i64 a1, .bool (a0 == 6), .int .i64 1]) (T := 26) (by kernel_rfl) 3 13 (.tmp 93) (.const (.int .i64 2)) (.int .i64 2) #[.int .i64 (rdL (0 : Int) ([t269.f0, t269.f1, t269.f2, t269.f3, t269.f4, t269.f5, t269.f6] : List Int) a0), .int .i64 0, .string (⟨#[]⟩ : ByteArray), .int .i64 0, .int .i64 0, .string (⟨#[]⟩ : ByteArray), .bool false, .slice none 0 0, .int .u64 t278.1, .int .u64 t284.1, .int .u64 0, .int .i64 a1, .bool (a0 == 6), .int .i64 2] rfl (by kernel_rfl) (by kernel_rfl) (by kernel_rfl) (by kernel_rfl) (by kernel_rfl) (by kernel_rfl) (by kernel_rfl) ?_; clear ha HW a; intro a W318 HW ha
                  refine endl ?_
                  exact thenN ⟨2, h, ha.sub (subs_cons (by kernel_rfl) (subs_cons (by kernel_rfl) (subs_cons (by kernel_rfl) (subs_cons (by kernel_rfl) (subs_nil _))))), HW.pick [1, 0] [] (by decide) (by decide) (by kernel_rfl) (by kernel_rfl)⟩
                · skip
                  replace h := ite_neg' h hp317
                  refine condF ha (by kernel_rfl) (by kernel_rfl) (t := ((band .u64 (t290.1.fdiv 16777216) 1) == 1)) (ieq_f hp317) ?_
                  refine wp_skip ?_
                  exact thenN ⟨1, h, ha.sub (subs_cons (by kernel_rfl) (subs_cons (by kernel_rfl) (subs_cons (by kernel_rfl) (subs_cons (by kernel_rfl) (subs_nil _))))), HW.pick [1, 0] [] (by decide) (by decide) (by kernel_rfl) (by kernel_rfl)⟩
              · skip
                intro a W320 hJ
                obtain ⟨x319, h, ha, HW⟩ := hJ
                replace h : prout_Change.j0 K a0 a1 t269 t278 t284 t290 x319 = some r := h
                unfold prout_Change.j0 at h
                refine hK314 _ _ ?_; clear hK314
                refine wp_seq_k (fun K321 hK322 => ?_)
                refine cutn (fun a W328 => ∃ (x327 : Int), prout_Change.j1 K a0 a1 t269 t284 t290 x319 x327 = some r ∧ Has 115 [(1, .int .i64 a1), (6, .pointer (some ⟨b235, 0, none⟩)), (8, .pointer (some ⟨b273, 0, none⟩)), (16, .bool ((bandNot .u64 t290.1 16777216) == 0))] a ∧ Wd w W328 [(b235, .cells #[.int .i64 0, .int .i64 0, .string (⟨#[]⟩ : ByteArray), .int .i64 0, .int .i64 0, .string (⟨#[]⟩ : ByteArray), .bool false, .slice none 0 0, .int .u64 0, .int .u64 0, .int .u64 0, .int .i64 0, .bool false, .int .i64 0] 26 (0, 0)), (b273, .cells #[.int .i64 (rdL (0 : Int) ([t269.f0, t269.f1, t269.f2, t269.f3, t269.f4, t269.f5, t269.f6] : List Int) a0), .int .i64 0, .string (⟨#[]⟩ : ByteArray), .int .i64 0, .int .i64 0, .string (⟨#[]⟩ : ByteArray), .bool false, .slice none 0 0, .int .u64 x327, .int .u64 t284.1, .int .u64 0, .int .i64 a1, .bool (a0 == 6), .int .i64 x319] 26 (0, 0))] []) ?_ ?_
                · skip
                  refine wp_seq_k (fun K323 hK324 => ?_)
                  refine wp_region_lit ?_
                  refine stepp ha 94 (.pointer (some ⟨b273, 12, none⟩)) (by kernel_rfl) (by kernel_rfl) ?_; clear ha a; intro a ha
                  refine stepl ha 95 (HW.ca (i := 1) (b := b273) (C := #[.int .i64 (rdL (0 : Int) ([t269.f0, t269.f1, t269.f2, t269.f3, t269.f4, t269.f5, t269.f6] : List Int) a0), .int .i64 0, .string (⟨#[]⟩ : ByteArray), .int .i64 0, .int .i64 0, .string (⟨#[]⟩ : ByteArray), .bool false, .slice none 0 0, .int .u64 t278.1, .int .u64 t284.1, .int .u64 0, .int .i64 a1, .bool (a0 == 6), .int .i64 x319]) (T := 26) (fr := (0, 0)) (by kernel_rfl)) 4 12 (.tmp 94) (.bool (a0 == 6)) rfl (by kernel_rfl) (by kernel_rfl) (by kernel_rfl) ?_; clear ha a; intro a ha
                  refine endl ?_
                  refine thenN (hK324 _ _ ?_); clear hK324
                  by_cases hp325 : a0 = 6
                  · skip
                    replace h := ite_pos' h hp325
                    refine condT ha (by kernel_rfl) (by kernel_rfl) (t := (a0 == 6)) (ieq_t hp325) ?_
                    refine wp_region_lit ?_
                    refine stepp ha 96 (.pointer (some ⟨b273, 8, none⟩)) (by kernel_rfl) (by kernel_rfl) ?_; clear ha a; intro a ha
                    refine stepst ha HW 1 (b := b273) (C := #[.int .i64 (rdL (0 : Int) ([t269.f0, t269.f1, t269.f2, t269.f3, t269.f4, t269.f5, t269.f6] : List Int) a0), .int .i64 0, .string (⟨#[]⟩ : ByteArray), .int .i64 0, .int .i64 0, .string (⟨#[]⟩ : ByteArray), .bool false, .slice none 0 0, .int .u64 t278.1, .int .u64 t284.1, .int .u64 0, .int .i64 a1, .bool (a0 == 6), .int .i64 x319]) (T := 26) (by kernel_rfl) 24 8 (.tmp 96) (.const (.int .u64 0)) (.int .u64 0) #[.int .i64 (rdL (0 : Int) ([t269.f0, t269.f1, t269.f2, t269.f3, t269.f4, t269.f5, t269.f6] : List Int) a0), .int .i64 0, .string (⟨#[]⟩ : ByteArray), .int .i64 0, .int .i64 0, .string (⟨#[]⟩ : ByteArray), .bool false, .slice none 0 0, .int .u64 0, .int .u64 t284.1, .int .u64 0, .int .i64 a1, .bool (a0 == 6), .int .i64 x319] rfl (by kernel_rfl) (by kernel_rfl) (by kernel_rfl) (by kernel_rfl) (by kernel_rfl) (by kernel_rfl) (by kernel_rfl) ?_; clear ha HW a; intro a W326 HW ha
                    refine endl ?_
                    exact thenN ⟨0, h, ha.sub (subs_cons (by kernel_rfl) (subs_cons (by kernel_rfl) (subs_cons (by kernel_rfl) (subs_cons (by kernel_rfl) (subs_nil _))))), HW.pick [0, 1] [] (by decide) (by decide) (by kernel_rfl) (by kernel_rfl)⟩
                  · skip
                    replace h := ite_neg' h hp325
                    refine condF ha (by kernel_rfl) (by kernel_rfl) (t := (a0 == 6)) (ieq_f hp325) ?_
                    refine wp_skip ?_
                    exact thenN ⟨t278.1, h, ha.sub (subs_cons (by kernel_rfl) (subs_cons (by kernel_rfl) (subs_cons (by kernel_rfl) (subs_cons (by kernel_rfl) (subs_nil _))))), HW.pick [0, 1] [] (by decide) (by decide) (by kernel_rfl) (by kernel_rfl)⟩
                · skip
                  intro a W328 hJ
                  obtain ⟨x327, h, ha, HW⟩ := hJ
                  replace h : prout_Change.j1 K a0 a1 t269 t284 t290 x319 x327 = some r := h
                  unfold prout_Change.j1 at h
                  refine hK322 _ _ ?_; clear hK322
                  refine wp_region_lit ?_
                  refine stepp ha 97 (.bool ((bandNot .u64 t290.1 16777216) == 0)) (by kernel_rfl) (by kernel_rfl) ?_; clear ha a; intro a ha
                  refine stepp ha 98 (.bool ((bandNot .u64 t290.1 16777216) == 0)) (by kernel_rfl) (by kernel_rfl) ?_; clear ha a; intro a ha
                  by_cases hp329 : (bandNot .u64 t290.1 16777216) = 0
                  · skip
                    replace h := ite_pos' h hp329
                    replace ha := ha.bool 98 (by kernel_rfl) (ieq_t hp329)
                    refine stepp ha 99 (.int .i64 a1) (by kernel_rfl) (by kernel_rfl) ?_; clear ha a; intro a ha
                    refine stepp ha 100 (.bool (a1 == 0)) (by kernel_rfl) (by kernel_rfl) ?_; clear ha a; intro a ha
                    refine stepp ha 101 (.bool (a1 == 0)) (by kernel_rfl) (by kernel_rfl) ?_; clear ha a; intro a ha
                    refine stepp ha 16 (.bool (a1 == 0)) (by kernel_rfl) (by kernel_rfl) ?_; clear ha a; intro a ha
                    refine endl ?_
                    refine blkN ?_
                    exact thenN ⟨(a1 == 0), x327, t284.1, 0, (a0 == 6), x319, h, ha.sub (subs_cons (by kernel_rfl) (subs_cons (by kernel_rfl) (subs_cons (by kernel_rfl) (subs_nil _)))), HW.pick [0, 1] [] (by decide) (by decide) (by kernel_rfl) (by kernel_rfl)⟩
                  · skip
                    replace h := ite_neg' h hp329
                    replace ha := ha.bool 98 (by kernel_rfl) (ieq_f hp329)
                    refine stepo ha 99 (by kernel_rfl) ?_; clear ha a; intro a ha
                    refine stepo ha 100 (by kernel_rfl) ?_; clear ha a; intro a ha
                    refine stepp ha 101 (.bool false) (by kernel_rfl) (by kernel_rfl) ?_; clear ha a; intro a ha
                    refine stepp ha 16 (.bool false) (by kernel_rfl) (by kernel_rfl) ?_; clear ha a; intro a ha
                    refine endl ?_
                    refine blkN ?_
                    exact thenN ⟨false, x327, t284.1, 0, (a0 == 6), x319, h, ha.sub (subs_cons (by kernel_rfl) (subs_cons (by kernel_rfl) (subs_cons (by kernel_rfl) (subs_nil _)))), HW.pick [0, 1] [] (by decide) (by decide) (by kernel_rfl) (by kernel_rfl)⟩
            · skip
              replace h := ite_neg' h hp307
              refine condF ha (by kernel_rfl) (by kernel_rfl) (t := ((rdL (0 : Int) ([t269.f0, t269.f1, t269.f2, t269.f3, t269.f4, t269.f5, t269.f6] : List Int) a0) == 8)) (ieq_f hp307) ?_
              refine wp_seq_k (fun K330 hK331 => ?_)
              refine wp_region_lit ?_
              refine stepp ha 103 (.bool ((rdL (0 : Int) ([t269.f0, t269.f1, t269.f2, t269.f3, t269.f4, t269.f5, t269.f6] : List Int) a0) == 12)) (by kernel_rfl) (by kernel_rfl) ?_; clear ha a; intro a ha
              refine stepp ha 102 (.bool ((rdL (0 : Int) ([t269.f0, t269.f1, t269.f2, t269.f3, t269.f4, t269.f5, t269.f6] : List Int) a0) == 12)) (by kernel_rfl) (by kernel_rfl) ?_; clear ha a; intro a ha
              refine endl ?_
              refine thenN (hK331 _ _ ?_); clear hK331
              by_cases hp332 : (rdL (0 : Int) ([t269.f0, t269.f1, t269.f2, t269.f3, t269.f4, t269.f5, t269.f6] : List Int) a0) = 12
              · skip
                replace h := ite_pos' h hp332
                refine condT ha (by kernel_rfl) (by kernel_rfl) (t := ((rdL (0 : Int) ([t269.f0, t269.f1, t269.f2, t269.f3, t269.f4, t269.f5, t269.f6] : List Int) a0) == 12)) (ieq_t hp332) ?_
                refine wp_seq_k (fun K333 hK334 => ?_)
                refine wp_region_lit ?_
                refine stepp ha 104 (.int .u64 t284.1) (by kernel_rfl) (by kernel_rfl) ?_; clear ha a; intro a ha
                refine stepp ha 105 (.pointer (some ⟨b273, 10, none⟩)) (by kernel_rfl) (by kernel_rfl) ?_; clear ha a; intro a ha
                refine stepst ha HW 0 (b := b273) (C := #[.int .i64 (rdL (0 : Int) ([t269.f0, t269.f1, t269.f2, t269.f3, t269.f4, t269.f5, t269.f6] : List Int) a0), .int .i64 0, .string (⟨#[]⟩ : ByteArray), .int .i64 0, .int .i64 0, .string (⟨#[]⟩ : ByteArray), .bool false, .slice none 0 0, .int .u64 t278.1, .int .u64 0, .int .u64 0, .int .i64 a1, .bool false, .int .i64 0]) (T := 26) (by kernel_rfl) 24 10 (.tmp 105) (.tmp 104) (.int .u64 t284.1) #[.int .i64 (rdL (0 : Int) ([t269.f0, t269.f1, t269.f2, t269.f3, t269.f4, t269.f5, t269.f6] : List Int) a0), .int .i64 0, .string (⟨#[]⟩ : ByteArray), .int .i64 0, .int .i64 0, .string (⟨#[]⟩ : ByteArray), .bool false, .slice none 0 0, .int .u64 t278.1, .int .u64 0, .int .u64 t284.1, .int .i64 a1, .bool false, .int .i64 0] rfl (by kernel_rfl) (by kernel_rfl) (by kernel_rfl) (by kernel_rfl) (by kernel_rfl) (by kernel_rfl) (by kernel_rfl) ?_; clear ha HW a; intro a W335 HW ha
                refine endl ?_
                refine thenN (hK334 _ _ ?_); clear hK334
                refine wp_region_lit ?_
                refine stepp ha 106 (.bool ((bandNot .u64 t290.1 16777216) == 0)) (by kernel_rfl) (by kernel_rfl) ?_; clear ha a; intro a ha
                refine stepp ha 107 (.bool ((bandNot .u64 t290.1 16777216) == 0)) (by kernel_rfl) (by kernel_rfl) ?_; clear ha a; intro a ha
                by_cases hp336 : (bandNot .u64 t290.1 16777216) = 0
                · skip
                  replace h := ite_pos' h hp336
                  replace ha := ha.bool 107 (by kernel_rfl) (ieq_t hp336)
                  refine stepp ha 108 (.bool ((band .u64 (t290.1.fdiv 16777216) 1) == 1)) (by kernel_rfl) (by kernel_rfl) ?_; clear ha a; intro a ha
                  refine stepp ha 109 (.bool (!((band .u64 (t290.1.fdiv 16777216) 1) == 1))) (by kernel_rfl) (by kernel_rfl) ?_; clear ha a; intro a ha
                  refine stepp ha 110 (.bool (!((band .u64 (t290.1.fdiv 16777216) 1) == 1))) (by kernel_rfl) (by kernel_rfl) ?_; clear ha a; intro a ha
                  refine stepp ha 16 (.bool (!((band .u64 (t290.1.fdiv 16777216) 1) == 1))) (by kernel_rfl) (by kernel_rfl) ?_; clear ha a; intro a ha
                  refine endl ?_
                  refine blkN ?_
                  exact thenN ⟨(!((band .u64 (t290.1.fdiv 16777216) 1) == 1)), t278.1, 0, t284.1, false, 0, h, ha.sub (subs_cons (by kernel_rfl) (subs_cons (by kernel_rfl) (subs_cons (by kernel_rfl) (subs_nil _)))), HW.pick [1, 0] [] (by decide) (by decide) (by kernel_rfl) (by kernel_rfl)⟩
                · skip
                  replace h := ite_neg' h hp336
                  replace ha := ha.bool 107 (by kernel_rfl) (ieq_f hp336)
                  refine stepo ha 108 (by kernel_rfl) ?_; clear ha a; intro a ha
                  refine stepo ha 109 (by kernel_rfl) ?_; clear ha a; intro a ha
                  refine stepp ha 110 (.bool false) (by kernel_rfl) (by kernel_rfl) ?_; clear ha a; intro a ha
                  refine stepp ha 16 (.bool false) (by kernel_rfl) (by kernel_rfl) ?_; clear ha a; intro a ha
                  refine endl ?_
                  refine blkN ?_
                  exact thenN ⟨false, t278.1, 0, t284.1, false, 0, h, ha.sub (subs_cons (by kernel_rfl) (subs_cons (by kernel_rfl) (subs_cons (by kernel_rfl) (subs_nil _)))), HW.pick [1, 0] [] (by decide) (by decide) (by kernel_rfl) (by kernel_rfl)⟩
              · skip
                replace h := ite_neg' h hp332
                refine condF ha (by kernel_rfl) (by kernel_rfl) (t := ((rdL (0 : Int) ([t269.f0, t269.f1, t269.f2, t269.f3, t269.f4, t269.f5, t269.f6] : List Int) a0) == 12)) (ieq_f hp332) ?_
                refine wp_region_lit ?_
                refine stepp ha 66 (.bool ((bandNot .u64 t290.1 16777216) == 0)) (by kernel_rfl) (by kernel_rfl) ?_; clear ha a; intro a ha
                refine stepp ha 67 (.bool ((bandNot .u64 t290.1 16777216) == 0)) (by kernel_rfl) (by kernel_rfl) ?_; clear ha a; intro a ha
                by_cases hp337 : (bandNot .u64 t290.1 16777216) = 0
                · skip
                  replace h := ite_pos' h hp337
                  replace ha := ha.bool 67 (by kernel_rfl) (ieq_t hp337)
                  refine stepp ha 68 (.bool ((band .u64 (t290.1.fdiv 16777216) 1) == 1)) (by kernel_rfl) (by kernel_rfl) ?_; clear ha a; intro a ha
                  refine stepp ha 69 (.bool (!((band .u64 (t290.1.fdiv 16777216) 1) == 1))) (by kernel_rfl) (by kernel_rfl) ?_; clear ha a; intro a ha
                  refine stepp ha 70 (.bool (!((band .u64 (t290.1.fdiv 16777216) 1) == 1))) (by kernel_rfl) (by kernel_rfl) ?_; clear ha a; intro a ha
                  refine stepp ha 71 (.bool (!((band .u64 (t290.1.fdiv 16777216) 1) == 1))) (by kernel_rfl) (by kernel_rfl) ?_; clear ha a; intro a ha
                  by_cases hp338 : (band .u64 (t290.1.fdiv 16777216) 1) = 1
                  · skip
                    replace h := ite_pos' h hp338
                    replace ha := ha.bool 71 (by kernel_rfl) (not_f (ieq_t hp338))
                    refine stepo ha 72 (by kernel_rfl) ?_; clear ha a; intro a ha
                    refine stepo ha 73 (by kernel_rfl) ?_; clear ha a; intro a ha
                    refine stepp ha 74 (.bool false) (by kernel_rfl) (by kernel_rfl) ?_; clear ha a; intro a ha
                    refine stepp ha 75 (.bool false) (by kernel_rfl) (by kernel_rfl) ?_; clear ha a; intro a ha
                    refine stepo ha 76 (by kernel_rfl) ?_; clear ha a; intro a ha
                    refine stepo ha 77 (by kernel_rfl) ?_; clear ha a; intro a ha
                    refine stepo ha 78 (by kernel_rfl) ?_; clear ha a; intro a ha
                    refine stepo ha 79 (by kernel_rfl) ?_; clear ha a; intro a ha
                    refine stepo ha 80 (by kernel_rfl) ?_; clear ha a; intro a ha
                    refine stepo ha 81 (by kernel_rfl) ?_; clear ha a; intro a ha
                    refine stepo ha 82 (by kernel_rfl) ?_; clear ha a; intro a ha
                    refine stepp ha 83 (.bool false) (by kernel_rfl) (by kernel_rfl) ?_; clear ha a; intro a ha
                    refine stepp ha 16 (.bool false) (by kernel_rfl) (by kernel_rfl) ?_; clear ha a; intro a ha
                    refine endl ?_
                    refine blkN ?_
                    exact thenN ⟨false, t278.1, 0, 0, false, 0, h, ha.sub (subs_cons (by kernel_rfl) (subs_cons (by kernel_rfl) (subs_cons (by kernel_rfl) (subs_nil _)))), HW.pick [1, 0] [] (by decide) (by decide) (by kernel_rfl) (by kernel_rfl)⟩
                  · skip
                    replace h := ite_neg' h hp338
                    replace ha := ha.bool 71 (by kernel_rfl) (not_t (ieq_f hp338))
                    refine stepp ha 72 (.int .u64 t284.1) (by kernel_rfl) (by kernel_rfl) ?_; clear ha a; intro a ha
                    refine stepp ha 73 (.bool (t284.1 == 0)) (by kernel_rfl) (by kernel_rfl) ?_; clear ha a; intro a ha
                    refine stepp ha 74 (.bool (t284.1 == 0)) (by kernel_rfl) (by kernel_rfl) ?_; clear ha a; intro a ha
                    refine stepp ha 75 (.bool (t284.1 == 0)) (by kernel_rfl) (by kernel_rfl) ?_; clear ha a; intro a ha
                    by_cases hp339 : t284.1 = 0
                    · skip
                      replace h := ite_pos' h hp339
                      replace ha := ha.bool 75 (by kernel_rfl) (ieq_t hp339)
                      refine stepp ha 76 (.int .i64 a1) (by kernel_rfl) (by kernel_rfl) ?_; clear ha a; intro a ha
                      refine stepp ha 77 (.bool (a1 == 0)) (by kernel_rfl) (by kernel_rfl) ?_; clear ha a; intro a ha
                      refine stepp ha 78 (.bool (a1 == 0)) (by kernel_rfl) (by kernel_rfl) ?_; clear ha a; intro a ha
                      by_cases hp340 : a1 = 0
                      · skip
                        replace h := ite_pos' h hp340
                        replace ha := ha.bool 78 (by kernel_rfl) (ieq_t hp340)
                        refine stepo ha 79 (by kernel_rfl) ?_; clear ha a; intro a ha
                        refine stepo ha 80 (by kernel_rfl) ?_; clear ha a; intro a ha
                        refine stepo ha 81 (by kernel_rfl) ?_; clear ha a; intro a ha
                        refine stepp ha 82 (.bool true) (by kernel_rfl) (by kernel_rfl) ?_; clear ha a; intro a ha
                        refine stepp ha 83 (.bool true) (by kernel_rfl) (by kernel_rfl) ?_; clear ha a; intro a ha
                        refine stepp ha 16 (.bool true) (by kernel_rfl) (by kernel_rfl) ?_; clear ha a; intro a ha
                        refine endl ?_
                        refine blkN ?_
                        exact thenN ⟨true, t278.1, 0, 0, false, 0, h, ha.sub (subs_cons (by kernel_rfl) (subs_cons (by kernel_rfl) (subs_cons (by kernel_rfl) (subs_nil _)))), HW.pick [1, 0] [] (by decide) (by decide) (by kernel_rfl) (by kernel_rfl)⟩
                      · skip
                        replace h := ite_neg' h hp340
                        replace ha := ha.bool 78 (by kernel_rfl) (ieq_f hp340)
                        refine stepp ha 79 (.pointer (some ⟨b273, 0, none⟩)) (by kernel_rfl) (by kernel_rfl) ?_; clear ha a; intro a ha
                        refine stepl ha 80 (HW.ca (i := 0) (b := b273) (C := #[.int .i64 (rdL (0 : Int) ([t269.f0, t269.f1, t269.f2, t269.f3, t269.f4, t269.f5, t269.f6] : List Int) a0), .int .i64 0, .string (⟨#[]⟩ : ByteArray), .int .i64 0, .int .i64 0, .string (⟨#[]⟩ : ByteArray), .bool false, .slice none 0 0, .int .u64 t278.1, .int .u64 0, .int .u64 0, .int .i64 a1, .bool false, .int .i64 0]) (T := 26) (fr := (0, 0)) (by kernel_rfl)) 3 0 (.tmp 79) (.int .i64 (rdL (0 : Int) ([t269.f0, t269.f1, t269.f2, t269.f3, t269.f4, t269.f5, t269.f6] : List Int) a0)) rfl (by kernel_rfl) (by kernel_rfl) (by kernel_rfl) ?_; clear ha a; intro a ha
                        refine stepp ha 81 (.bool ((rdL (0 : Int) ([t269.f0, t269.f1, t269.f2, t269.f3, t269.f4, t269.f5, t269.f6] : List Int) a0) != 11)) (by kernel_rfl) (by kernel_rfl) ?_; clear ha a; intro a ha
                        refine stepp ha 82 (.bool ((rdL (0 : Int) ([t269.f0, t269.f1, t269.f2, t269.f3, t269.f4, t269.f5, t269.f6] : List Int) a0) != 11)) (by kernel_rfl) (by kernel_rfl) ?_; clear ha a; intro a ha
                        refine stepp ha 83 (.bool ((rdL (0 : Int) ([t269.f0, t269.f1, t269.f2, t269.f3, t269.f4, t269.f5, t269.f6] : List Int) a0) != 11)) (by kernel_rfl) (by kernel_rfl) ?_; clear ha a; intro a ha
                        refine stepp ha 16 (.bool ((rdL (0 : Int) ([t269.f0, t269.f1, t269.f2, t269.f3, t269.f4, t269.f5, t269.f6] : List Int) a0) != 11)) (by kernel_rfl) (by kernel_rfl) ?_; clear ha a; intro a ha
                        refine endl ?_
                        refine blkN ?_
                        exact thenN ⟨((rdL (0 : Int) ([t269.f0, t269.f1, t269.f2, t269.f3, t269.f4, t269.f5, t269.f6] : List Int) a0) != 11), t278.1, 0, 0, false, 0, h, ha.sub (subs_cons (by kernel_rfl) (subs_cons (by kernel_rfl) (subs_cons (by kernel_rfl) (subs_nil _)))), HW.pick [1, 0] [] (by decide) (by decide) (by kernel_rfl) (by kernel_rfl)⟩
                    · skip
                      replace h := ite_neg' h hp339
                      replace ha := ha.bool 75 (by kernel_rfl) (ieq_f hp339)
                      refine stepo ha 76 (by kernel_rfl) ?_; clear ha a; intro a ha
                      refine stepo ha 77 (by kernel_rfl) ?_; clear ha a; intro a ha
                      refine stepo ha 78 (by kernel_rfl) ?_; clear ha a; intro a ha
                      refine stepo ha 79 (by kernel_rfl) ?_; clear ha a; intro a ha
                      refine stepo ha 80 (by kernel_rfl) ?_; clear ha a; intro a ha
                      refine stepo ha 81 (by kernel_rfl) ?_; clear ha a; intro a ha
                      refine stepo ha 82 (by kernel_rfl) ?_; clear ha a; intro a ha
                      refine stepp ha 83 (.bool false) (by kernel_rfl) (by kernel_rfl) ?_; clear ha a; intro a ha
                      refine stepp ha 16 (.bool false) (by kernel_rfl) (by kernel_rfl) ?_; clear ha a; intro a ha
                      refine endl ?_
                      refine blkN ?_
                      exact thenN ⟨false, t278.1, 0, 0, false, 0, h, ha.sub (subs_cons (by kernel_rfl) (subs_cons (by kernel_rfl) (subs_cons (by kernel_rfl) (subs_nil _)))), HW.pick [1, 0] [] (by decide) (by decide) (by kernel_rfl) (by kernel_rfl)⟩
                · skip
                  replace h := ite_neg' h hp337
                  replace ha := ha.bool 67 (by kernel_rfl) (ieq_f hp337)
                  refine stepo ha 68 (by kernel_rfl) ?_; clear ha a; intro a ha
                  refine stepo ha 69 (by kernel_rfl) ?_; clear ha a; intro a ha
                  refine stepp ha 70 (.bool false) (by kernel_rfl) (by kernel_rfl) ?_; clear ha a; intro a ha
                  refine stepp ha 71 (.bool false) (by kernel_rfl) (by kernel_rfl) ?_; clear ha a; intro a ha
                  refine stepo ha 72 (by kernel_rfl) ?_; clear ha a; intro a ha
                  refine stepo ha 73 (by kernel_rfl) ?_; clear ha a; intro a ha
                  refine stepp ha 74 (.bool false) (by kernel_rfl) (by kernel_rfl) ?_; clear ha a; intro a ha
                  refine stepp ha 75 (.bool false) (by kernel_rfl) (by kernel_rfl) ?_; clear ha a; intro a ha
                  refine stepo ha 76 (by kernel_rfl) ?_; clear ha a; intro a ha
                  refine stepo ha 77 (by kernel_rfl) ?_; clear ha a; intro a ha
                  refine stepo ha 78 (by kernel_rfl) ?_; clear ha a; intro a ha
                  refine stepo ha 79 (by kernel_rfl) ?_; clear ha a; intro a ha
                  refine stepo ha 80 (by kernel_rfl) ?_; clear ha a; intro a ha
                  refine stepo ha 81 (by kernel_rfl) ?_; clear ha a; intro a ha
                  refine stepo ha 82 (by kernel_rfl) ?_; clear ha a; intro a ha
                  refine stepp ha 83 (.bool false) (by kernel_rfl) (by kernel_rfl) ?_; clear ha a; intro a ha
                  refine stepp ha 16 (.bool false) (by kernel_rfl) (by kernel_rfl) ?_; clear ha a; intro a ha
                  refine endl ?_
                  refine blkN ?_
                  exact thenN ⟨false, t278.1, 0, 0, false, 0, h, ha.sub (subs_cons (by kernel_rfl) (subs_cons (by kernel_rfl) (subs_cons (by kernel_rfl) (subs_nil _)))), HW.pick [1, 0] [] (by decide) (by decide) (by kernel_rfl) (by kernel_rfl)⟩
          · skip
            intro a W347 hJ
            obtain ⟨x341, x342, x343, x344, x345, x346, h, ha, HW⟩ := hJ
            replace h : prout_Change.j2 K a0 a1 t269 x341 x342 x343 x344 x345 x346 = some r := h
            unfold prout_Change.j2 at h
            refine hK302 _ _ ?_; clear hK302
            refine wp_seq_k (fun K348 hK349 => ?_)
            refine wp_seq_k (fun K350 hK351 => ?_)
            refine wp_region_lit ?_
            refine stepp ha 111 (.bool x341) (by kernel_rfl) (by kernel_rfl) ?_; clear ha a; intro a ha
            refine stepp ha 112 (.bool (!x341)) (by kernel_rfl) (by kernel_rfl) ?_; clear ha a; intro a ha
            refine endl ?_
            refine thenN (hK351 _ _ ?_); clear hK351
            by_cases hp352 : x341 = true
            · skip
              replace h := ite_pos' h hp352
              refine condF ha (by kernel_rfl) (by kernel_rfl) (t := (!x341)) (not_f (hp352)) ?_
              refine wp_skip ?_
              refine thenN (hK349 _ _ ?_); clear hK349
              refine wp_seq_k (fun K357 hK358 => ?_)
              refine wp_region_lit ?_
              refine stepl ha 114 (HW.ca (i := 1) (b := b273) (C := #[.int .i64 (rdL (0 : Int) ([t269.f0, t269.f1, t269.f2, t269.f3, t269.f4, t269.f5, t269.f6] : List Int) a0), .int .i64 0, .string (⟨#[]⟩ : ByteArray), .int .i64 0, .int .i64 0, .string (⟨#[]⟩ : ByteArray), .bool false, .slice none 0 0, .int .u64 x342, .int .u64 x343, .int .u64 x344, .int .i64 a1, .bool x345, .int .i64 x346]) (T := 26) (fr := (0, 0)) (by kernel_rfl)) 26 0 (.tmp 8) (.agg #[.int .i64 (rdL (0 : Int) ([t269.f0, t269.f1, t269.f2, t269.f3, t269.f4, t269.f5, t269.f6] : List Int) a0), .int .i64 0, .string (⟨#[]⟩ : ByteArray), .int .i64 0, .int .i64 0, .string (⟨#[]⟩ : ByteArray), .bool false, .slice none 0 0, .int .u64 x342, .int .u64 x343, .int .u64 x344, .int .i64 a1, .bool x345, .int .i64 x346]) rfl (by kernel_rfl) (by kernel_rfl) (by kernel_rfl) ?_; clear ha a; intro a ha
              refine stepst ha HW 0 (b := b235) (C := #[.int .i64 0, .int .i64 0, .string (⟨#[]⟩ : ByteArray), .int .i64 0, .int .i64 0, .string (⟨#[]⟩ : ByteArray), .bool false, .slice none 0 0, .int .u64 0, .int .u64 0, .int .u64 0, .int .i64 0, .bool false, .int .i64 0]) (T := 26) (by kernel_rfl) 26 0 (.tmp 6) (.tmp 114) (.agg #[.int .i64 (rdL (0 : Int) ([t269.f0, t269.f1, t269.f2, t269.f3, t269.f4, t269.f5, t269.f6] : List Int) a0), .int .i64 0, .string (⟨#[]⟩ : ByteArray), .int .i64 0, .int .i64 0, .string (⟨#[]⟩ : ByteArray), .bool false, .slice none 0 0, .int .u64 x342, .int .u64 x343, .int .u64 x344, .int .i64 a1, .bool x345, .int .i64 x346]) #[.int .i64 (rdL (0 : Int) ([t269.f0, t269.f1, t269.f2, t269.f3, t269.f4, t269.f5, t269.f6] : List Int) a0), .int .i64 0, .string (⟨#[]⟩ : ByteArray), .int .i64 0, .int .i64 0, .string (⟨#[]⟩ : ByteArray), .bool false, .slice none 0 0, .int .u64 x342, .int .u64 x343, .int .u64 x344, .int .i64 a1, .bool x345, .int .i64 x346] rfl (by kernel_rfl) (by kernel_rfl) (by kernel_rfl) (by kernel_rfl) (by kernel_rfl) (by kernel_rfl) (by kernel_rfl) ?_; clear ha HW a; intro a W359 HW ha
              refine stepp ha 7 (.int .i64 0) (by kernel_rfl) (by kernel_rfl) ?_; clear ha a; intro a ha
              refine endl ?_
              refine thenN (hK358 _ _ ?_); clear hK358
              refine wp_ret ?_
              obtain rfl := Option.some.inj h
              replace HW := HW.nilo 61 2
              exact finv ha _ _ rfl (.cell (ad := ⟨b235, 0, none⟩) (v := .agg #[.int .i64 (rdL (0 : Int) ([t269.f0, t269.f1, t269.f2, t269.f3, t269.f4, t269.f5, t269.f6] : List Int) a0), .int .i64 0, .string (⟨#[]⟩ : ByteArray), .int .i64 0, .int .i64 0, .string (⟨#[]⟩ : ByteArray), .bool false, .slice none 0 0, .int .u64 x342, .int .u64 x343, .int .u64 x344, .int .i64 a1, .bool x345, .int .i64 x346]) (by kernel_rfl) (run_loadVar_ca0 (HW.ca (i := 0) (b := b235) (C := #[.int .i64 (rdL (0 : Int) ([t269.f0, t269.f1, t269.f2, t269.f3, t269.f4, t269.f5, t269.f6] : List Int) a0), .int .i64 0, .string (⟨#[]⟩ : ByteArray), .int .i64 0, .int .i64 0, .string (⟨#[]⟩ : ByteArray), .bool false, .slice none 0 0, .int .u64 x342, .int .u64 x343, .int .u64 x344, .int .i64 a1, .bool x345, .int .i64 x346]) (T := 26) (fr := (0, 0)) (by kernel_rfl)) 26 0 (.agg #[.int .i64 (rdL (0 : Int) ([t269.f0, t269.f1, t269.f2, t269.f3, t269.f4, t269.f5, t269.f6] : List Int) a0), .int .i64 0, .string (⟨#[]⟩ : ByteArray), .int .i64 0, .int .i64 0, .string (⟨#[]⟩ : ByteArray), .bool false, .slice none 0 0, .int .u64 x342, .int .u64 x343, .int .u64 x344, .int .i64 a1, .bool x345, .int .i64 x346]) (by kernel_rfl)) (.tmp (v := .int .i64 0) (by kernel_rfl) .nil)) (.tuple #[.agg #[.int .i64 (rdL (0 : Int) ([t269.f0, t269.f1, t269.f2, t269.f3, t269.f4, t269.f5, t269.f6] : List Int) a0), .int .i64 0, .string (⟨#[]⟩ : ByteArray), .int .i64 0, .int .i64 0, .string (⟨#[]⟩ : ByteArray), .bool false, .slice none 0 0, .int .u64 x342, .int .u64 x343, .int .u64 x344, .int .i64 a1, .bool x345, .int .i64 x346], .int .i64 0]) rfl ⟨none, 0, rfl, HW.pick [] [0] (by decide) (by decide) rfl (by kernel_rfl)⟩
            · skip
              replace h := ite_neg' h hp352
              refine condT ha (by kernel_rfl) (by kernel_rfl) (t := (!x341)) (not_t (bool_f hp352)) ?_
              refine wp_seq_k (fun K353 hK354 => ?_)
              refine wp_region_lit ?_
              refine stepp ha 113 (.agg #[.int .i64 0, .int .i64 0, .string (⟨#[]⟩ : ByteArray), .int .i64 0, .int .i64 0, .string (⟨#[]⟩ : ByteArray), .bool false, .slice none 0 0, .int .u64 0, .int .u64 0, .int .u64 0, .int .i64 0, .bool false, .int .i64 0]) (by kernel_rfl) (by kernel_rfl) ?_; clear ha a; intro a ha
              refine stepst ha HW 0 (b := b235) (C := #[.int .i64 0, .int .i64 0, .string (⟨#[]⟩ : ByteArray), .int .i64 0, .int .i64 0, .string (⟨#[]⟩ : ByteArray), .bool false, .slice none 0 0, .int .u64 0, .int .u64 0, .int .u64 0, .int .i64 0, .bool false, .int .i64 0]) (T := 26) (by kernel_rfl) 26 0 (.tmp 6) (.tmp 113) (.agg #[.int .i64 0, .int .i64 0, .string (⟨#[]⟩ : ByteArray), .int .i64 0, .int .i64 0, .string (⟨#[]⟩ : ByteArray), .bool false, .slice none 0 0, .int .u64 0, .int .u64 0, .int .u64 0, .int .i64 0, .bool false, .int .i64 0]) #[.int .i64 0, .int .i64 0, .string (⟨#[]⟩ : ByteArray), .int .i64 0, .int .i64 0, .string (⟨#[]⟩ : ByteArray), .bool false, .slice none 0 0, .int .u64 0, .int .u64 0, .int .u64 0, .int .i64 0, .bool false, .int .i64 0] rfl (by kernel_rfl) (by kernel_rfl) (by kernel_rfl) (by kernel_rfl) (by kernel_rfl) (by kernel_rfl) (by kernel_rfl) ?_; clear ha HW a; intro a W355 HW ha
              refine stepp ha 7 (.int .i64 180) (by kernel_rfl) (by kernel_rfl) ?_; clear ha a; intro a ha
              refine endl ?_
              refine thenN (hK354 _ _ ?_); clear hK354
              refine wp_ret ?_
              refine thenR ?_
              obtain rfl := Option.some.inj h
              replace HW := HW.nilo 61 2
              exact finv ha _ _ rfl (.cell (ad := ⟨b235, 0, none⟩) (v := .agg #[.int .i64 0, .int .i64 0, .string (⟨#[]⟩ : ByteArray), .int .i64 0, .int .i64 0, .string (⟨#[]⟩ : ByteArray), .bool false, .slice none 0 0, .int .u64 0, .int .u64 0, .int .u64 0, .int .i64 0, .bool false, .int .i64 0]) (by kernel_rfl) (run_loadVar_ca0 (HW.ca (i := 0) (b := b235) (C := #[.int .i64 0, .int .i64 0, .string (⟨#[]⟩ : ByteArray), .int .i64 0, .int .i64 0, .string (⟨#[]⟩ : ByteArray), .bool false, .slice none 0 0, .int .u64 0, .int .u64 0, .int .u64 0, .int .i64 0, .bool false, .int .i64 0]) (T := 26) (fr := (0, 0)) (by kernel_rfl)) 26 0 (.agg #[.int .i64 0, .int .i64 0, .string (⟨#[]⟩ : ByteArray), .int .i64 0, .int .i64 0, .string (⟨#[]⟩ : ByteArray), .bool false, .slice none 0 0, .int .u64 0, .int .u64 0, .int .u64 0, .int .i64 0, .bool false, .int .i64 0]) (by kernel_rfl)) (.tmp (v := .int .i64 180) (by kernel_rfl) .nil)) (.tuple #[.agg #[.int .i64 0, .int .i64 0, .string (⟨#[]⟩ : ByteArray), .int .i64 0, .int .i64 0, .string (⟨#[]⟩ : ByteArray), .bool false, .slice none 0 0, .int .u64 0, .int .u64 0, .int .u64 0, .int .i64 0, .bool false, .int .i64 0], .int .i64 180]) rfl ⟨none, 0, rfl, HW.pick [] [0] (by decide) (by decide) rfl (by kernel_rfl)⟩
        · skip
          replace h := ite_neg' h hp262
          refine condT ha (by kernel_rfl) (by kernel_rfl) (t := ((a2.size : Int) != 24)) (ineq_t hp262) ?_
          refine wp_seq_k (fun K263 hK264 => ?_)
          refine wp_region_lit ?_
          refine stepp ha 34 (.agg #[.int .i64 0, .int .i64 0, .string (⟨#[]⟩ : ByteArray), .int .i64 0, .int .i64 0, .string (⟨#[]⟩ : ByteArray), .bool false, .slice none 0 0, .int .u64 0, .int .u64 0, .int .u64 0, .int .i64 0, .bool false, .int .i64 0]) (by kernel_rfl) (by kernel_rfl) ?_; clear ha a; intro a ha
          refine stepst ha HW 0 (b := b235) (C := #[.int .i64 0, .int .i64 0, .string (⟨#[]⟩ : ByteArray), .int .i64 0, .int .i64 0, .string (⟨#[]⟩ : ByteArray), .bool false, .slice none 0 0, .int .u64 0, .int .u64 0, .int .u64 0, .int .i64 0, .bool false, .int .i64 0]) (T := 26) (by kernel_rfl) 26 0 (.tmp 6) (.tmp 34) (.agg #[.int .i64 0, .int .i64 0, .string (⟨#[]⟩ : ByteArray), .int .i64 0, .int .i64 0, .string (⟨#[]⟩ : ByteArray), .bool false, .slice none 0 0, .int .u64 0, .int .u64 0, .int .u64 0, .int .i64 0, .bool false, .int .i64 0]) #[.int .i64 0, .int .i64 0, .string (⟨#[]⟩ : ByteArray), .int .i64 0, .int .i64 0, .string (⟨#[]⟩ : ByteArray), .bool false, .slice none 0 0, .int .u64 0, .int .u64 0, .int .u64 0, .int .i64 0, .bool false, .int .i64 0] rfl (by kernel_rfl) (by kernel_rfl) (by kernel_rfl) (by kernel_rfl) (by kernel_rfl) (by kernel_rfl) (by kernel_rfl) ?_; clear ha HW a; intro a W265 HW ha
          refine stepp ha 7 (.int .i64 180) (by kernel_rfl) (by kernel_rfl) ?_; clear ha a; intro a ha
          refine endl ?_
          refine thenN (hK264 _ _ ?_); clear hK264
          refine wp_ret ?_
          refine thenR ?_
          obtain rfl := Option.some.inj h
          replace HW := HW.nilo 61 2
          exact finv ha _ _ rfl (.cell (ad := ⟨b235, 0, none⟩) (v := .agg #[.int .i64 0, .int .i64 0, .string (⟨#[]⟩ : ByteArray), .int .i64 0, .int .i64 0, .string (⟨#[]⟩ : ByteArray), .bool false, .slice none 0 0, .int .u64 0, .int .u64 0, .int .u64 0, .int .i64 0, .bool false, .int .i64 0]) (by kernel_rfl) (run_loadVar_ca0 (HW.ca (i := 0) (b := b235) (C := #[.int .i64 0, .int .i64 0, .string (⟨#[]⟩ : ByteArray), .int .i64 0, .int .i64 0, .string (⟨#[]⟩ : ByteArray), .bool false, .slice none 0 0, .int .u64 0, .int .u64 0, .int .u64 0, .int .i64 0, .bool false, .int .i64 0]) (T := 26) (fr := (0, 0)) (by kernel_rfl)) 26 0 (.agg #[.int .i64 0, .int .i64 0, .string (⟨#[]⟩ : ByteArray), .int .i64 0, .int .i64 0, .string (⟨#[]⟩ : ByteArray), .bool false, .slice none 0 0, .int .u64 0, .int .u64 0, .int .u64 0, .int .i64 0, .bool false, .int .i64 0]) (by kernel_rfl)) (.tmp (v := .int .i64 180) (by kernel_rfl) .nil)) (.tuple #[.agg #[.int .i64 0, .int .i64 0, .string (⟨#[]⟩ : ByteArray), .int .i64 0, .int .i64 0, .string (⟨#[]⟩ : ByteArray), .bool false, .slice none 0 0, .int .u64 0, .int .u64 0, .int .u64 0, .int .i64 0, .bool false, .int .i64 0], .int .i64 180]) rfl ⟨none, 0, rfl, HW.pick [] [0] (by decide) (by decide) rfl (by kernel_rfl)⟩
end Go.Proofs.Ytceagilmillgfaa.F
