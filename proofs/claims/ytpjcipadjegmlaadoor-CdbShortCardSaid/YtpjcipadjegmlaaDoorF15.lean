/- headgate/headgatelaw15.wakes: plain functions, and that the calls come to what they say. No condition. -/
import Derived.Test.YtpjcipadjegmlaaDoorFT
import Derived.Test.YtpjcipadjegmlaaDoorF16
import Derived.Test.YtpjcipadjegmlaaDoorF22
import Derived.Test.YtpjcipadjegmlaaDoorF32
import Derived.Test.YtpjcipadjegmlaaDoorF48
namespace Go.Proofs.YtpjcipadjegmlaaDoor.F
open Go Go.RowKit Go.Proofs.YtpjcipadjegmlaaDoor.X
set_option linter.unusedVariables false
set_option linter.unusedSimpArgs false
/-! ### headgate/headgatelaw15.wakes: function 15 -/
def headgatelaw15_wakes.f (K : Nat)  : Option Bool :=
  (cdb_Parse.f K (⟨#[40, 0, 0, 0, 0, 5, 0, 0, 2, 0]⟩ : ByteArray)).bind fun t2174 => ((cdb_Build.f K (⟨40, 5, 2, false, 0, 0, 0⟩ : T_cdb_Ask)).bind fun t2183 => (if t2174.2 = 0 then (if t2183.2 = 0 then (if t2174.1.f1 = 5 then (if t2174.1.f2 = 2 then (if t2183.1 = (⟨#[40, 0, 0, 0, 0, 5, 0, 0, 2, 0]⟩ : ByteArray) then ((cdb_Type.f K 8).bind fun t2194 => (if t2194 = 6 then ((cdb_Number.f 2).bind fun t2199 => (some (t2199 == 3))) else (some false))) else (some false)) else (some false)) else (some false)) else (some false)) else (some false)))
set_option maxRecDepth 100000 in
set_option maxHeartbeats 4000000 in
theorem headgatelaw15_wakes.calls (K : Nat)   (r : Bool) (w : World) (hG0 : CA w 0 0 (encs (encI .i64) G_cdb_numbers).toArray) (hG1 : CA w 1 0 (encs T_cdb_form.enc G_cdb_forms).toArray) (h : headgatelaw15_wakes.f K  = some r) :
    Calls Tryd.prog 15 #[] w (fun e W' => e = .returned (.bool r) ∧ Wd w W' [] [] ) := by
  refine sxstart (n := 42) (l := []) Tryd.func15 rfl rfl (Nat.le_of_ble_eq_true KR) (subsA_nil _) ?_
  intro a ha
  have HW := Wd.refl w
  unfold headgatelaw15_wakes.f at h
  refine wp_seq_k (fun K2170 hK2171 => ?_)
  refine wp_region_lit ?_
  refine stepp ha 0 (.bool false) KR KR ?_; clear ha a; intro a ha
  refine endl ?_
  refine thenN (hK2171 _ _ ?_); clear hK2171
  refine wp_seq_k (fun K2172 hK2173 => ?_)
  refine wp_region_lit ?_
  obtain ⟨t2174, ht2175, h_⟩ := bind_some' h; clear h; have h := h_; clear h_
  refine stepc ha 6 KR KR (cdb_Parse.calls K (⟨#[40, 0, 0, 0, 0, 5, 0, 0, 2, 0]⟩ : ByteArray) t2174 _ (HW.ca0 hG0) (HW.ca0 hG1) ht2175) ?_; clear ha a; rintro e W2176 ⟨rfl, HX2177⟩
  refine ⟨_, rfl, ?_⟩; intro a ha; replace HW := HW.callw HX2177; clear HX2177
  refine stepp ha 5 (.tuple #[.agg #[.int .i64 t2174.1.f0, .int .i64 t2174.1.f1, .int .i64 t2174.1.f2, .bool t2174.1.f3, .int .i64 t2174.1.f4, .int .i64 t2174.1.f5, .int .i64 t2174.1.f6], .int .i64 t2174.2]) KR KR ?_; clear ha a; intro a ha
  refine stepp ha 7 (.agg #[.int .i64 t2174.1.f0, .int .i64 t2174.1.f1, .int .i64 t2174.1.f2, .bool t2174.1.f3, .int .i64 t2174.1.f4, .int .i64 t2174.1.f5, .int .i64 t2174.1.f6]) KR KR ?_; clear ha a; intro a ha
  refine stepp ha 8 (.int .i64 t2174.2) KR KR ?_; clear ha a; intro a ha
  refine stepnew ha HW 1 #[.int .i64 0, .int .i64 0, .int .i64 0, .bool false, .int .i64 0, .int .i64 0, .int .i64 0] 39 KR KR ?_; clear ha HW a; intro b2178 a W2179 HW ha
  refine stepst ha HW 0 (b := b2178) (C := #[.int .i64 0, .int .i64 0, .int .i64 0, .bool false, .int .i64 0, .int .i64 0, .int .i64 0]) (T := 39) KR 39 0 (.tmp 1) (.tmp 7) (.agg #[.int .i64 t2174.1.f0, .int .i64 t2174.1.f1, .int .i64 t2174.1.f2, .bool t2174.1.f3, .int .i64 t2174.1.f4, .int .i64 t2174.1.f5, .int .i64 t2174.1.f6]) #[.int .i64 t2174.1.f0, .int .i64 t2174.1.f1, .int .i64 t2174.1.f2, .bool t2174.1.f3, .int .i64 t2174.1.f4, .int .i64 t2174.1.f5, .int .i64 t2174.1.f6] rfl KR KR KR KR KR KR KR ?_; clear ha HW a; intro a W2180 HW ha
  refine stepp ha 2 (.int .i64 t2174.2) KR KR ?_; clear ha a; intro a ha
  refine endl ?_
  refine thenN (hK2173 _ _ ?_); clear hK2173
  refine wp_seq_k (fun K2181 hK2182 => ?_)
  refine wp_region_lit ?_
  refine stepp ha 10 (.agg #[.int .i64 40, .int .i64 5, .int .i64 2, .bool false, .int .i64 0, .int .i64 0, .int .i64 0]) KR KR ?_; clear ha a; intro a ha
  obtain ⟨t2183, ht2184, h_⟩ := bind_some' h; clear h; have h := h_; clear h_
  refine stepc ha 11 KR KR (cdb_Build.calls K (⟨40, 5, 2, false, 0, 0, 0⟩ : T_cdb_Ask) t2183 _ (HW.ca0 hG0) (HW.ca0 hG1) ht2184) ?_; clear ha a; rintro e W2185 ⟨rfl, HX2186⟩
  refine ⟨_, rfl, ?_⟩; intro a ha; replace HW := HW.callw HX2186; clear HX2186
  refine stepp ha 9 (.tuple #[.string t2183.1, .int .i64 t2183.2]) KR KR ?_; clear ha a; intro a ha
  refine stepp ha 12 (.string t2183.1) KR KR ?_; clear ha a; intro a ha
  refine stepp ha 13 (.int .i64 t2183.2) KR KR ?_; clear ha a; intro a ha
  refine stepp ha 3 (.string t2183.1) KR KR ?_; clear ha a; intro a ha
  refine stepp ha 4 (.int .i64 t2183.2) KR KR ?_; clear ha a; intro a ha
  refine endl ?_
  refine thenN (hK2182 _ _ ?_); clear hK2182
  refine wp_seq_k (fun K2187 hK2188 => ?_)
  refine wp_region_lit ?_
  refine stepp ha 14 (.int .i64 t2174.2) KR KR ?_; clear ha a; intro a ha
  refine stepp ha 15 (.bool (t2174.2 == 0)) KR KR ?_; clear ha a; intro a ha
  refine stepp ha 16 (.bool (t2174.2 == 0)) KR KR ?_; clear ha a; intro a ha
  by_cases hp2189 : t2174.2 = 0
  · skip
    replace h := ite_pos' h hp2189
    replace ha := ha.bool 16 KR (ieq_t hp2189)
    refine stepp ha 17 (.int .i64 t2183.2) KR KR ?_; clear ha a; intro a ha
    refine stepp ha 18 (.bool (t2183.2 == 0)) KR KR ?_; clear ha a; intro a ha
    refine stepp ha 19 (.bool (t2183.2 == 0)) KR KR ?_; clear ha a; intro a ha
    refine stepp ha 20 (.bool (t2183.2 == 0)) KR KR ?_; clear ha a; intro a ha
    by_cases hp2190 : t2183.2 = 0
    · skip
      replace h := ite_pos' h hp2190
      replace ha := ha.bool 20 KR (ieq_t hp2190)
      refine stepp ha 21 (.pointer (some ⟨b2178, 1, none⟩)) KR KR ?_; clear ha a; intro a ha
      refine stepl ha 22 (HW.ca (i := 0) (b := b2178) (C := #[.int .i64 t2174.1.f0, .int .i64 t2174.1.f1, .int .i64 t2174.1.f2, .bool t2174.1.f3, .int .i64 t2174.1.f4, .int .i64 t2174.1.f5, .int .i64 t2174.1.f6]) (T := 39) (fr := (0, 0)) KR) 3 1 (.tmp 21) (.int .i64 t2174.1.f1) rfl KR KR KR ?_; clear ha a; intro a ha
      refine stepp ha 23 (.bool (t2174.1.f1 == 5)) KR KR ?_; clear ha a; intro a ha
      refine stepp ha 24 (.bool (t2174.1.f1 == 5)) KR KR ?_; clear ha a; intro a ha
      refine stepp ha 25 (.bool (t2174.1.f1 == 5)) KR KR ?_; clear ha a; intro a ha
      by_cases hp2191 : t2174.1.f1 = 5
      · skip
        replace h := ite_pos' h hp2191
        replace ha := ha.bool 25 KR (ieq_t hp2191)
        refine stepp ha 26 (.pointer (some ⟨b2178, 2, none⟩)) KR KR ?_; clear ha a; intro a ha
        refine stepl ha 27 (HW.ca (i := 0) (b := b2178) (C := #[.int .i64 t2174.1.f0, .int .i64 t2174.1.f1, .int .i64 t2174.1.f2, .bool t2174.1.f3, .int .i64 t2174.1.f4, .int .i64 t2174.1.f5, .int .i64 t2174.1.f6]) (T := 39) (fr := (0, 0)) KR) 3 2 (.tmp 26) (.int .i64 t2174.1.f2) rfl KR KR KR ?_; clear ha a; intro a ha
        refine stepp ha 28 (.bool (t2174.1.f2 == 2)) KR KR ?_; clear ha a; intro a ha
        refine stepp ha 29 (.bool (t2174.1.f2 == 2)) KR KR ?_; clear ha a; intro a ha
        refine stepp ha 30 (.bool (t2174.1.f2 == 2)) KR KR ?_; clear ha a; intro a ha
        by_cases hp2192 : t2174.1.f2 = 2
        · skip
          replace h := ite_pos' h hp2192
          replace ha := ha.bool 30 KR (ieq_t hp2192)
          refine stepp ha 31 (.string t2183.1) KR KR ?_; clear ha a; intro a ha
          refine stepp ha 32 (.bool (t2183.1.toList == (⟨#[40, 0, 0, 0, 0, 5, 0, 0, 2, 0]⟩ : ByteArray).toList)) KR KR ?_; clear ha a; intro a ha
          refine stepp ha 33 (.bool (t2183.1.toList == (⟨#[40, 0, 0, 0, 0, 5, 0, 0, 2, 0]⟩ : ByteArray).toList)) KR KR ?_; clear ha a; intro a ha
          refine stepp ha 34 (.bool (t2183.1.toList == (⟨#[40, 0, 0, 0, 0, 5, 0, 0, 2, 0]⟩ : ByteArray).toList)) KR KR ?_; clear ha a; intro a ha
          by_cases hp2193 : t2183.1 = (⟨#[40, 0, 0, 0, 0, 5, 0, 0, 2, 0]⟩ : ByteArray)
          · skip
            replace h := ite_pos' h hp2193
            replace ha := ha.bool 34 KR (str_eq_t hp2193)
            obtain ⟨t2194, ht2195, h_⟩ := bind_some' h; clear h; have h := h_; clear h_
            refine stepc ha 35 KR KR (cdb_Type.calls K 8 t2194 _ (HW.ca0 hG0) ht2195) ?_; clear ha a; rintro e W2196 ⟨rfl, HX2197⟩
            refine ⟨_, rfl, ?_⟩; intro a ha; replace HW := HW.callw HX2197; clear HX2197
            refine stepp ha 36 (.bool (t2194 == 6)) KR KR ?_; clear ha a; intro a ha
            refine stepp ha 37 (.bool (t2194 == 6)) KR KR ?_; clear ha a; intro a ha
            refine stepp ha 38 (.bool (t2194 == 6)) KR KR ?_; clear ha a; intro a ha
            by_cases hp2198 : t2194 = 6
            · skip
              replace h := ite_pos' h hp2198
              replace ha := ha.bool 38 KR (ieq_t hp2198)
              obtain ⟨t2199, ht2200, h_⟩ := bind_some' h; clear h; have h := h_; clear h_
              refine stepc ha 39 KR KR (cdb_Number.calls 2 t2199 _ (HW.ca0 hG0) ht2200) ?_; clear ha a; rintro e W2201 ⟨rfl, HX2202⟩
              refine ⟨_, rfl, ?_⟩; intro a ha; replace HW := HW.callw HX2202; clear HX2202
              refine stepp ha 40 (.bool (t2199 == 3)) KR KR ?_; clear ha a; intro a ha
              refine stepp ha 41 (.bool (t2199 == 3)) KR KR ?_; clear ha a; intro a ha
              refine stepp ha 0 (.bool (t2199 == 3)) KR KR ?_; clear ha a; intro a ha
              refine endl ?_
              refine thenN (hK2188 _ _ ?_); clear hK2188
              refine wp_ret ?_
              obtain rfl := Option.some.inj h
              exact finv ha _ _ rfl (.tmp (v := .bool (t2199 == 3)) KR .nil) (.bool (t2199 == 3)) rfl ⟨rfl, HW.pick [] [] (by decide) (by decide) rfl KR⟩
            · skip
              replace h := ite_neg' h hp2198
              replace ha := ha.bool 38 KR (ieq_f hp2198)
              refine stepo ha 39 KR ?_; clear ha a; intro a ha
              refine stepo ha 40 KR ?_; clear ha a; intro a ha
              refine stepp ha 41 (.bool false) KR KR ?_; clear ha a; intro a ha
              refine stepp ha 0 (.bool false) KR KR ?_; clear ha a; intro a ha
              refine endl ?_
              refine thenN (hK2188 _ _ ?_); clear hK2188
              refine wp_ret ?_
              obtain rfl := Option.some.inj h
              exact finv ha _ _ rfl (.tmp (v := .bool false) KR .nil) (.bool false) rfl ⟨rfl, HW.pick [] [] (by decide) (by decide) rfl KR⟩
          · skip
            replace h := ite_neg' h hp2193
            replace ha := ha.bool 34 KR (str_eq_f hp2193)
            refine stepo ha 35 KR ?_; clear ha a; intro a ha
            refine stepo ha 36 KR ?_; clear ha a; intro a ha
            refine stepp ha 37 (.bool false) KR KR ?_; clear ha a; intro a ha
            refine stepp ha 38 (.bool false) KR KR ?_; clear ha a; intro a ha
            refine stepo ha 39 KR ?_; clear ha a; intro a ha
            refine stepo ha 40 KR ?_; clear ha a; intro a ha
            refine stepp ha 41 (.bool false) KR KR ?_; clear ha a; intro a ha
            refine stepp ha 0 (.bool false) KR KR ?_; clear ha a; intro a ha
            refine endl ?_
            refine thenN (hK2188 _ _ ?_); clear hK2188
            refine wp_ret ?_
            obtain rfl := Option.some.inj h
            exact finv ha _ _ rfl (.tmp (v := .bool false) KR .nil) (.bool false) rfl ⟨rfl, HW.pick [] [] (by decide) (by decide) rfl KR⟩
        · skip
          replace h := ite_neg' h hp2192
          replace ha := ha.bool 30 KR (ieq_f hp2192)
          refine stepo ha 31 KR ?_; clear ha a; intro a ha
          refine stepo ha 32 KR ?_; clear ha a; intro a ha
          refine stepp ha 33 (.bool false) KR KR ?_; clear ha a; intro a ha
          refine stepp ha 34 (.bool false) KR KR ?_; clear ha a; intro a ha
          refine stepo ha 35 KR ?_; clear ha a; intro a ha
          refine stepo ha 36 KR ?_; clear ha a; intro a ha
          refine stepp ha 37 (.bool false) KR KR ?_; clear ha a; intro a ha
          refine stepp ha 38 (.bool false) KR KR ?_; clear ha a; intro a ha
          refine stepo ha 39 KR ?_; clear ha a; intro a ha
          refine stepo ha 40 KR ?_; clear ha a; intro a ha
          refine stepp ha 41 (.bool false) KR KR ?_; clear ha a; intro a ha
          refine stepp ha 0 (.bool false) KR KR ?_; clear ha a; intro a ha
          refine endl ?_
          refine thenN (hK2188 _ _ ?_); clear hK2188
          refine wp_ret ?_
          obtain rfl := Option.some.inj h
          exact finv ha _ _ rfl (.tmp (v := .bool false) KR .nil) (.bool false) rfl ⟨rfl, HW.pick [] [] (by decide) (by decide) rfl KR⟩
      · skip
        replace h := ite_neg' h hp2191
        replace ha := ha.bool 25 KR (ieq_f hp2191)
        refine stepo ha 26 KR ?_; clear ha a; intro a ha
        refine stepo ha 27 KR ?_; clear ha a; intro a ha
        refine stepo ha 28 KR ?_; clear ha a; intro a ha
        refine stepp ha 29 (.bool false) KR KR ?_; clear ha a; intro a ha
        refine stepp ha 30 (.bool false) KR KR ?_; clear ha a; intro a ha
        refine stepo ha 31 KR ?_; clear ha a; intro a ha
        refine stepo ha 32 KR ?_; clear ha a; intro a ha
        refine stepp ha 33 (.bool false) KR KR ?_; clear ha a; intro a ha
        refine stepp ha 34 (.bool false) KR KR ?_; clear ha a; intro a ha
        refine stepo ha 35 KR ?_; clear ha a; intro a ha
        refine stepo ha 36 KR ?_; clear ha a; intro a ha
        refine stepp ha 37 (.bool false) KR KR ?_; clear ha a; intro a ha
        refine stepp ha 38 (.bool false) KR KR ?_; clear ha a; intro a ha
        refine stepo ha 39 KR ?_; clear ha a; intro a ha
        refine stepo ha 40 KR ?_; clear ha a; intro a ha
        refine stepp ha 41 (.bool false) KR KR ?_; clear ha a; intro a ha
        refine stepp ha 0 (.bool false) KR KR ?_; clear ha a; intro a ha
        refine endl ?_
        refine thenN (hK2188 _ _ ?_); clear hK2188
        refine wp_ret ?_
        obtain rfl := Option.some.inj h
        exact finv ha _ _ rfl (.tmp (v := .bool false) KR .nil) (.bool false) rfl ⟨rfl, HW.pick [] [] (by decide) (by decide) rfl KR⟩
    · skip
      replace h := ite_neg' h hp2190
      replace ha := ha.bool 20 KR (ieq_f hp2190)
      refine stepo ha 21 KR ?_; clear ha a; intro a ha
      refine stepo ha 22 KR ?_; clear ha a; intro a ha
      refine stepo ha 23 KR ?_; clear ha a; intro a ha
      refine stepp ha 24 (.bool false) KR KR ?_; clear ha a; intro a ha
      refine stepp ha 25 (.bool false) KR KR ?_; clear ha a; intro a ha
      refine stepo ha 26 KR ?_; clear ha a; intro a ha
      refine stepo ha 27 KR ?_; clear ha a; intro a ha
      refine stepo ha 28 KR ?_; clear ha a; intro a ha
      refine stepp ha 29 (.bool false) KR KR ?_; clear ha a; intro a ha
      refine stepp ha 30 (.bool false) KR KR ?_; clear ha a; intro a ha
      refine stepo ha 31 KR ?_; clear ha a; intro a ha
      refine stepo ha 32 KR ?_; clear ha a; intro a ha
      refine stepp ha 33 (.bool false) KR KR ?_; clear ha a; intro a ha
      refine stepp ha 34 (.bool false) KR KR ?_; clear ha a; intro a ha
      refine stepo ha 35 KR ?_; clear ha a; intro a ha
      refine stepo ha 36 KR ?_; clear ha a; intro a ha
      refine stepp ha 37 (.bool false) KR KR ?_; clear ha a; intro a ha
      refine stepp ha 38 (.bool false) KR KR ?_; clear ha a; intro a ha
      refine stepo ha 39 KR ?_; clear ha a; intro a ha
      refine stepo ha 40 KR ?_; clear ha a; intro a ha
      refine stepp ha 41 (.bool false) KR KR ?_; clear ha a; intro a ha
      refine stepp ha 0 (.bool false) KR KR ?_; clear ha a; intro a ha
      refine endl ?_
      refine thenN (hK2188 _ _ ?_); clear hK2188
      refine wp_ret ?_
      obtain rfl := Option.some.inj h
      exact finv ha _ _ rfl (.tmp (v := .bool false) KR .nil) (.bool false) rfl ⟨rfl, HW.pick [] [] (by decide) (by decide) rfl KR⟩
  · skip
    replace h := ite_neg' h hp2189
    replace ha := ha.bool 16 KR (ieq_f hp2189)
    refine stepo ha 17 KR ?_; clear ha a; intro a ha
    refine stepo ha 18 KR ?_; clear ha a; intro a ha
    refine stepp ha 19 (.bool false) KR KR ?_; clear ha a; intro a ha
    refine stepp ha 20 (.bool false) KR KR ?_; clear ha a; intro a ha
    refine stepo ha 21 KR ?_; clear ha a; intro a ha
    refine stepo ha 22 KR ?_; clear ha a; intro a ha
    refine stepo ha 23 KR ?_; clear ha a; intro a ha
    refine stepp ha 24 (.bool false) KR KR ?_; clear ha a; intro a ha
    refine stepp ha 25 (.bool false) KR KR ?_; clear ha a; intro a ha
    refine stepo ha 26 KR ?_; clear ha a; intro a ha
    refine stepo ha 27 KR ?_; clear ha a; intro a ha
    refine stepo ha 28 KR ?_; clear ha a; intro a ha
    refine stepp ha 29 (.bool false) KR KR ?_; clear ha a; intro a ha
    refine stepp ha 30 (.bool false) KR KR ?_; clear ha a; intro a ha
    refine stepo ha 31 KR ?_; clear ha a; intro a ha
    refine stepo ha 32 KR ?_; clear ha a; intro a ha
    refine stepp ha 33 (.bool false) KR KR ?_; clear ha a; intro a ha
    refine stepp ha 34 (.bool false) KR KR ?_; clear ha a; intro a ha
    refine stepo ha 35 KR ?_; clear ha a; intro a ha
    refine stepo ha 36 KR ?_; clear ha a; intro a ha
    refine stepp ha 37 (.bool false) KR KR ?_; clear ha a; intro a ha
    refine stepp ha 38 (.bool false) KR KR ?_; clear ha a; intro a ha
    refine stepo ha 39 KR ?_; clear ha a; intro a ha
    refine stepo ha 40 KR ?_; clear ha a; intro a ha
    refine stepp ha 41 (.bool false) KR KR ?_; clear ha a; intro a ha
    refine stepp ha 0 (.bool false) KR KR ?_; clear ha a; intro a ha
    refine endl ?_
    refine thenN (hK2188 _ _ ?_); clear hK2188
    refine wp_ret ?_
    obtain rfl := Option.some.inj h
    exact finv ha _ _ rfl (.tmp (v := .bool false) KR .nil) (.bool false) rfl ⟨rfl, HW.pick [] [] (by decide) (by decide) rfl KR⟩
end Go.Proofs.YtpjcipadjegmlaaDoor.F
