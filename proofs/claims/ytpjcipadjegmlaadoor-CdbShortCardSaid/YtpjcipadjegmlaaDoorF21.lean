/- headgate/headgateref15.Length, headgate/headgateref01.there, headgate/headgateref01.Big, headgate/headgateref15.num, headgate/headgateref15.Type, headgate/headgateref15.reservation: plain functions, and that the calls come to what they say. No condition. -/
import Derived.Test.YtpjcipadjegmlaaDoorFT
namespace Go.Proofs.YtpjcipadjegmlaaDoor.F
open Go Go.RowKit Go.Proofs.YtpjcipadjegmlaaDoor.X
set_option linter.unusedVariables false
set_option linter.unusedSimpArgs false
/-! ### headgate/headgateref15.Length: function 21 -/
def headgateref15_Length.j1 (K : Nat) (a0 : ByteArray) (x2247 : Bool) : Option Int :=
  if x2247 = true then (some 10) else (if (bt a0 0) = 160 then (some 12) else (if (bt a0 0) = 136 then (some 16) else (if (bt a0 0) = 137 then (some 16) else (if (bt a0 0) = 138 then (some 16) else (if (bt a0 0) = 147 then (some 16) else (some 0))))))
def headgateref15_Length.j0 (K : Nat) (a0 : ByteArray) (x2222 : Bool) : Option Int :=
  if x2222 = true then (some 6) else (if (bt a0 0) = 37 then (headgateref15_Length.j1 K a0 ((bt a0 0) == 37)) else (if (bt a0 0) = 40 then (headgateref15_Length.j1 K a0 ((bt a0 0) == 40)) else (if (bt a0 0) = 42 then (headgateref15_Length.j1 K a0 ((bt a0 0) == 42)) else (if (bt a0 0) = 53 then (headgateref15_Length.j1 K a0 ((bt a0 0) == 53)) else (if (bt a0 0) = 66 then (headgateref15_Length.j1 K a0 ((bt a0 0) == 66)) else (if (bt a0 0) = 94 then (headgateref15_Length.j1 K a0 ((bt a0 0) == 94)) else (headgateref15_Length.j1 K a0 ((bt a0 0) == 95))))))))
def headgateref15_Length.f (K : Nat) (a0 : ByteArray) : Option Int :=
  if a0 = (⟨#[]⟩ : ByteArray) then (some 0) else (asrt (0 < (a0.size : Int)) (if (bt a0 0) = 0 then (headgateref15_Length.j0 K a0 ((bt a0 0) == 0)) else (headgateref15_Length.j0 K a0 ((bt a0 0) == 18))))
set_option maxRecDepth 100000 in
set_option maxHeartbeats 4000000 in
theorem headgateref15_Length.calls (K : Nat) (a0 : ByteArray)  (r : Int) (w : World)  (h : headgateref15_Length.f K a0 = some r) :
    Calls Tryd.prog 21 #[.string a0] w (fun e W' => e = .returned (.int .i64 r) ∧ Wd w W' [] [] ) := by
  refine sxstart (n := 25) (l := [(0, .string a0)]) Tryd.func21 rfl rfl (Nat.le_of_ble_eq_true KR) (subsA_cons rfl (subsA_nil _)) ?_
  intro a ha
  have HW := Wd.refl w
  unfold headgateref15_Length.f at h
  refine wp_seq_k (fun K2203 hK2204 => ?_)
  refine wp_region_lit ?_
  refine stepp ha 2 (.int .i64 0) KR KR ?_; clear ha a; intro a ha
  refine endl ?_
  refine thenN (hK2204 _ _ ?_); clear hK2204
  refine wp_seq_k (fun K2205 hK2206 => ?_)
  refine wp_seq_k (fun K2207 hK2208 => ?_)
  refine wp_region_lit ?_
  refine stepp ha 3 (.string a0) KR KR ?_; clear ha a; intro a ha
  refine stepp ha 4 (.bool (a0.toList == (⟨#[]⟩ : ByteArray).toList)) KR KR ?_; clear ha a; intro a ha
  refine endl ?_
  refine thenN (hK2208 _ _ ?_); clear hK2208
  by_cases hp2209 : a0 = (⟨#[]⟩ : ByteArray)
  · skip
    replace h := ite_pos' h hp2209
    refine condT ha KR KR (t := (a0.toList == (⟨#[]⟩ : ByteArray).toList)) (str_eq_t hp2209) ?_
    refine wp_seq_k (fun K2210 hK2211 => ?_)
    refine wp_region_lit ?_
    refine stepp ha 2 (.int .i64 0) KR KR ?_; clear ha a; intro a ha
    refine endl ?_
    refine thenN (hK2211 _ _ ?_); clear hK2211
    refine wp_ret ?_
    refine thenR ?_
    obtain rfl := Option.some.inj h
    exact finv ha _ _ rfl (.tmp (v := .int .i64 0) KR .nil) (.int .i64 0) rfl ⟨rfl, HW.pick [] [] (by decide) (by decide) rfl KR⟩
  · skip
    replace h := ite_neg' h hp2209
    refine condF ha KR KR (t := (a0.toList == (⟨#[]⟩ : ByteArray).toList)) (str_eq_f hp2209) ?_
    refine wp_skip ?_
    refine thenN (hK2206 _ _ ?_); clear hK2206
    refine wp_seq_k (fun K2212 hK2213 => ?_)
    refine wp_seq_k (fun K2214 hK2215 => ?_)
    refine wp_region_lit ?_
    refine stepp ha 5 (.string a0) KR KR ?_; clear ha a; intro a ha
    obtain ⟨hA2216, h_⟩ := asrt_some h; clear h; have h := h_; clear h_
    refine stepsi ha 6 9 (.tmp 5) (.const (.int .i64 0)) a0 .i64 0 rfl KR KR KR (by decide) (show (0 : Int) < ((a0).size : Int) from hA2216) KR ?_; clear ha a; intro a ha
    refine endl ?_
    refine thenN (hK2215 _ _ ?_); clear hK2215
    refine wp_block ?_
    refine wp_seq_k (fun K2217 hK2218 => ?_)
    refine cutn (fun a W2223 => ∃ (x2222 : Bool), headgateref15_Length.j0 K a0 x2222 = some r ∧ Has 25 [(6, .int .u8 (bt a0 0)), (7, .bool x2222)] a ∧ Wd w W2223 [] []) ?_ ?_
    · skip
      refine wp_seq_k (fun K2219 hK2220 => ?_)
      refine wp_region_lit ?_
      refine stepp ha 8 (.bool ((bt a0 0) == 0)) KR KR ?_; clear ha a; intro a ha
      refine stepp ha 7 (.bool ((bt a0 0) == 0)) KR KR ?_; clear ha a; intro a ha
      refine endl ?_
      refine thenN (hK2220 _ _ ?_); clear hK2220
      by_cases hp2221 : (bt a0 0) = 0
      · skip
        replace h := ite_pos' h hp2221
        refine condT ha KR KR (t := ((bt a0 0) == 0)) (ieq_t hp2221) ?_
        refine wp_skip ?_
        exact thenN ⟨((bt a0 0) == 0), h, ha.sub (subs_cons KR (subs_cons KR (subs_nil _))), HW.pick [] [] (by decide) (by decide) KR KR⟩
      · skip
        replace h := ite_neg' h hp2221
        refine condF ha KR KR (t := ((bt a0 0) == 0)) (ieq_f hp2221) ?_
        refine wp_region_lit ?_
        refine stepp ha 9 (.bool ((bt a0 0) == 18)) KR KR ?_; clear ha a; intro a ha
        refine stepp ha 7 (.bool ((bt a0 0) == 18)) KR KR ?_; clear ha a; intro a ha
        refine endl ?_
        exact thenN ⟨((bt a0 0) == 18), h, ha.sub (subs_cons KR (subs_cons KR (subs_nil _))), HW.pick [] [] (by decide) (by decide) KR KR⟩
    · skip
      intro a W2223 hJ
      obtain ⟨x2222, h, ha, HW⟩ := hJ
      replace h : headgateref15_Length.j0 K a0 x2222 = some r := h
      unfold headgateref15_Length.j0 at h
      refine hK2218 _ _ ?_; clear hK2218
      by_cases hp2224 : x2222 = true
      · skip
        replace h := ite_pos' h hp2224
        refine condT ha KR KR (t := x2222) (hp2224) ?_
        refine wp_seq_k (fun K2225 hK2226 => ?_)
        refine wp_region_lit ?_
        refine stepp ha 2 (.int .i64 6) KR KR ?_; clear ha a; intro a ha
        refine endl ?_
        refine thenN (hK2226 _ _ ?_); clear hK2226
        refine wp_ret ?_
        refine blkR ?_
        refine thenR ?_
        obtain rfl := Option.some.inj h
        exact finv ha _ _ rfl (.tmp (v := .int .i64 6) KR .nil) (.int .i64 6) rfl ⟨rfl, HW.pick [] [] (by decide) (by decide) rfl KR⟩
      · skip
        replace h := ite_neg' h hp2224
        refine condF ha KR KR (t := x2222) (bool_f hp2224) ?_
        refine wp_seq_k (fun K2227 hK2228 => ?_)
        refine cutn (fun a W2248 => ∃ (x2247 : Bool), headgateref15_Length.j1 K a0 x2247 = some r ∧ Has 25 [(6, .int .u8 (bt a0 0)), (10, .bool x2247)] a ∧ Wd w W2248 [] []) ?_ ?_
        · skip
          refine wp_seq_k (fun K2229 hK2230 => ?_)
          refine wp_region_lit ?_
          refine stepp ha 11 (.bool ((bt a0 0) == 37)) KR KR ?_; clear ha a; intro a ha
          refine stepp ha 10 (.bool ((bt a0 0) == 37)) KR KR ?_; clear ha a; intro a ha
          refine endl ?_
          refine thenN (hK2230 _ _ ?_); clear hK2230
          by_cases hp2231 : (bt a0 0) = 37
          · skip
            replace h := ite_pos' h hp2231
            refine condT ha KR KR (t := ((bt a0 0) == 37)) (ieq_t hp2231) ?_
            refine wp_skip ?_
            exact thenN ⟨((bt a0 0) == 37), h, ha.sub (subs_cons KR (subs_cons KR (subs_nil _))), HW.pick [] [] (by decide) (by decide) KR KR⟩
          · skip
            replace h := ite_neg' h hp2231
            refine condF ha KR KR (t := ((bt a0 0) == 37)) (ieq_f hp2231) ?_
            refine wp_seq_k (fun K2232 hK2233 => ?_)
            refine wp_region_lit ?_
            refine stepp ha 12 (.bool ((bt a0 0) == 40)) KR KR ?_; clear ha a; intro a ha
            refine stepp ha 10 (.bool ((bt a0 0) == 40)) KR KR ?_; clear ha a; intro a ha
            refine endl ?_
            refine thenN (hK2233 _ _ ?_); clear hK2233
            by_cases hp2234 : (bt a0 0) = 40
            · skip
              replace h := ite_pos' h hp2234
              refine condT ha KR KR (t := ((bt a0 0) == 40)) (ieq_t hp2234) ?_
              refine wp_skip ?_
              exact thenN ⟨((bt a0 0) == 40), h, ha.sub (subs_cons KR (subs_cons KR (subs_nil _))), HW.pick [] [] (by decide) (by decide) KR KR⟩
            · skip
              replace h := ite_neg' h hp2234
              refine condF ha KR KR (t := ((bt a0 0) == 40)) (ieq_f hp2234) ?_
              refine wp_seq_k (fun K2235 hK2236 => ?_)
              refine wp_region_lit ?_
              refine stepp ha 13 (.bool ((bt a0 0) == 42)) KR KR ?_; clear ha a; intro a ha
              refine stepp ha 10 (.bool ((bt a0 0) == 42)) KR KR ?_; clear ha a; intro a ha
              refine endl ?_
              refine thenN (hK2236 _ _ ?_); clear hK2236
              by_cases hp2237 : (bt a0 0) = 42
              · skip
                replace h := ite_pos' h hp2237
                refine condT ha KR KR (t := ((bt a0 0) == 42)) (ieq_t hp2237) ?_
                refine wp_skip ?_
                exact thenN ⟨((bt a0 0) == 42), h, ha.sub (subs_cons KR (subs_cons KR (subs_nil _))), HW.pick [] [] (by decide) (by decide) KR KR⟩
              · skip
                replace h := ite_neg' h hp2237
                refine condF ha KR KR (t := ((bt a0 0) == 42)) (ieq_f hp2237) ?_
                refine wp_seq_k (fun K2238 hK2239 => ?_)
                refine wp_region_lit ?_
                refine stepp ha 14 (.bool ((bt a0 0) == 53)) KR KR ?_; clear ha a; intro a ha
                refine stepp ha 10 (.bool ((bt a0 0) == 53)) KR KR ?_; clear ha a; intro a ha
                refine endl ?_
                refine thenN (hK2239 _ _ ?_); clear hK2239
                by_cases hp2240 : (bt a0 0) = 53
                · skip
                  replace h := ite_pos' h hp2240
                  refine condT ha KR KR (t := ((bt a0 0) == 53)) (ieq_t hp2240) ?_
                  refine wp_skip ?_
                  exact thenN ⟨((bt a0 0) == 53), h, ha.sub (subs_cons KR (subs_cons KR (subs_nil _))), HW.pick [] [] (by decide) (by decide) KR KR⟩
                · skip
                  replace h := ite_neg' h hp2240
                  refine condF ha KR KR (t := ((bt a0 0) == 53)) (ieq_f hp2240) ?_
                  refine wp_seq_k (fun K2241 hK2242 => ?_)
                  refine wp_region_lit ?_
                  refine stepp ha 15 (.bool ((bt a0 0) == 66)) KR KR ?_; clear ha a; intro a ha
                  refine stepp ha 10 (.bool ((bt a0 0) == 66)) KR KR ?_; clear ha a; intro a ha
                  refine endl ?_
                  refine thenN (hK2242 _ _ ?_); clear hK2242
                  by_cases hp2243 : (bt a0 0) = 66
                  · skip
                    replace h := ite_pos' h hp2243
                    refine condT ha KR KR (t := ((bt a0 0) == 66)) (ieq_t hp2243) ?_
                    refine wp_skip ?_
                    exact thenN ⟨((bt a0 0) == 66), h, ha.sub (subs_cons KR (subs_cons KR (subs_nil _))), HW.pick [] [] (by decide) (by decide) KR KR⟩
                  · skip
                    replace h := ite_neg' h hp2243
                    refine condF ha KR KR (t := ((bt a0 0) == 66)) (ieq_f hp2243) ?_
                    refine wp_seq_k (fun K2244 hK2245 => ?_)
                    refine wp_region_lit ?_
                    refine stepp ha 16 (.bool ((bt a0 0) == 94)) KR KR ?_; clear ha a; intro a ha
                    refine stepp ha 10 (.bool ((bt a0 0) == 94)) KR KR ?_; clear ha a; intro a ha
                    refine endl ?_
                    refine thenN (hK2245 _ _ ?_); clear hK2245
                    by_cases hp2246 : (bt a0 0) = 94
                    · skip
                      replace h := ite_pos' h hp2246
                      refine condT ha KR KR (t := ((bt a0 0) == 94)) (ieq_t hp2246) ?_
                      refine wp_skip ?_
                      exact thenN ⟨((bt a0 0) == 94), h, ha.sub (subs_cons KR (subs_cons KR (subs_nil _))), HW.pick [] [] (by decide) (by decide) KR KR⟩
                    · skip
                      replace h := ite_neg' h hp2246
                      refine condF ha KR KR (t := ((bt a0 0) == 94)) (ieq_f hp2246) ?_
                      refine wp_region_lit ?_
                      refine stepp ha 17 (.bool ((bt a0 0) == 95)) KR KR ?_; clear ha a; intro a ha
                      refine stepp ha 10 (.bool ((bt a0 0) == 95)) KR KR ?_; clear ha a; intro a ha
                      refine endl ?_
                      exact thenN ⟨((bt a0 0) == 95), h, ha.sub (subs_cons KR (subs_cons KR (subs_nil _))), HW.pick [] [] (by decide) (by decide) KR KR⟩
        · skip
          intro a W2248 hJ
          obtain ⟨x2247, h, ha, HW⟩ := hJ
          replace h : headgateref15_Length.j1 K a0 x2247 = some r := h
          unfold headgateref15_Length.j1 at h
          refine hK2228 _ _ ?_; clear hK2228
          by_cases hp2249 : x2247 = true
          · skip
            replace h := ite_pos' h hp2249
            refine condT ha KR KR (t := x2247) (hp2249) ?_
            refine wp_seq_k (fun K2250 hK2251 => ?_)
            refine wp_region_lit ?_
            refine stepp ha 2 (.int .i64 10) KR KR ?_; clear ha a; intro a ha
            refine endl ?_
            refine thenN (hK2251 _ _ ?_); clear hK2251
            refine wp_ret ?_
            refine blkR ?_
            refine thenR ?_
            obtain rfl := Option.some.inj h
            exact finv ha _ _ rfl (.tmp (v := .int .i64 10) KR .nil) (.int .i64 10) rfl ⟨rfl, HW.pick [] [] (by decide) (by decide) rfl KR⟩
          · skip
            replace h := ite_neg' h hp2249
            refine condF ha KR KR (t := x2247) (bool_f hp2249) ?_
            refine wp_seq_k (fun K2252 hK2253 => ?_)
            refine wp_region_lit ?_
            refine stepp ha 19 (.bool ((bt a0 0) == 160)) KR KR ?_; clear ha a; intro a ha
            refine stepp ha 18 (.bool ((bt a0 0) == 160)) KR KR ?_; clear ha a; intro a ha
            refine endl ?_
            refine thenN (hK2253 _ _ ?_); clear hK2253
            by_cases hp2254 : (bt a0 0) = 160
            · skip
              replace h := ite_pos' h hp2254
              refine condT ha KR KR (t := ((bt a0 0) == 160)) (ieq_t hp2254) ?_
              refine wp_seq_k (fun K2255 hK2256 => ?_)
              refine wp_region_lit ?_
              refine stepp ha 2 (.int .i64 12) KR KR ?_; clear ha a; intro a ha
              refine endl ?_
              refine thenN (hK2256 _ _ ?_); clear hK2256
              refine wp_ret ?_
              refine blkR ?_
              refine thenR ?_
              obtain rfl := Option.some.inj h
              exact finv ha _ _ rfl (.tmp (v := .int .i64 12) KR .nil) (.int .i64 12) rfl ⟨rfl, HW.pick [] [] (by decide) (by decide) rfl KR⟩
            · skip
              replace h := ite_neg' h hp2254
              refine condF ha KR KR (t := ((bt a0 0) == 160)) (ieq_f hp2254) ?_
              refine wp_seq_k (fun K2257 hK2258 => ?_)
              refine wp_seq_k (fun K2259 hK2260 => ?_)
              refine wp_region_lit ?_
              refine stepp ha 21 (.bool ((bt a0 0) == 136)) KR KR ?_; clear ha a; intro a ha
              refine stepp ha 20 (.bool ((bt a0 0) == 136)) KR KR ?_; clear ha a; intro a ha
              refine endl ?_
              refine thenN (hK2260 _ _ ?_); clear hK2260
              by_cases hp2261 : (bt a0 0) = 136
              · skip
                replace h := ite_pos' h hp2261
                refine condT ha KR KR (t := ((bt a0 0) == 136)) (ieq_t hp2261) ?_
                refine wp_skip ?_
                refine thenN (hK2258 _ _ ?_); clear hK2258
                refine condT ha KR KR (t := ((bt a0 0) == 136)) (ieq_t hp2261) ?_
                refine wp_seq_k (fun K2268 hK2269 => ?_)
                refine wp_region_lit ?_
                refine stepp ha 2 (.int .i64 16) KR KR ?_; clear ha a; intro a ha
                refine endl ?_
                refine thenN (hK2269 _ _ ?_); clear hK2269
                refine wp_ret ?_
                refine blkR ?_
                refine thenR ?_
                obtain rfl := Option.some.inj h
                exact finv ha _ _ rfl (.tmp (v := .int .i64 16) KR .nil) (.int .i64 16) rfl ⟨rfl, HW.pick [] [] (by decide) (by decide) rfl KR⟩
              · skip
                replace h := ite_neg' h hp2261
                refine condF ha KR KR (t := ((bt a0 0) == 136)) (ieq_f hp2261) ?_
                refine wp_seq_k (fun K2262 hK2263 => ?_)
                refine wp_region_lit ?_
                refine stepp ha 22 (.bool ((bt a0 0) == 137)) KR KR ?_; clear ha a; intro a ha
                refine stepp ha 20 (.bool ((bt a0 0) == 137)) KR KR ?_; clear ha a; intro a ha
                refine endl ?_
                refine thenN (hK2263 _ _ ?_); clear hK2263
                by_cases hp2264 : (bt a0 0) = 137
                · skip
                  replace h := ite_pos' h hp2264
                  refine condT ha KR KR (t := ((bt a0 0) == 137)) (ieq_t hp2264) ?_
                  refine wp_skip ?_
                  refine thenN (hK2258 _ _ ?_); clear hK2258
                  refine condT ha KR KR (t := ((bt a0 0) == 137)) (ieq_t hp2264) ?_
                  refine wp_seq_k (fun K2270 hK2271 => ?_)
                  refine wp_region_lit ?_
                  refine stepp ha 2 (.int .i64 16) KR KR ?_; clear ha a; intro a ha
                  refine endl ?_
                  refine thenN (hK2271 _ _ ?_); clear hK2271
                  refine wp_ret ?_
                  refine blkR ?_
                  refine thenR ?_
                  obtain rfl := Option.some.inj h
                  exact finv ha _ _ rfl (.tmp (v := .int .i64 16) KR .nil) (.int .i64 16) rfl ⟨rfl, HW.pick [] [] (by decide) (by decide) rfl KR⟩
                · skip
                  replace h := ite_neg' h hp2264
                  refine condF ha KR KR (t := ((bt a0 0) == 137)) (ieq_f hp2264) ?_
                  refine wp_seq_k (fun K2265 hK2266 => ?_)
                  refine wp_region_lit ?_
                  refine stepp ha 23 (.bool ((bt a0 0) == 138)) KR KR ?_; clear ha a; intro a ha
                  refine stepp ha 20 (.bool ((bt a0 0) == 138)) KR KR ?_; clear ha a; intro a ha
                  refine endl ?_
                  refine thenN (hK2266 _ _ ?_); clear hK2266
                  by_cases hp2267 : (bt a0 0) = 138
                  · skip
                    replace h := ite_pos' h hp2267
                    refine condT ha KR KR (t := ((bt a0 0) == 138)) (ieq_t hp2267) ?_
                    refine wp_skip ?_
                    refine thenN (hK2258 _ _ ?_); clear hK2258
                    refine condT ha KR KR (t := ((bt a0 0) == 138)) (ieq_t hp2267) ?_
                    refine wp_seq_k (fun K2272 hK2273 => ?_)
                    refine wp_region_lit ?_
                    refine stepp ha 2 (.int .i64 16) KR KR ?_; clear ha a; intro a ha
                    refine endl ?_
                    refine thenN (hK2273 _ _ ?_); clear hK2273
                    refine wp_ret ?_
                    refine blkR ?_
                    refine thenR ?_
                    obtain rfl := Option.some.inj h
                    exact finv ha _ _ rfl (.tmp (v := .int .i64 16) KR .nil) (.int .i64 16) rfl ⟨rfl, HW.pick [] [] (by decide) (by decide) rfl KR⟩
                  · skip
                    replace h := ite_neg' h hp2267
                    refine condF ha KR KR (t := ((bt a0 0) == 138)) (ieq_f hp2267) ?_
                    refine wp_region_lit ?_
                    refine stepp ha 24 (.bool ((bt a0 0) == 147)) KR KR ?_; clear ha a; intro a ha
                    refine stepp ha 20 (.bool ((bt a0 0) == 147)) KR KR ?_; clear ha a; intro a ha
                    refine endl ?_
                    refine thenN (hK2258 _ _ ?_); clear hK2258
                    by_cases hp2274 : (bt a0 0) = 147
                    · skip
                      replace h := ite_pos' h hp2274
                      refine condT ha KR KR (t := ((bt a0 0) == 147)) (ieq_t hp2274) ?_
                      refine wp_seq_k (fun K2275 hK2276 => ?_)
                      refine wp_region_lit ?_
                      refine stepp ha 2 (.int .i64 16) KR KR ?_; clear ha a; intro a ha
                      refine endl ?_
                      refine thenN (hK2276 _ _ ?_); clear hK2276
                      refine wp_ret ?_
                      refine blkR ?_
                      refine thenR ?_
                      obtain rfl := Option.some.inj h
                      exact finv ha _ _ rfl (.tmp (v := .int .i64 16) KR .nil) (.int .i64 16) rfl ⟨rfl, HW.pick [] [] (by decide) (by decide) rfl KR⟩
                    · skip
                      replace h := ite_neg' h hp2274
                      refine condF ha KR KR (t := ((bt a0 0) == 147)) (ieq_f hp2274) ?_
                      refine wp_skip ?_
                      refine blkN ?_
                      refine thenN (hK2213 _ _ ?_); clear hK2213
                      refine wp_seq_k (fun K2277 hK2278 => ?_)
                      refine wp_region_lit ?_
                      refine stepp ha 2 (.int .i64 0) KR KR ?_; clear ha a; intro a ha
                      refine endl ?_
                      refine thenN (hK2278 _ _ ?_); clear hK2278
                      refine wp_ret ?_
                      obtain rfl := Option.some.inj h
                      exact finv ha _ _ rfl (.tmp (v := .int .i64 0) KR .nil) (.int .i64 0) rfl ⟨rfl, HW.pick [] [] (by decide) (by decide) rfl KR⟩
/-! ### headgate/headgateref01.there: function 49 -/
def headgateref01_there.f (a0 : ByteArray) (a1 : Int) (a2 : Int) : Option Bool :=
  if a1 ≥ 0 then (if a2 ≥ 0 then (if a1 ≤ (a0.size : Int) then (some (decide (a2 ≤ (IntKind.wrap .i64 ((a0.size : Int) - a1))))) else (some false)) else (some false)) else (some false)
set_option maxRecDepth 100000 in
set_option maxHeartbeats 4000000 in
theorem headgateref01_there.calls (a0 : ByteArray) (a1 : Int) (a2 : Int)  (r : Bool) (w : World)  (h : headgateref01_there.f a0 a1 a2 = some r) :
    Calls Tryd.prog 49 #[.string a0, .int .i64 a1, .int .i64 a2] w (fun e W' => e = .returned (.bool r) ∧ Wd w W' [] [] ) := by
  refine sxstart (n := 27) (l := [(0, .string a0), (1, .int .i64 a1), (2, .int .i64 a2)]) Tryd.func49 rfl rfl (Nat.le_of_ble_eq_true KR) (subsA_cons rfl (subsA_cons rfl (subsA_cons rfl (subsA_nil _)))) ?_
  intro a ha
  have HW := Wd.refl w
  unfold headgateref01_there.f at h
  refine wp_seq_k (fun K2279 hK2280 => ?_)
  refine wp_region_lit ?_
  refine stepp ha 6 (.bool false) KR KR ?_; clear ha a; intro a ha
  refine endl ?_
  refine thenN (hK2280 _ _ ?_); clear hK2280
  refine wp_seq_k (fun K2281 hK2282 => ?_)
  refine wp_region_lit ?_
  refine stepp ha 7 (.int .i64 a1) KR KR ?_; clear ha a; intro a ha
  refine stepp ha 8 (.bool (decide (a1 ≥ 0))) KR KR ?_; clear ha a; intro a ha
  refine stepp ha 9 (.bool (decide (a1 ≥ 0))) KR KR ?_; clear ha a; intro a ha
  by_cases hp2283 : a1 ≥ 0
  · skip
    replace h := ite_pos' h hp2283
    replace ha := ha.bool 9 KR (decide_eq_true hp2283)
    refine stepp ha 10 (.int .i64 a2) KR KR ?_; clear ha a; intro a ha
    refine stepp ha 11 (.bool (decide (a2 ≥ 0))) KR KR ?_; clear ha a; intro a ha
    refine stepp ha 12 (.bool (decide (a2 ≥ 0))) KR KR ?_; clear ha a; intro a ha
    refine stepp ha 13 (.bool (decide (a2 ≥ 0))) KR KR ?_; clear ha a; intro a ha
    by_cases hp2284 : a2 ≥ 0
    · skip
      replace h := ite_pos' h hp2284
      replace ha := ha.bool 13 KR (decide_eq_true hp2284)
      refine stepp ha 14 (.int .i64 a1) KR KR ?_; clear ha a; intro a ha
      refine stepp ha 15 (.string a0) KR KR ?_; clear ha a; intro a ha
      refine stepp ha 16 (.int .i64 (a0.size : Int)) KR KR ?_; clear ha a; intro a ha
      refine stepp ha 17 (.bool (decide (a1 ≤ (a0.size : Int)))) KR KR ?_; clear ha a; intro a ha
      refine stepp ha 18 (.bool (decide (a1 ≤ (a0.size : Int)))) KR KR ?_; clear ha a; intro a ha
      refine stepp ha 19 (.bool (decide (a1 ≤ (a0.size : Int)))) KR KR ?_; clear ha a; intro a ha
      by_cases hp2285 : a1 ≤ (a0.size : Int)
      · skip
        replace h := ite_pos' h hp2285
        replace ha := ha.bool 19 KR (decide_eq_true hp2285)
        refine stepp ha 20 (.int .i64 a2) KR KR ?_; clear ha a; intro a ha
        refine stepp ha 21 (.string a0) KR KR ?_; clear ha a; intro a ha
        refine stepp ha 22 (.int .i64 (a0.size : Int)) KR KR ?_; clear ha a; intro a ha
        refine stepp ha 23 (.int .i64 a1) KR KR ?_; clear ha a; intro a ha
        refine stepp ha 24 (.int .i64 (IntKind.wrap .i64 ((a0.size : Int) - a1))) KR KR ?_; clear ha a; intro a ha
        refine stepp ha 25 (.bool (decide (a2 ≤ (IntKind.wrap .i64 ((a0.size : Int) - a1))))) KR KR ?_; clear ha a; intro a ha
        refine stepp ha 26 (.bool (decide (a2 ≤ (IntKind.wrap .i64 ((a0.size : Int) - a1))))) KR KR ?_; clear ha a; intro a ha
        refine stepp ha 6 (.bool (decide (a2 ≤ (IntKind.wrap .i64 ((a0.size : Int) - a1))))) KR KR ?_; clear ha a; intro a ha
        refine endl ?_
        refine thenN (hK2282 _ _ ?_); clear hK2282
        refine wp_ret ?_
        obtain rfl := Option.some.inj h
        exact finv ha _ _ rfl (.tmp (v := .bool (decide (a2 ≤ (IntKind.wrap .i64 ((a0.size : Int) - a1))))) KR .nil) (.bool (decide (a2 ≤ (IntKind.wrap .i64 ((a0.size : Int) - a1))))) rfl ⟨rfl, HW.pick [] [] (by decide) (by decide) rfl KR⟩
      · skip
        replace h := ite_neg' h hp2285
        replace ha := ha.bool 19 KR (decide_eq_false hp2285)
        refine stepo ha 20 KR ?_; clear ha a; intro a ha
        refine stepo ha 21 KR ?_; clear ha a; intro a ha
        refine stepo ha 22 KR ?_; clear ha a; intro a ha
        refine stepo ha 23 KR ?_; clear ha a; intro a ha
        refine stepo ha 24 KR ?_; clear ha a; intro a ha
        refine stepo ha 25 KR ?_; clear ha a; intro a ha
        refine stepp ha 26 (.bool false) KR KR ?_; clear ha a; intro a ha
        refine stepp ha 6 (.bool false) KR KR ?_; clear ha a; intro a ha
        refine endl ?_
        refine thenN (hK2282 _ _ ?_); clear hK2282
        refine wp_ret ?_
        obtain rfl := Option.some.inj h
        exact finv ha _ _ rfl (.tmp (v := .bool false) KR .nil) (.bool false) rfl ⟨rfl, HW.pick [] [] (by decide) (by decide) rfl KR⟩
    · skip
      replace h := ite_neg' h hp2284
      replace ha := ha.bool 13 KR (decide_eq_false hp2284)
      refine stepo ha 14 KR ?_; clear ha a; intro a ha
      refine stepo ha 15 KR ?_; clear ha a; intro a ha
      refine stepo ha 16 KR ?_; clear ha a; intro a ha
      refine stepo ha 17 KR ?_; clear ha a; intro a ha
      refine stepp ha 18 (.bool false) KR KR ?_; clear ha a; intro a ha
      refine stepp ha 19 (.bool false) KR KR ?_; clear ha a; intro a ha
      refine stepo ha 20 KR ?_; clear ha a; intro a ha
      refine stepo ha 21 KR ?_; clear ha a; intro a ha
      refine stepo ha 22 KR ?_; clear ha a; intro a ha
      refine stepo ha 23 KR ?_; clear ha a; intro a ha
      refine stepo ha 24 KR ?_; clear ha a; intro a ha
      refine stepo ha 25 KR ?_; clear ha a; intro a ha
      refine stepp ha 26 (.bool false) KR KR ?_; clear ha a; intro a ha
      refine stepp ha 6 (.bool false) KR KR ?_; clear ha a; intro a ha
      refine endl ?_
      refine thenN (hK2282 _ _ ?_); clear hK2282
      refine wp_ret ?_
      obtain rfl := Option.some.inj h
      exact finv ha _ _ rfl (.tmp (v := .bool false) KR .nil) (.bool false) rfl ⟨rfl, HW.pick [] [] (by decide) (by decide) rfl KR⟩
  · skip
    replace h := ite_neg' h hp2283
    replace ha := ha.bool 9 KR (decide_eq_false hp2283)
    refine stepo ha 10 KR ?_; clear ha a; intro a ha
    refine stepo ha 11 KR ?_; clear ha a; intro a ha
    refine stepp ha 12 (.bool false) KR KR ?_; clear ha a; intro a ha
    refine stepp ha 13 (.bool false) KR KR ?_; clear ha a; intro a ha
    refine stepo ha 14 KR ?_; clear ha a; intro a ha
    refine stepo ha 15 KR ?_; clear ha a; intro a ha
    refine stepo ha 16 KR ?_; clear ha a; intro a ha
    refine stepo ha 17 KR ?_; clear ha a; intro a ha
    refine stepp ha 18 (.bool false) KR KR ?_; clear ha a; intro a ha
    refine stepp ha 19 (.bool false) KR KR ?_; clear ha a; intro a ha
    refine stepo ha 20 KR ?_; clear ha a; intro a ha
    refine stepo ha 21 KR ?_; clear ha a; intro a ha
    refine stepo ha 22 KR ?_; clear ha a; intro a ha
    refine stepo ha 23 KR ?_; clear ha a; intro a ha
    refine stepo ha 24 KR ?_; clear ha a; intro a ha
    refine stepo ha 25 KR ?_; clear ha a; intro a ha
    refine stepp ha 26 (.bool false) KR KR ?_; clear ha a; intro a ha
    refine stepp ha 6 (.bool false) KR KR ?_; clear ha a; intro a ha
    refine endl ?_
    refine thenN (hK2282 _ _ ?_); clear hK2282
    refine wp_ret ?_
    obtain rfl := Option.some.inj h
    exact finv ha _ _ rfl (.tmp (v := .bool false) KR .nil) (.bool false) rfl ⟨rfl, HW.pick [] [] (by decide) (by decide) rfl KR⟩
/-! ### headgate/headgateref01.Big: function 45 -/
def headgateref01_Big.b0 (K : Nat) (a0 : ByteArray) (a1 : Int) (a2 : Int) (again2333 : Int → Int → Option (Int × Bool)) (x2334 : Int) (x2335 : Int) : Option (Int × Bool) :=
  if x2335 < a2 then (asrt (0 ≤ (IntKind.wrap .i64 (a1 + x2335))) (asrt ((IntKind.wrap .i64 (a1 + x2335)) < (a0.size : Int)) (again2333 (IntKind.wrap .u64 ((IntKind.wrap .u64 (x2334 * 256)) + (IntKind.wrap .u64 (bt a0 (IntKind.wrap .i64 (a1 + x2335)))))) (IntKind.wrap .i64 (x2335 + 1))))) else (some (x2334, true))
def headgateref01_Big.l0 (K : Nat) (a0 : ByteArray) (a1 : Int) (a2 : Int) : Nat → Int → Int → Option (Int × Bool)
  | 0, _, _ => none
  | k_ + 1, x2334, x2335 => headgateref01_Big.b0 K a0 a1 a2 (headgateref01_Big.l0 K a0 a1 a2 k_) x2334 x2335
def headgateref01_Big.f (K : Nat) (a0 : ByteArray) (a1 : Int) (a2 : Int) : Option (Int × Bool) :=
  if a2 < 1 then (some (0, false)) else (if a2 > 8 then (some (0, false)) else ((headgateref01_there.f a0 a1 a2).bind fun t2294 => (if t2294 = true then (headgateref01_Big.l0 K a0 a1 a2 K 0 0) else (some (0, false)))))
set_option maxRecDepth 100000 in
set_option maxHeartbeats 4000000 in
theorem headgateref01_Big.calls (K : Nat) (a0 : ByteArray) (a1 : Int) (a2 : Int)  (r : Int × Bool) (w : World)  (h : headgateref01_Big.f K a0 a1 a2 = some r) :
    Calls Tryd.prog 45 #[.string a0, .int .i64 a1, .int .i64 a2] w (fun e W' => e = .returned (.tuple #[.int .u64 r.1, .bool r.2]) ∧ Wd w W' [] [] ) := by
  refine sxstart (n := 38) (l := [(0, .string a0), (1, .int .i64 a1), (2, .int .i64 a2)]) Tryd.func45 rfl rfl (Nat.le_of_ble_eq_true KR) (subsA_cons rfl (subsA_cons rfl (subsA_cons rfl (subsA_nil _)))) ?_
  intro a ha
  have HW := Wd.refl w
  unfold headgateref01_Big.f at h
  refine wp_seq_k (fun K2286 hK2287 => ?_)
  refine wp_region_lit ?_
  refine stepp ha 6 (.int .u64 0) KR KR ?_; clear ha a; intro a ha
  refine stepp ha 7 (.bool false) KR KR ?_; clear ha a; intro a ha
  refine endl ?_
  refine thenN (hK2287 _ _ ?_); clear hK2287
  refine wp_seq_k (fun K2288 hK2289 => ?_)
  refine wp_seq_k (fun K2290 hK2291 => ?_)
  refine wp_region_lit ?_
  refine stepp ha 10 (.int .i64 a2) KR KR ?_; clear ha a; intro a ha
  refine stepp ha 11 (.bool (decide (a2 < 1))) KR KR ?_; clear ha a; intro a ha
  refine stepp ha 12 (.bool (decide (a2 < 1))) KR KR ?_; clear ha a; intro a ha
  by_cases hp2292 : a2 < 1
  · skip
    replace h := ite_pos' h hp2292
    replace ha := ha.bool 12 KR (decide_eq_true hp2292)
    refine stepo ha 13 KR ?_; clear ha a; intro a ha
    refine stepo ha 14 KR ?_; clear ha a; intro a ha
    refine stepp ha 15 (.bool true) KR KR ?_; clear ha a; intro a ha
    refine stepp ha 16 (.bool true) KR KR ?_; clear ha a; intro a ha
    refine stepo ha 17 KR ?_; clear ha a; intro a ha
    refine stepo ha 18 KR ?_; clear ha a; intro a ha
    refine stepo ha 19 KR ?_; clear ha a; intro a ha
    refine stepo ha 20 KR ?_; clear ha a; intro a ha
    refine stepo ha 21 KR ?_; clear ha a; intro a ha
    refine stepp ha 22 (.bool true) KR KR ?_; clear ha a; intro a ha
    refine endl ?_
    refine thenN (hK2291 _ _ ?_); clear hK2291
    refine condT ha KR KR (t := true) (rfl) ?_
    refine wp_seq_k (fun K2298 hK2299 => ?_)
    refine wp_region_lit ?_
    refine stepp ha 6 (.int .u64 0) KR KR ?_; clear ha a; intro a ha
    refine stepp ha 7 (.bool false) KR KR ?_; clear ha a; intro a ha
    refine endl ?_
    refine thenN (hK2299 _ _ ?_); clear hK2299
    refine wp_ret ?_
    refine thenR ?_
    obtain rfl := Option.some.inj h
    exact finv ha _ _ rfl (.tmp (v := .int .u64 0) KR (.tmp (v := .bool false) KR .nil)) (.tuple #[.int .u64 0, .bool false]) rfl ⟨rfl, HW.pick [] [] (by decide) (by decide) rfl KR⟩
  · skip
    replace h := ite_neg' h hp2292
    replace ha := ha.bool 12 KR (decide_eq_false hp2292)
    refine stepp ha 13 (.int .i64 a2) KR KR ?_; clear ha a; intro a ha
    refine stepp ha 14 (.bool (decide (a2 > 8))) KR KR ?_; clear ha a; intro a ha
    refine stepp ha 15 (.bool (decide (a2 > 8))) KR KR ?_; clear ha a; intro a ha
    refine stepp ha 16 (.bool (decide (a2 > 8))) KR KR ?_; clear ha a; intro a ha
    by_cases hp2293 : a2 > 8
    · skip
      replace h := ite_pos' h hp2293
      replace ha := ha.bool 16 KR (decide_eq_true hp2293)
      refine stepo ha 17 KR ?_; clear ha a; intro a ha
      refine stepo ha 18 KR ?_; clear ha a; intro a ha
      refine stepo ha 19 KR ?_; clear ha a; intro a ha
      refine stepo ha 20 KR ?_; clear ha a; intro a ha
      refine stepo ha 21 KR ?_; clear ha a; intro a ha
      refine stepp ha 22 (.bool true) KR KR ?_; clear ha a; intro a ha
      refine endl ?_
      refine thenN (hK2291 _ _ ?_); clear hK2291
      refine condT ha KR KR (t := true) (rfl) ?_
      refine wp_seq_k (fun K2300 hK2301 => ?_)
      refine wp_region_lit ?_
      refine stepp ha 6 (.int .u64 0) KR KR ?_; clear ha a; intro a ha
      refine stepp ha 7 (.bool false) KR KR ?_; clear ha a; intro a ha
      refine endl ?_
      refine thenN (hK2301 _ _ ?_); clear hK2301
      refine wp_ret ?_
      refine thenR ?_
      obtain rfl := Option.some.inj h
      exact finv ha _ _ rfl (.tmp (v := .int .u64 0) KR (.tmp (v := .bool false) KR .nil)) (.tuple #[.int .u64 0, .bool false]) rfl ⟨rfl, HW.pick [] [] (by decide) (by decide) rfl KR⟩
    · skip
      replace h := ite_neg' h hp2293
      replace ha := ha.bool 16 KR (decide_eq_false hp2293)
      refine stepp ha 17 (.string a0) KR KR ?_; clear ha a; intro a ha
      refine stepp ha 18 (.int .i64 a1) KR KR ?_; clear ha a; intro a ha
      refine stepp ha 19 (.int .i64 a2) KR KR ?_; clear ha a; intro a ha
      obtain ⟨t2294, ht2295, h_⟩ := bind_some' h; clear h; have h := h_; clear h_
      refine stepc ha 20 KR KR (headgateref01_there.calls a0 a1 a2 t2294 _ ht2295) ?_; clear ha a; rintro e W2296 ⟨rfl, HX2297⟩
      refine ⟨_, rfl, ?_⟩; intro a ha; replace HW := HW.callw HX2297; clear HX2297
      refine stepp ha 21 (.bool (!t2294)) KR KR ?_; clear ha a; intro a ha
      refine stepp ha 22 (.bool (!t2294)) KR KR ?_; clear ha a; intro a ha
      refine endl ?_
      refine thenN (hK2291 _ _ ?_); clear hK2291
      by_cases hp2302 : t2294 = true
      · skip
        replace h := ite_pos' h hp2302
        refine condF ha KR KR (t := (!t2294)) (not_f (hp2302)) ?_
        refine wp_skip ?_
        refine thenN (hK2289 _ _ ?_); clear hK2289
        refine wp_seq_k (fun K2305 hK2306 => ?_)
        refine wp_region_lit ?_
        refine stepp ha 8 (.int .u64 0) KR KR ?_; clear ha a; intro a ha
        refine endl ?_
        refine thenN (hK2306 _ _ ?_); clear hK2306
        refine wp_seq_k (fun K2307 hK2308 => ?_)
        refine wp_seq_k (fun K2309 hK2310 => ?_)
        refine wp_region_lit ?_
        refine stepp ha 9 (.int .i64 0) KR KR ?_; clear ha a; intro a ha
        refine endl ?_
        refine thenN (hK2310 _ _ ?_); clear hK2310
        refine wp_block ?_
        refine loopk (fun k => fun a W2336 => ∃ (x2334 : Int), ∃ (x2335 : Int), headgateref01_Big.l0 K a0 a1 a2 k x2334 x2335 = some r ∧ Has 38 [(0, .string a0), (1, .int .i64 a1), (2, .int .i64 a2), (8, .int .u64 x2334), (9, .int .i64 x2335)] a ∧ Wd w W2336 [] []) K ?_ ?_
        · skip
          exact ⟨0, 0, h, ha.sub (subs_cons KR (subs_cons KR (subs_cons KR (subs_cons KR (subs_cons KR (subs_nil _)))))), HW.pick [] [] (by decide) (by decide) KR KR⟩
        · skip
          intro k a W2336 hI
          obtain ⟨x2334, x2335, h, ha, HW⟩ := hI
          cases k with
          | zero => exact (none_some (show none = some r from h)).elim
          | succ k2337 =>
            replace h : headgateref01_Big.b0 K a0 a1 a2 (headgateref01_Big.l0 K a0 a1 a2 k2337) x2334 x2335 = some r := h
            obtain ⟨again2333, hag2338⟩ : ∃ g_, g_ = headgateref01_Big.l0 K a0 a1 a2 k2337 := ⟨_, rfl⟩
            rw [← hag2338] at h
            unfold headgateref01_Big.b0 at h
            refine wp_seq_k (fun K2339 hK2340 => ?_)
            refine wp_seq_k (fun K2341 hK2342 => ?_)
            refine wp_region_lit ?_
            refine stepp ha 23 (.int .i64 x2335) KR KR ?_; clear ha a; intro a ha
            refine stepp ha 24 (.int .i64 a2) KR KR ?_; clear ha a; intro a ha
            refine stepp ha 25 (.bool (decide (x2335 < a2))) KR KR ?_; clear ha a; intro a ha
            refine endl ?_
            refine thenN (hK2342 _ _ ?_); clear hK2342
            by_cases hp2343 : x2335 < a2
            · skip
              replace h := ite_pos' h hp2343
              refine condT ha KR KR (t := decide (x2335 < a2)) (decide_eq_true hp2343) ?_
              refine wp_skip ?_
              refine thenN (hK2340 _ _ ?_); clear hK2340
              refine wp_seq_k (fun K2344 hK2345 => ?_)
              refine wp_block ?_
              refine wp_region_lit ?_
              refine stepp ha 28 (.int .u64 x2334) KR KR ?_; clear ha a; intro a ha
              refine stepp ha 29 (.int .u64 (IntKind.wrap .u64 (x2334 * 256))) KR KR ?_; clear ha a; intro a ha
              refine stepp ha 30 (.string a0) KR KR ?_; clear ha a; intro a ha
              refine stepp ha 31 (.int .i64 a1) KR KR ?_; clear ha a; intro a ha
              refine stepp ha 32 (.int .i64 x2335) KR KR ?_; clear ha a; intro a ha
              refine stepp ha 33 (.int .i64 (IntKind.wrap .i64 (a1 + x2335))) KR KR ?_; clear ha a; intro a ha
              obtain ⟨hA2346, h_⟩ := asrt_some h; clear h; have h := h_; clear h_
              obtain ⟨hA2347, h_⟩ := asrt_some h; clear h; have h := h_; clear h_
              refine stepsi ha 34 9 (.tmp 30) (.tmp 33) a0 .i64 (IntKind.wrap .i64 (a1 + x2335)) rfl KR KR KR hA2346 (show (IntKind.wrap .i64 (a1 + x2335) : Int) < ((a0).size : Int) from hA2347) KR ?_; clear ha a; intro a ha
              refine stepp ha 35 (.int .u64 (IntKind.wrap .u64 (bt a0 (IntKind.wrap .i64 (a1 + x2335))))) KR KR ?_; clear ha a; intro a ha
              refine stepp ha 36 (.int .u64 (IntKind.wrap .u64 ((IntKind.wrap .u64 (x2334 * 256)) + (IntKind.wrap .u64 (bt a0 (IntKind.wrap .i64 (a1 + x2335))))))) KR KR ?_; clear ha a; intro a ha
              refine stepp ha 8 (.int .u64 (IntKind.wrap .u64 ((IntKind.wrap .u64 (x2334 * 256)) + (IntKind.wrap .u64 (bt a0 (IntKind.wrap .i64 (a1 + x2335))))))) KR KR ?_; clear ha a; intro a ha
              refine endl ?_
              refine blkN ?_
              refine thenN (hK2345 _ _ ?_); clear hK2345
              refine wp_region_lit ?_
              refine stepp ha 26 (.int .i64 x2335) KR KR ?_; clear ha a; intro a ha
              refine stepp ha 27 (.int .i64 (IntKind.wrap .i64 (x2335 + 1))) KR KR ?_; clear ha a; intro a ha
              refine stepp ha 9 (.int .i64 (IntKind.wrap .i64 (x2335 + 1))) KR KR ?_; clear ha a; intro a ha
              refine endl ?_
              exact thenN ⟨k2337, Nat.lt_succ_self k2337, IntKind.wrap .u64 ((IntKind.wrap .u64 (x2334 * 256)) + (IntKind.wrap .u64 (bt a0 (IntKind.wrap .i64 (a1 + x2335))))), IntKind.wrap .i64 (x2335 + 1), (by rw [← hag2338]; exact h), ha.sub (subs_cons KR (subs_cons KR (subs_cons KR (subs_cons KR (subs_cons KR (subs_nil _)))))), HW.pick [] [] (by decide) (by decide) KR KR⟩
            · skip
              replace h := ite_neg' h hp2343
              refine condF ha KR KR (t := decide (x2335 < a2)) (decide_eq_false hp2343) ?_
              refine wp_exit ?_
              refine thenE ?_
              refine thenE ?_
              refine inBlk ?_
              refine thenN (hK2308 _ _ ?_); clear hK2308
              refine wp_seq_k (fun K2348 hK2349 => ?_)
              refine wp_region_lit ?_
              refine stepp ha 37 (.int .u64 x2334) KR KR ?_; clear ha a; intro a ha
              refine stepp ha 6 (.int .u64 x2334) KR KR ?_; clear ha a; intro a ha
              refine stepp ha 7 (.bool true) KR KR ?_; clear ha a; intro a ha
              refine endl ?_
              refine thenN (hK2349 _ _ ?_); clear hK2349
              refine wp_ret ?_
              obtain rfl := Option.some.inj h
              exact finv ha _ _ rfl (.tmp (v := .int .u64 x2334) KR (.tmp (v := .bool true) KR .nil)) (.tuple #[.int .u64 x2334, .bool true]) rfl ⟨rfl, HW.pick [] [] (by decide) (by decide) rfl KR⟩
      · skip
        replace h := ite_neg' h hp2302
        refine condT ha KR KR (t := (!t2294)) (not_t (bool_f hp2302)) ?_
        refine wp_seq_k (fun K2303 hK2304 => ?_)
        refine wp_region_lit ?_
        refine stepp ha 6 (.int .u64 0) KR KR ?_; clear ha a; intro a ha
        refine stepp ha 7 (.bool false) KR KR ?_; clear ha a; intro a ha
        refine endl ?_
        refine thenN (hK2304 _ _ ?_); clear hK2304
        refine wp_ret ?_
        refine thenR ?_
        obtain rfl := Option.some.inj h
        exact finv ha _ _ rfl (.tmp (v := .int .u64 0) KR (.tmp (v := .bool false) KR .nil)) (.tuple #[.int .u64 0, .bool false]) rfl ⟨rfl, HW.pick [] [] (by decide) (by decide) rfl KR⟩
/-! ### headgate/headgateref15.num: function 37 -/
def headgateref15_num.f (K : Nat) (a0 : ByteArray) (a1 : Int) (a2 : Int) : Option Int :=
  (headgateref01_Big.f K a0 a1 a2).bind fun t2354 => (if t2354.1 > 1099511627776 then (some 1099511627776) else (some (IntKind.wrap .i64 t2354.1)))
set_option maxRecDepth 100000 in
set_option maxHeartbeats 4000000 in
theorem headgateref15_num.calls (K : Nat) (a0 : ByteArray) (a1 : Int) (a2 : Int)  (r : Int) (w : World)  (h : headgateref15_num.f K a0 a1 a2 = some r) :
    Calls Tryd.prog 37 #[.string a0, .int .i64 a1, .int .i64 a2] w (fun e W' => e = .returned (.int .i64 r) ∧ Wd w W' [] [] ) := by
  refine sxstart (n := 20) (l := [(0, .string a0), (1, .int .i64 a1), (2, .int .i64 a2)]) Tryd.func37 rfl rfl (Nat.le_of_ble_eq_true KR) (subsA_cons rfl (subsA_cons rfl (subsA_cons rfl (subsA_nil _)))) ?_
  intro a ha
  have HW := Wd.refl w
  unfold headgateref15_num.f at h
  refine wp_seq_k (fun K2350 hK2351 => ?_)
  refine wp_region_lit ?_
  refine stepp ha 6 (.int .i64 0) KR KR ?_; clear ha a; intro a ha
  refine endl ?_
  refine thenN (hK2351 _ _ ?_); clear hK2351
  refine wp_seq_k (fun K2352 hK2353 => ?_)
  refine wp_region_lit ?_
  refine stepp ha 10 (.string a0) KR KR ?_; clear ha a; intro a ha
  refine stepp ha 11 (.int .i64 a1) KR KR ?_; clear ha a; intro a ha
  refine stepp ha 12 (.int .i64 a2) KR KR ?_; clear ha a; intro a ha
  obtain ⟨t2354, ht2355, h_⟩ := bind_some' h; clear h; have h := h_; clear h_
  refine stepc ha 13 KR KR (headgateref01_Big.calls K a0 a1 a2 t2354 _ ht2355) ?_; clear ha a; rintro e W2356 ⟨rfl, HX2357⟩
  refine ⟨_, rfl, ?_⟩; intro a ha; replace HW := HW.callw HX2357; clear HX2357
  refine stepp ha 9 (.tuple #[.int .u64 t2354.1, .bool t2354.2]) KR KR ?_; clear ha a; intro a ha
  refine stepp ha 14 (.int .u64 t2354.1) KR KR ?_; clear ha a; intro a ha
  refine stepp ha 15 (.bool t2354.2) KR KR ?_; clear ha a; intro a ha
  refine stepp ha 7 (.int .u64 t2354.1) KR KR ?_; clear ha a; intro a ha
  refine stepp ha 8 (.bool t2354.2) KR KR ?_; clear ha a; intro a ha
  refine endl ?_
  refine thenN (hK2353 _ _ ?_); clear hK2353
  refine wp_seq_k (fun K2358 hK2359 => ?_)
  refine wp_seq_k (fun K2360 hK2361 => ?_)
  refine wp_region_lit ?_
  refine stepp ha 16 (.int .u64 t2354.1) KR KR ?_; clear ha a; intro a ha
  refine stepp ha 17 (.bool (decide (t2354.1 > 1099511627776))) KR KR ?_; clear ha a; intro a ha
  refine endl ?_
  refine thenN (hK2361 _ _ ?_); clear hK2361
  by_cases hp2362 : t2354.1 > 1099511627776
  · skip
    replace h := ite_pos' h hp2362
    refine condT ha KR KR (t := decide (t2354.1 > 1099511627776)) (decide_eq_true hp2362) ?_
    refine wp_seq_k (fun K2363 hK2364 => ?_)
    refine wp_region_lit ?_
    refine stepp ha 6 (.int .i64 1099511627776) KR KR ?_; clear ha a; intro a ha
    refine endl ?_
    refine thenN (hK2364 _ _ ?_); clear hK2364
    refine wp_ret ?_
    refine thenR ?_
    obtain rfl := Option.some.inj h
    exact finv ha _ _ rfl (.tmp (v := .int .i64 1099511627776) KR .nil) (.int .i64 1099511627776) rfl ⟨rfl, HW.pick [] [] (by decide) (by decide) rfl KR⟩
  · skip
    replace h := ite_neg' h hp2362
    refine condF ha KR KR (t := decide (t2354.1 > 1099511627776)) (decide_eq_false hp2362) ?_
    refine wp_skip ?_
    refine thenN (hK2359 _ _ ?_); clear hK2359
    refine wp_seq_k (fun K2365 hK2366 => ?_)
    refine wp_region_lit ?_
    refine stepp ha 18 (.int .u64 t2354.1) KR KR ?_; clear ha a; intro a ha
    refine stepp ha 19 (.int .i64 (IntKind.wrap .i64 t2354.1)) KR KR ?_; clear ha a; intro a ha
    refine stepp ha 6 (.int .i64 (IntKind.wrap .i64 t2354.1)) KR KR ?_; clear ha a; intro a ha
    refine endl ?_
    refine thenN (hK2366 _ _ ?_); clear hK2366
    refine wp_ret ?_
    obtain rfl := Option.some.inj h
    exact finv ha _ _ rfl (.tmp (v := .int .i64 (IntKind.wrap .i64 t2354.1)) KR .nil) (.int .i64 (IntKind.wrap .i64 t2354.1)) rfl ⟨rfl, HW.pick [] [] (by decide) (by decide) rfl KR⟩
/-! ### headgate/headgateref15.Type: function 25 -/
def headgateref15_Type.f (a0 : Int) : Option Int :=
  if a0 = 1 then (some 1) else (if a0 = 3 then (some 2) else (if a0 = 5 then (some (IntKind.wrap .i64 (a0 - 2))) else (if a0 = 6 then (some (IntKind.wrap .i64 (a0 - 2))) else (if a0 = 7 then (some (IntKind.wrap .i64 (a0 - 2))) else (if a0 = 8 then (some (IntKind.wrap .i64 (a0 - 2))) else (some 0))))))
set_option maxRecDepth 100000 in
set_option maxHeartbeats 4000000 in
theorem headgateref15_Type.calls (a0 : Int)  (r : Int) (w : World)  (h : headgateref15_Type.f a0 = some r) :
    Calls Tryd.prog 25 #[.int .i64 a0] w (fun e W' => e = .returned (.int .i64 r) ∧ Wd w W' [] [] ) := by
  refine sxstart (n := 15) (l := [(0, .int .i64 a0)]) Tryd.func25 rfl rfl (Nat.le_of_ble_eq_true KR) (subsA_cons rfl (subsA_nil _)) ?_
  intro a ha
  have HW := Wd.refl w
  unfold headgateref15_Type.f at h
  refine wp_seq_k (fun K2367 hK2368 => ?_)
  refine wp_region_lit ?_
  refine stepp ha 2 (.int .i64 0) KR KR ?_; clear ha a; intro a ha
  refine endl ?_
  refine thenN (hK2368 _ _ ?_); clear hK2368
  refine wp_seq_k (fun K2369 hK2370 => ?_)
  refine wp_seq_k (fun K2371 hK2372 => ?_)
  refine wp_region_lit ?_
  refine stepp ha 3 (.int .i64 a0) KR KR ?_; clear ha a; intro a ha
  refine endl ?_
  refine thenN (hK2372 _ _ ?_); clear hK2372
  refine wp_block ?_
  refine wp_seq_k (fun K2373 hK2374 => ?_)
  refine wp_region_lit ?_
  refine stepp ha 5 (.bool (a0 == 1)) KR KR ?_; clear ha a; intro a ha
  refine stepp ha 4 (.bool (a0 == 1)) KR KR ?_; clear ha a; intro a ha
  refine endl ?_
  refine thenN (hK2374 _ _ ?_); clear hK2374
  by_cases hp2375 : a0 = 1
  · skip
    replace h := ite_pos' h hp2375
    refine condT ha KR KR (t := (a0 == 1)) (ieq_t hp2375) ?_
    refine wp_seq_k (fun K2376 hK2377 => ?_)
    refine wp_region_lit ?_
    refine stepp ha 2 (.int .i64 1) KR KR ?_; clear ha a; intro a ha
    refine endl ?_
    refine thenN (hK2377 _ _ ?_); clear hK2377
    refine wp_ret ?_
    refine blkR ?_
    refine thenR ?_
    obtain rfl := Option.some.inj h
    exact finv ha _ _ rfl (.tmp (v := .int .i64 1) KR .nil) (.int .i64 1) rfl ⟨rfl, HW.pick [] [] (by decide) (by decide) rfl KR⟩
  · skip
    replace h := ite_neg' h hp2375
    refine condF ha KR KR (t := (a0 == 1)) (ieq_f hp2375) ?_
    refine wp_seq_k (fun K2378 hK2379 => ?_)
    refine wp_region_lit ?_
    refine stepp ha 7 (.bool (a0 == 3)) KR KR ?_; clear ha a; intro a ha
    refine stepp ha 6 (.bool (a0 == 3)) KR KR ?_; clear ha a; intro a ha
    refine endl ?_
    refine thenN (hK2379 _ _ ?_); clear hK2379
    by_cases hp2380 : a0 = 3
    · skip
      replace h := ite_pos' h hp2380
      refine condT ha KR KR (t := (a0 == 3)) (ieq_t hp2380) ?_
      refine wp_seq_k (fun K2381 hK2382 => ?_)
      refine wp_region_lit ?_
      refine stepp ha 2 (.int .i64 2) KR KR ?_; clear ha a; intro a ha
      refine endl ?_
      refine thenN (hK2382 _ _ ?_); clear hK2382
      refine wp_ret ?_
      refine blkR ?_
      refine thenR ?_
      obtain rfl := Option.some.inj h
      exact finv ha _ _ rfl (.tmp (v := .int .i64 2) KR .nil) (.int .i64 2) rfl ⟨rfl, HW.pick [] [] (by decide) (by decide) rfl KR⟩
    · skip
      replace h := ite_neg' h hp2380
      refine condF ha KR KR (t := (a0 == 3)) (ieq_f hp2380) ?_
      refine wp_seq_k (fun K2383 hK2384 => ?_)
      refine wp_seq_k (fun K2385 hK2386 => ?_)
      refine wp_region_lit ?_
      refine stepp ha 9 (.bool (a0 == 5)) KR KR ?_; clear ha a; intro a ha
      refine stepp ha 8 (.bool (a0 == 5)) KR KR ?_; clear ha a; intro a ha
      refine endl ?_
      refine thenN (hK2386 _ _ ?_); clear hK2386
      by_cases hp2387 : a0 = 5
      · skip
        replace h := ite_pos' h hp2387
        refine condT ha KR KR (t := (a0 == 5)) (ieq_t hp2387) ?_
        refine wp_skip ?_
        refine thenN (hK2384 _ _ ?_); clear hK2384
        refine condT ha KR KR (t := (a0 == 5)) (ieq_t hp2387) ?_
        refine wp_seq_k (fun K2394 hK2395 => ?_)
        refine wp_region_lit ?_
        refine stepp ha 13 (.int .i64 a0) KR KR ?_; clear ha a; intro a ha
        refine stepp ha 14 (.int .i64 (IntKind.wrap .i64 (a0 - 2))) KR KR ?_; clear ha a; intro a ha
        refine stepp ha 2 (.int .i64 (IntKind.wrap .i64 (a0 - 2))) KR KR ?_; clear ha a; intro a ha
        refine endl ?_
        refine thenN (hK2395 _ _ ?_); clear hK2395
        refine wp_ret ?_
        refine blkR ?_
        refine thenR ?_
        obtain rfl := Option.some.inj h
        exact finv ha _ _ rfl (.tmp (v := .int .i64 (IntKind.wrap .i64 (a0 - 2))) KR .nil) (.int .i64 (IntKind.wrap .i64 (a0 - 2))) rfl ⟨rfl, HW.pick [] [] (by decide) (by decide) rfl KR⟩
      · skip
        replace h := ite_neg' h hp2387
        refine condF ha KR KR (t := (a0 == 5)) (ieq_f hp2387) ?_
        refine wp_seq_k (fun K2388 hK2389 => ?_)
        refine wp_region_lit ?_
        refine stepp ha 10 (.bool (a0 == 6)) KR KR ?_; clear ha a; intro a ha
        refine stepp ha 8 (.bool (a0 == 6)) KR KR ?_; clear ha a; intro a ha
        refine endl ?_
        refine thenN (hK2389 _ _ ?_); clear hK2389
        by_cases hp2390 : a0 = 6
        · skip
          replace h := ite_pos' h hp2390
          refine condT ha KR KR (t := (a0 == 6)) (ieq_t hp2390) ?_
          refine wp_skip ?_
          refine thenN (hK2384 _ _ ?_); clear hK2384
          refine condT ha KR KR (t := (a0 == 6)) (ieq_t hp2390) ?_
          refine wp_seq_k (fun K2396 hK2397 => ?_)
          refine wp_region_lit ?_
          refine stepp ha 13 (.int .i64 a0) KR KR ?_; clear ha a; intro a ha
          refine stepp ha 14 (.int .i64 (IntKind.wrap .i64 (a0 - 2))) KR KR ?_; clear ha a; intro a ha
          refine stepp ha 2 (.int .i64 (IntKind.wrap .i64 (a0 - 2))) KR KR ?_; clear ha a; intro a ha
          refine endl ?_
          refine thenN (hK2397 _ _ ?_); clear hK2397
          refine wp_ret ?_
          refine blkR ?_
          refine thenR ?_
          obtain rfl := Option.some.inj h
          exact finv ha _ _ rfl (.tmp (v := .int .i64 (IntKind.wrap .i64 (a0 - 2))) KR .nil) (.int .i64 (IntKind.wrap .i64 (a0 - 2))) rfl ⟨rfl, HW.pick [] [] (by decide) (by decide) rfl KR⟩
        · skip
          replace h := ite_neg' h hp2390
          refine condF ha KR KR (t := (a0 == 6)) (ieq_f hp2390) ?_
          refine wp_seq_k (fun K2391 hK2392 => ?_)
          refine wp_region_lit ?_
          refine stepp ha 11 (.bool (a0 == 7)) KR KR ?_; clear ha a; intro a ha
          refine stepp ha 8 (.bool (a0 == 7)) KR KR ?_; clear ha a; intro a ha
          refine endl ?_
          refine thenN (hK2392 _ _ ?_); clear hK2392
          by_cases hp2393 : a0 = 7
          · skip
            replace h := ite_pos' h hp2393
            refine condT ha KR KR (t := (a0 == 7)) (ieq_t hp2393) ?_
            refine wp_skip ?_
            refine thenN (hK2384 _ _ ?_); clear hK2384
            refine condT ha KR KR (t := (a0 == 7)) (ieq_t hp2393) ?_
            refine wp_seq_k (fun K2398 hK2399 => ?_)
            refine wp_region_lit ?_
            refine stepp ha 13 (.int .i64 a0) KR KR ?_; clear ha a; intro a ha
            refine stepp ha 14 (.int .i64 (IntKind.wrap .i64 (a0 - 2))) KR KR ?_; clear ha a; intro a ha
            refine stepp ha 2 (.int .i64 (IntKind.wrap .i64 (a0 - 2))) KR KR ?_; clear ha a; intro a ha
            refine endl ?_
            refine thenN (hK2399 _ _ ?_); clear hK2399
            refine wp_ret ?_
            refine blkR ?_
            refine thenR ?_
            obtain rfl := Option.some.inj h
            exact finv ha _ _ rfl (.tmp (v := .int .i64 (IntKind.wrap .i64 (a0 - 2))) KR .nil) (.int .i64 (IntKind.wrap .i64 (a0 - 2))) rfl ⟨rfl, HW.pick [] [] (by decide) (by decide) rfl KR⟩
          · skip
            replace h := ite_neg' h hp2393
            refine condF ha KR KR (t := (a0 == 7)) (ieq_f hp2393) ?_
            refine wp_region_lit ?_
            refine stepp ha 12 (.bool (a0 == 8)) KR KR ?_; clear ha a; intro a ha
            refine stepp ha 8 (.bool (a0 == 8)) KR KR ?_; clear ha a; intro a ha
            refine endl ?_
            refine thenN (hK2384 _ _ ?_); clear hK2384
            by_cases hp2400 : a0 = 8
            · skip
              replace h := ite_pos' h hp2400
              refine condT ha KR KR (t := (a0 == 8)) (ieq_t hp2400) ?_
              refine wp_seq_k (fun K2401 hK2402 => ?_)
              refine wp_region_lit ?_
              refine stepp ha 13 (.int .i64 a0) KR KR ?_; clear ha a; intro a ha
              refine stepp ha 14 (.int .i64 (IntKind.wrap .i64 (a0 - 2))) KR KR ?_; clear ha a; intro a ha
              refine stepp ha 2 (.int .i64 (IntKind.wrap .i64 (a0 - 2))) KR KR ?_; clear ha a; intro a ha
              refine endl ?_
              refine thenN (hK2402 _ _ ?_); clear hK2402
              refine wp_ret ?_
              refine blkR ?_
              refine thenR ?_
              obtain rfl := Option.some.inj h
              exact finv ha _ _ rfl (.tmp (v := .int .i64 (IntKind.wrap .i64 (a0 - 2))) KR .nil) (.int .i64 (IntKind.wrap .i64 (a0 - 2))) rfl ⟨rfl, HW.pick [] [] (by decide) (by decide) rfl KR⟩
            · skip
              replace h := ite_neg' h hp2400
              refine condF ha KR KR (t := (a0 == 8)) (ieq_f hp2400) ?_
              refine wp_skip ?_
              refine blkN ?_
              refine thenN (hK2370 _ _ ?_); clear hK2370
              refine wp_seq_k (fun K2403 hK2404 => ?_)
              refine wp_region_lit ?_
              refine stepp ha 2 (.int .i64 0) KR KR ?_; clear ha a; intro a ha
              refine endl ?_
              refine thenN (hK2404 _ _ ?_); clear hK2404
              refine wp_ret ?_
              obtain rfl := Option.some.inj h
              exact finv ha _ _ rfl (.tmp (v := .int .i64 0) KR .nil) (.int .i64 0) rfl ⟨rfl, HW.pick [] [] (by decide) (by decide) rfl KR⟩
/-! ### headgate/headgateref15.reservation: function 38 -/
def headgateref15_reservation.j0 (K : Nat) (a0 : ByteArray) (a1 : T_headgateref15_Ask) (t2443 : Int) (x2475 : Bool) : Option (T_headgateref15_Ask × Int) :=
  if x2475 = true then ((headgateref15_Type.f (IntKind.wrap .i64 (bt a0 2))).bind fun t2480 => (if t2480 = 0 then (some ((⟨0, 0, 0, false, 0, 0, 0⟩ : T_headgateref15_Ask), 150)) else (some ((⟨IntKind.wrap .i64 ((IntKind.wrap .i64 (256 * (IntKind.wrap .i64 (bt a0 0)))) + (IntKind.wrap .i64 (Int.tmod (bt a0 1) 32))), a1.f1, a1.f2, a1.f3, a1.f4, t2443, t2480⟩ : T_headgateref15_Ask), 0)))) else (some ((⟨IntKind.wrap .i64 ((IntKind.wrap .i64 (256 * (IntKind.wrap .i64 (bt a0 0)))) + (IntKind.wrap .i64 (Int.tmod (bt a0 1) 32))), a1.f1, a1.f2, a1.f3, a1.f4, t2443, a1.f6⟩ : T_headgateref15_Ask), 0))
def headgateref15_reservation.f (K : Nat) (a0 : ByteArray) (a1 : T_headgateref15_Ask) : Option (T_headgateref15_Ask × Int) :=
  asrt (1 < (a0.size : Int)) (asrt (0 < (a0.size : Int)) (if (bt a0 0) = 94 then ((headgateref15_num.f K a0 7 2).bind fun t2425 => (if (IntKind.wrap .i64 (Int.tmod (bt a0 1) 32)) > 1 then (some ((⟨0, 0, 0, false, 0, 0, 0⟩ : T_headgateref15_Ask), 150)) else (some ((⟨IntKind.wrap .i64 ((IntKind.wrap .i64 (256 * (IntKind.wrap .i64 (bt a0 0)))) + (IntKind.wrap .i64 (Int.tmod (bt a0 1) 32))), a1.f1, a1.f2, a1.f3, a1.f4, t2425, a1.f6⟩ : T_headgateref15_Ask), 0)))) else ((headgateref15_num.f K a0 5 4).bind fun t2443 => (if t2443 = 24 then (asrt (2 < (a0.size : Int)) (if (bt a0 2) > 15 then (some ((⟨0, 0, 0, false, 0, 0, 0⟩ : T_headgateref15_Ask), 150)) else (if (IntKind.wrap .i64 (Int.tmod (bt a0 1) 32)) > 6 then (some ((⟨0, 0, 0, false, 0, 0, 0⟩ : T_headgateref15_Ask), 150)) else (if (IntKind.wrap .i64 (Int.tmod (bt a0 1) 32)) = 5 then (some ((⟨0, 0, 0, false, 0, 0, 0⟩ : T_headgateref15_Ask), 150)) else (if (IntKind.wrap .i64 (Int.tmod (bt a0 1) 32)) = 1 then (headgateref15_reservation.j0 K a0 a1 t2443 true) else (if (IntKind.wrap .i64 (Int.tmod (bt a0 1) 32)) = 2 then (headgateref15_reservation.j0 K a0 a1 t2443 true) else (headgateref15_reservation.j0 K a0 a1 t2443 ((IntKind.wrap .i64 (Int.tmod (bt a0 1) 32)) == 4)))))))) else (some ((⟨0, 0, 0, false, 0, 0, 0⟩ : T_headgateref15_Ask), 150))))))
set_option maxRecDepth 100000 in
set_option maxHeartbeats 4000000 in
theorem headgateref15_reservation.calls (K : Nat) (a0 : ByteArray) (a1 : T_headgateref15_Ask)  (r : T_headgateref15_Ask × Int) (w : World)  (h : headgateref15_reservation.f K a0 a1 = some r) :
    Calls Tryd.prog 38 #[.string a0, .agg #[.int .i64 a1.f0, .int .i64 a1.f1, .int .i64 a1.f2, .bool a1.f3, .int .i64 a1.f4, .int .i64 a1.f5, .int .i64 a1.f6]] w (fun e W' => e = .returned (.tuple #[.agg #[.int .i64 r.1.f0, .int .i64 r.1.f1, .int .i64 r.1.f2, .bool r.1.f3, .int .i64 r.1.f4, .int .i64 r.1.f5, .int .i64 r.1.f6], .int .i64 r.2]) ∧ Wd w W' [] [] ) := by
  refine sxstart (n := 68) (l := [(0, .string a0), (1, .agg #[.int .i64 a1.f0, .int .i64 a1.f1, .int .i64 a1.f2, .bool a1.f3, .int .i64 a1.f4, .int .i64 a1.f5, .int .i64 a1.f6])]) Tryd.func38 rfl rfl (Nat.le_of_ble_eq_true KR) (subsA_cons rfl (subsA_cons rfl (subsA_nil _))) ?_
  intro a ha
  have HW := Wd.refl w
  unfold headgateref15_reservation.f at h
  refine wp_seq_k (fun K2405 hK2406 => ?_)
  refine wp_region_lit ?_
  refine stepnew ha HW 3 #[.int .i64 a1.f0, .int .i64 a1.f1, .int .i64 a1.f2, .bool a1.f3, .int .i64 a1.f4, .int .i64 a1.f5, .int .i64 a1.f6] 43 KR KR ?_; clear ha HW a; intro b2407 a W2408 HW ha
  refine stepnew ha HW 4 #[.int .i64 0, .int .i64 0, .int .i64 0, .bool false, .int .i64 0, .int .i64 0, .int .i64 0] 43 KR KR ?_; clear ha HW a; intro b2409 a W2410 HW ha
  refine stepp ha 5 (.int .i64 0) KR KR ?_; clear ha a; intro a ha
  refine endl ?_
  refine thenN (hK2406 _ _ ?_); clear hK2406
  refine wp_seq_k (fun K2411 hK2412 => ?_)
  refine wp_region_lit ?_
  refine stepp ha 7 (.string a0) KR KR ?_; clear ha a; intro a ha
  obtain ⟨hA2413, h_⟩ := asrt_some h; clear h; have h := h_; clear h_
  refine stepsi ha 8 9 (.tmp 7) (.const (.int .i64 1)) a0 .i64 1 rfl KR KR KR (by decide) (show (1 : Int) < ((a0).size : Int) from hA2413) KR ?_; clear ha a; intro a ha
  refine stepp ha 9 (.int .u8 (Int.tmod (bt a0 1) 32)) KR KR ?_; clear ha a; intro a ha
  refine stepp ha 10 (.int .i64 (IntKind.wrap .i64 (Int.tmod (bt a0 1) 32))) KR KR ?_; clear ha a; intro a ha
  refine stepp ha 6 (.int .i64 (IntKind.wrap .i64 (Int.tmod (bt a0 1) 32))) KR KR ?_; clear ha a; intro a ha
  refine endl ?_
  refine thenN (hK2412 _ _ ?_); clear hK2412
  refine wp_seq_k (fun K2414 hK2415 => ?_)
  refine wp_region_lit ?_
  refine stepp ha 11 (.string a0) KR KR ?_; clear ha a; intro a ha
  obtain ⟨hA2416, h_⟩ := asrt_some h; clear h; have h := h_; clear h_
  refine stepsi ha 12 9 (.tmp 11) (.const (.int .i64 0)) a0 .i64 0 rfl KR KR KR (by decide) (show (0 : Int) < ((a0).size : Int) from hA2416) KR ?_; clear ha a; intro a ha
  refine stepp ha 13 (.int .i64 (IntKind.wrap .i64 (bt a0 0))) KR KR ?_; clear ha a; intro a ha
  refine stepp ha 14 (.int .i64 (IntKind.wrap .i64 (256 * (IntKind.wrap .i64 (bt a0 0))))) KR KR ?_; clear ha a; intro a ha
  refine stepp ha 15 (.int .i64 (IntKind.wrap .i64 (Int.tmod (bt a0 1) 32))) KR KR ?_; clear ha a; intro a ha
  refine stepp ha 16 (.int .i64 (IntKind.wrap .i64 ((IntKind.wrap .i64 (256 * (IntKind.wrap .i64 (bt a0 0)))) + (IntKind.wrap .i64 (Int.tmod (bt a0 1) 32))))) KR KR ?_; clear ha a; intro a ha
  refine stepp ha 17 (.pointer (some ⟨b2407, 0, none⟩)) KR KR ?_; clear ha a; intro a ha
  refine stepst ha HW 1 (b := b2407) (C := #[.int .i64 a1.f0, .int .i64 a1.f1, .int .i64 a1.f2, .bool a1.f3, .int .i64 a1.f4, .int .i64 a1.f5, .int .i64 a1.f6]) (T := 43) KR 3 0 (.tmp 17) (.tmp 16) (.int .i64 (IntKind.wrap .i64 ((IntKind.wrap .i64 (256 * (IntKind.wrap .i64 (bt a0 0)))) + (IntKind.wrap .i64 (Int.tmod (bt a0 1) 32))))) #[.int .i64 (IntKind.wrap .i64 ((IntKind.wrap .i64 (256 * (IntKind.wrap .i64 (bt a0 0)))) + (IntKind.wrap .i64 (Int.tmod (bt a0 1) 32)))), .int .i64 a1.f1, .int .i64 a1.f2, .bool a1.f3, .int .i64 a1.f4, .int .i64 a1.f5, .int .i64 a1.f6] rfl KR KR KR KR KR KR KR ?_; clear ha HW a; intro a W2417 HW ha
  refine endl ?_
  refine thenN (hK2415 _ _ ?_); clear hK2415
  refine wp_seq_k (fun K2418 hK2419 => ?_)
  refine wp_seq_k (fun K2420 hK2421 => ?_)
  refine wp_region_lit ?_
  refine stepp ha 18 (.string a0) KR KR ?_; clear ha a; intro a ha
  refine stepsi ha 19 9 (.tmp 18) (.const (.int .i64 0)) a0 .i64 0 rfl KR KR KR (by decide) (show (0 : Int) < ((a0).size : Int) from hA2416) KR ?_; clear ha a; intro a ha
  refine stepp ha 20 (.bool ((bt a0 0) == 94)) KR KR ?_; clear ha a; intro a ha
  refine endl ?_
  refine thenN (hK2421 _ _ ?_); clear hK2421
  by_cases hp2422 : (bt a0 0) = 94
  · skip
    replace h := ite_pos' h hp2422
    refine condT ha KR KR (t := ((bt a0 0) == 94)) (ieq_t hp2422) ?_
    refine wp_seq_k (fun K2423 hK2424 => ?_)
    refine wp_region_lit ?_
    refine stepp ha 21 (.string a0) KR KR ?_; clear ha a; intro a ha
    obtain ⟨t2425, ht2426, h_⟩ := bind_some' h; clear h; have h := h_; clear h_
    refine stepc ha 22 KR KR (headgateref15_num.calls K a0 7 2 t2425 _ ht2426) ?_; clear ha a; rintro e W2427 ⟨rfl, HX2428⟩
    refine ⟨_, rfl, ?_⟩; intro a ha; replace HW := HW.callw HX2428; clear HX2428
    refine stepp ha 23 (.pointer (some ⟨b2407, 5, none⟩)) KR KR ?_; clear ha a; intro a ha
    refine stepst ha HW 1 (b := b2407) (C := #[.int .i64 (IntKind.wrap .i64 ((IntKind.wrap .i64 (256 * (IntKind.wrap .i64 (bt a0 0)))) + (IntKind.wrap .i64 (Int.tmod (bt a0 1) 32)))), .int .i64 a1.f1, .int .i64 a1.f2, .bool a1.f3, .int .i64 a1.f4, .int .i64 a1.f5, .int .i64 a1.f6]) (T := 43) KR 3 5 (.tmp 23) (.tmp 22) (.int .i64 t2425) #[.int .i64 (IntKind.wrap .i64 ((IntKind.wrap .i64 (256 * (IntKind.wrap .i64 (bt a0 0)))) + (IntKind.wrap .i64 (Int.tmod (bt a0 1) 32)))), .int .i64 a1.f1, .int .i64 a1.f2, .bool a1.f3, .int .i64 a1.f4, .int .i64 t2425, .int .i64 a1.f6] rfl KR KR KR KR KR KR KR ?_; clear ha HW a; intro a W2429 HW ha
    refine endl ?_
    refine thenN (hK2424 _ _ ?_); clear hK2424
    refine wp_seq_k (fun K2430 hK2431 => ?_)
    refine wp_seq_k (fun K2432 hK2433 => ?_)
    refine wp_region_lit ?_
    refine stepp ha 24 (.int .i64 (IntKind.wrap .i64 (Int.tmod (bt a0 1) 32))) KR KR ?_; clear ha a; intro a ha
    refine stepp ha 25 (.bool (decide ((IntKind.wrap .i64 (Int.tmod (bt a0 1) 32)) > 1))) KR KR ?_; clear ha a; intro a ha
    refine endl ?_
    refine thenN (hK2433 _ _ ?_); clear hK2433
    by_cases hp2434 : (IntKind.wrap .i64 (Int.tmod (bt a0 1) 32)) > 1
    · skip
      replace h := ite_pos' h hp2434
      refine condT ha KR KR (t := decide ((IntKind.wrap .i64 (Int.tmod (bt a0 1) 32)) > 1)) (decide_eq_true hp2434) ?_
      refine wp_seq_k (fun K2435 hK2436 => ?_)
      refine wp_region_lit ?_
      refine stepp ha 26 (.agg #[.int .i64 0, .int .i64 0, .int .i64 0, .bool false, .int .i64 0, .int .i64 0, .int .i64 0]) KR KR ?_; clear ha a; intro a ha
      refine stepst ha HW 0 (b := b2409) (C := #[.int .i64 0, .int .i64 0, .int .i64 0, .bool false, .int .i64 0, .int .i64 0, .int .i64 0]) (T := 43) KR 43 0 (.tmp 4) (.tmp 26) (.agg #[.int .i64 0, .int .i64 0, .int .i64 0, .bool false, .int .i64 0, .int .i64 0, .int .i64 0]) #[.int .i64 0, .int .i64 0, .int .i64 0, .bool false, .int .i64 0, .int .i64 0, .int .i64 0] rfl KR KR KR KR KR KR KR ?_; clear ha HW a; intro a W2437 HW ha
      refine stepp ha 5 (.int .i64 150) KR KR ?_; clear ha a; intro a ha
      refine endl ?_
      refine thenN (hK2436 _ _ ?_); clear hK2436
      refine wp_ret ?_
      refine thenR ?_
      refine thenR ?_
      obtain rfl := Option.some.inj h
      exact finv ha _ _ rfl (.cell (ad := ⟨b2409, 0, none⟩) (v := .agg #[.int .i64 0, .int .i64 0, .int .i64 0, .bool false, .int .i64 0, .int .i64 0, .int .i64 0]) KR (run_loadVar_ca0 (HW.ca (i := 0) (b := b2409) (C := #[.int .i64 0, .int .i64 0, .int .i64 0, .bool false, .int .i64 0, .int .i64 0, .int .i64 0]) (T := 43) (fr := (0, 0)) KR) 43 0 (.agg #[.int .i64 0, .int .i64 0, .int .i64 0, .bool false, .int .i64 0, .int .i64 0, .int .i64 0]) KR) (.tmp (v := .int .i64 150) KR .nil)) (.tuple #[.agg #[.int .i64 0, .int .i64 0, .int .i64 0, .bool false, .int .i64 0, .int .i64 0, .int .i64 0], .int .i64 150]) rfl ⟨rfl, HW.pick [] [] (by decide) (by decide) rfl KR⟩
    · skip
      replace h := ite_neg' h hp2434
      refine condF ha KR KR (t := decide ((IntKind.wrap .i64 (Int.tmod (bt a0 1) 32)) > 1)) (decide_eq_false hp2434) ?_
      refine wp_skip ?_
      refine thenN (hK2431 _ _ ?_); clear hK2431
      refine wp_seq_k (fun K2438 hK2439 => ?_)
      refine wp_region_lit ?_
      refine stepl ha 27 (HW.ca (i := 1) (b := b2407) (C := #[.int .i64 (IntKind.wrap .i64 ((IntKind.wrap .i64 (256 * (IntKind.wrap .i64 (bt a0 0)))) + (IntKind.wrap .i64 (Int.tmod (bt a0 1) 32)))), .int .i64 a1.f1, .int .i64 a1.f2, .bool a1.f3, .int .i64 a1.f4, .int .i64 t2425, .int .i64 a1.f6]) (T := 43) (fr := (0, 0)) KR) 43 0 (.tmp 3) (.agg #[.int .i64 (IntKind.wrap .i64 ((IntKind.wrap .i64 (256 * (IntKind.wrap .i64 (bt a0 0)))) + (IntKind.wrap .i64 (Int.tmod (bt a0 1) 32)))), .int .i64 a1.f1, .int .i64 a1.f2, .bool a1.f3, .int .i64 a1.f4, .int .i64 t2425, .int .i64 a1.f6]) rfl KR KR KR ?_; clear ha a; intro a ha
      refine stepst ha HW 0 (b := b2409) (C := #[.int .i64 0, .int .i64 0, .int .i64 0, .bool false, .int .i64 0, .int .i64 0, .int .i64 0]) (T := 43) KR 43 0 (.tmp 4) (.tmp 27) (.agg #[.int .i64 (IntKind.wrap .i64 ((IntKind.wrap .i64 (256 * (IntKind.wrap .i64 (bt a0 0)))) + (IntKind.wrap .i64 (Int.tmod (bt a0 1) 32)))), .int .i64 a1.f1, .int .i64 a1.f2, .bool a1.f3, .int .i64 a1.f4, .int .i64 t2425, .int .i64 a1.f6]) #[.int .i64 (IntKind.wrap .i64 ((IntKind.wrap .i64 (256 * (IntKind.wrap .i64 (bt a0 0)))) + (IntKind.wrap .i64 (Int.tmod (bt a0 1) 32)))), .int .i64 a1.f1, .int .i64 a1.f2, .bool a1.f3, .int .i64 a1.f4, .int .i64 t2425, .int .i64 a1.f6] rfl KR KR KR KR KR KR KR ?_; clear ha HW a; intro a W2440 HW ha
      refine stepp ha 5 (.int .i64 0) KR KR ?_; clear ha a; intro a ha
      refine endl ?_
      refine thenN (hK2439 _ _ ?_); clear hK2439
      refine wp_ret ?_
      refine thenR ?_
      obtain rfl := Option.some.inj h
      exact finv ha _ _ rfl (.cell (ad := ⟨b2409, 0, none⟩) (v := .agg #[.int .i64 (IntKind.wrap .i64 ((IntKind.wrap .i64 (256 * (IntKind.wrap .i64 (bt a0 0)))) + (IntKind.wrap .i64 (Int.tmod (bt a0 1) 32)))), .int .i64 a1.f1, .int .i64 a1.f2, .bool a1.f3, .int .i64 a1.f4, .int .i64 t2425, .int .i64 a1.f6]) KR (run_loadVar_ca0 (HW.ca (i := 0) (b := b2409) (C := #[.int .i64 (IntKind.wrap .i64 ((IntKind.wrap .i64 (256 * (IntKind.wrap .i64 (bt a0 0)))) + (IntKind.wrap .i64 (Int.tmod (bt a0 1) 32)))), .int .i64 a1.f1, .int .i64 a1.f2, .bool a1.f3, .int .i64 a1.f4, .int .i64 t2425, .int .i64 a1.f6]) (T := 43) (fr := (0, 0)) KR) 43 0 (.agg #[.int .i64 (IntKind.wrap .i64 ((IntKind.wrap .i64 (256 * (IntKind.wrap .i64 (bt a0 0)))) + (IntKind.wrap .i64 (Int.tmod (bt a0 1) 32)))), .int .i64 a1.f1, .int .i64 a1.f2, .bool a1.f3, .int .i64 a1.f4, .int .i64 t2425, .int .i64 a1.f6]) KR) (.tmp (v := .int .i64 0) KR .nil)) (.tuple #[.agg #[.int .i64 (IntKind.wrap .i64 ((IntKind.wrap .i64 (256 * (IntKind.wrap .i64 (bt a0 0)))) + (IntKind.wrap .i64 (Int.tmod (bt a0 1) 32)))), .int .i64 a1.f1, .int .i64 a1.f2, .bool a1.f3, .int .i64 a1.f4, .int .i64 t2425, .int .i64 a1.f6], .int .i64 0]) rfl ⟨rfl, HW.pick [] [] (by decide) (by decide) rfl KR⟩
  · skip
    replace h := ite_neg' h hp2422
    refine condF ha KR KR (t := ((bt a0 0) == 94)) (ieq_f hp2422) ?_
    refine wp_skip ?_
    refine thenN (hK2419 _ _ ?_); clear hK2419
    refine wp_seq_k (fun K2441 hK2442 => ?_)
    refine wp_region_lit ?_
    refine stepp ha 28 (.string a0) KR KR ?_; clear ha a; intro a ha
    obtain ⟨t2443, ht2444, h_⟩ := bind_some' h; clear h; have h := h_; clear h_
    refine stepc ha 29 KR KR (headgateref15_num.calls K a0 5 4 t2443 _ ht2444) ?_; clear ha a; rintro e W2445 ⟨rfl, HX2446⟩
    refine ⟨_, rfl, ?_⟩; intro a ha; replace HW := HW.callw HX2446; clear HX2446
    refine stepp ha 30 (.pointer (some ⟨b2407, 5, none⟩)) KR KR ?_; clear ha a; intro a ha
    refine stepst ha HW 1 (b := b2407) (C := #[.int .i64 (IntKind.wrap .i64 ((IntKind.wrap .i64 (256 * (IntKind.wrap .i64 (bt a0 0)))) + (IntKind.wrap .i64 (Int.tmod (bt a0 1) 32)))), .int .i64 a1.f1, .int .i64 a1.f2, .bool a1.f3, .int .i64 a1.f4, .int .i64 a1.f5, .int .i64 a1.f6]) (T := 43) KR 3 5 (.tmp 30) (.tmp 29) (.int .i64 t2443) #[.int .i64 (IntKind.wrap .i64 ((IntKind.wrap .i64 (256 * (IntKind.wrap .i64 (bt a0 0)))) + (IntKind.wrap .i64 (Int.tmod (bt a0 1) 32)))), .int .i64 a1.f1, .int .i64 a1.f2, .bool a1.f3, .int .i64 a1.f4, .int .i64 t2443, .int .i64 a1.f6] rfl KR KR KR KR KR KR KR ?_; clear ha HW a; intro a W2447 HW ha
    refine endl ?_
    refine thenN (hK2442 _ _ ?_); clear hK2442
    refine wp_seq_k (fun K2448 hK2449 => ?_)
    refine wp_seq_k (fun K2450 hK2451 => ?_)
    refine wp_region_lit ?_
    refine stepp ha 31 (.pointer (some ⟨b2407, 5, none⟩)) KR KR ?_; clear ha a; intro a ha
    refine stepl ha 32 (HW.ca (i := 1) (b := b2407) (C := #[.int .i64 (IntKind.wrap .i64 ((IntKind.wrap .i64 (256 * (IntKind.wrap .i64 (bt a0 0)))) + (IntKind.wrap .i64 (Int.tmod (bt a0 1) 32)))), .int .i64 a1.f1, .int .i64 a1.f2, .bool a1.f3, .int .i64 a1.f4, .int .i64 t2443, .int .i64 a1.f6]) (T := 43) (fr := (0, 0)) KR) 3 5 (.tmp 31) (.int .i64 t2443) rfl KR KR KR ?_; clear ha a; intro a ha
    refine stepp ha 33 (.bool (t2443 != 24)) KR KR ?_; clear ha a; intro a ha
    refine stepp ha 34 (.bool (t2443 != 24)) KR KR ?_; clear ha a; intro a ha
    by_cases hp2452 : t2443 = 24
    · skip
      replace h := ite_pos' h hp2452
      replace ha := ha.bool 34 KR (ineq_f hp2452)
      refine stepp ha 35 (.string a0) KR KR ?_; clear ha a; intro a ha
      obtain ⟨hA2453, h_⟩ := asrt_some h; clear h; have h := h_; clear h_
      refine stepsi ha 36 9 (.tmp 35) (.const (.int .i64 2)) a0 .i64 2 rfl KR KR KR (by decide) (show (2 : Int) < ((a0).size : Int) from hA2453) KR ?_; clear ha a; intro a ha
      refine stepp ha 37 (.bool (decide ((bt a0 2) > 15))) KR KR ?_; clear ha a; intro a ha
      refine stepp ha 38 (.bool (decide ((bt a0 2) > 15))) KR KR ?_; clear ha a; intro a ha
      refine stepp ha 39 (.bool (decide ((bt a0 2) > 15))) KR KR ?_; clear ha a; intro a ha
      by_cases hp2454 : (bt a0 2) > 15
      · skip
        replace h := ite_pos' h hp2454
        replace ha := ha.bool 39 KR (decide_eq_true hp2454)
        refine stepo ha 40 KR ?_; clear ha a; intro a ha
        refine stepo ha 41 KR ?_; clear ha a; intro a ha
        refine stepp ha 42 (.bool true) KR KR ?_; clear ha a; intro a ha
        refine stepp ha 43 (.bool true) KR KR ?_; clear ha a; intro a ha
        refine stepo ha 44 KR ?_; clear ha a; intro a ha
        refine stepo ha 45 KR ?_; clear ha a; intro a ha
        refine stepp ha 46 (.bool true) KR KR ?_; clear ha a; intro a ha
        refine endl ?_
        refine thenN (hK2451 _ _ ?_); clear hK2451
        refine condT ha KR KR (t := true) (rfl) ?_
        refine wp_seq_k (fun K2456 hK2457 => ?_)
        refine wp_region_lit ?_
        refine stepp ha 47 (.agg #[.int .i64 0, .int .i64 0, .int .i64 0, .bool false, .int .i64 0, .int .i64 0, .int .i64 0]) KR KR ?_; clear ha a; intro a ha
        refine stepst ha HW 0 (b := b2409) (C := #[.int .i64 0, .int .i64 0, .int .i64 0, .bool false, .int .i64 0, .int .i64 0, .int .i64 0]) (T := 43) KR 43 0 (.tmp 4) (.tmp 47) (.agg #[.int .i64 0, .int .i64 0, .int .i64 0, .bool false, .int .i64 0, .int .i64 0, .int .i64 0]) #[.int .i64 0, .int .i64 0, .int .i64 0, .bool false, .int .i64 0, .int .i64 0, .int .i64 0] rfl KR KR KR KR KR KR KR ?_; clear ha HW a; intro a W2458 HW ha
        refine stepp ha 5 (.int .i64 150) KR KR ?_; clear ha a; intro a ha
        refine endl ?_
        refine thenN (hK2457 _ _ ?_); clear hK2457
        refine wp_ret ?_
        refine thenR ?_
        obtain rfl := Option.some.inj h
        exact finv ha _ _ rfl (.cell (ad := ⟨b2409, 0, none⟩) (v := .agg #[.int .i64 0, .int .i64 0, .int .i64 0, .bool false, .int .i64 0, .int .i64 0, .int .i64 0]) KR (run_loadVar_ca0 (HW.ca (i := 0) (b := b2409) (C := #[.int .i64 0, .int .i64 0, .int .i64 0, .bool false, .int .i64 0, .int .i64 0, .int .i64 0]) (T := 43) (fr := (0, 0)) KR) 43 0 (.agg #[.int .i64 0, .int .i64 0, .int .i64 0, .bool false, .int .i64 0, .int .i64 0, .int .i64 0]) KR) (.tmp (v := .int .i64 150) KR .nil)) (.tuple #[.agg #[.int .i64 0, .int .i64 0, .int .i64 0, .bool false, .int .i64 0, .int .i64 0, .int .i64 0], .int .i64 150]) rfl ⟨rfl, HW.pick [] [] (by decide) (by decide) rfl KR⟩
      · skip
        replace h := ite_neg' h hp2454
        replace ha := ha.bool 39 KR (decide_eq_false hp2454)
        refine stepp ha 40 (.int .i64 (IntKind.wrap .i64 (Int.tmod (bt a0 1) 32))) KR KR ?_; clear ha a; intro a ha
        refine stepp ha 41 (.bool (decide ((IntKind.wrap .i64 (Int.tmod (bt a0 1) 32)) > 6))) KR KR ?_; clear ha a; intro a ha
        refine stepp ha 42 (.bool (decide ((IntKind.wrap .i64 (Int.tmod (bt a0 1) 32)) > 6))) KR KR ?_; clear ha a; intro a ha
        refine stepp ha 43 (.bool (decide ((IntKind.wrap .i64 (Int.tmod (bt a0 1) 32)) > 6))) KR KR ?_; clear ha a; intro a ha
        by_cases hp2455 : (IntKind.wrap .i64 (Int.tmod (bt a0 1) 32)) > 6
        · skip
          replace h := ite_pos' h hp2455
          replace ha := ha.bool 43 KR (decide_eq_true hp2455)
          refine stepo ha 44 KR ?_; clear ha a; intro a ha
          refine stepo ha 45 KR ?_; clear ha a; intro a ha
          refine stepp ha 46 (.bool true) KR KR ?_; clear ha a; intro a ha
          refine endl ?_
          refine thenN (hK2451 _ _ ?_); clear hK2451
          refine condT ha KR KR (t := true) (rfl) ?_
          refine wp_seq_k (fun K2459 hK2460 => ?_)
          refine wp_region_lit ?_
          refine stepp ha 47 (.agg #[.int .i64 0, .int .i64 0, .int .i64 0, .bool false, .int .i64 0, .int .i64 0, .int .i64 0]) KR KR ?_; clear ha a; intro a ha
          refine stepst ha HW 0 (b := b2409) (C := #[.int .i64 0, .int .i64 0, .int .i64 0, .bool false, .int .i64 0, .int .i64 0, .int .i64 0]) (T := 43) KR 43 0 (.tmp 4) (.tmp 47) (.agg #[.int .i64 0, .int .i64 0, .int .i64 0, .bool false, .int .i64 0, .int .i64 0, .int .i64 0]) #[.int .i64 0, .int .i64 0, .int .i64 0, .bool false, .int .i64 0, .int .i64 0, .int .i64 0] rfl KR KR KR KR KR KR KR ?_; clear ha HW a; intro a W2461 HW ha
          refine stepp ha 5 (.int .i64 150) KR KR ?_; clear ha a; intro a ha
          refine endl ?_
          refine thenN (hK2460 _ _ ?_); clear hK2460
          refine wp_ret ?_
          refine thenR ?_
          obtain rfl := Option.some.inj h
          exact finv ha _ _ rfl (.cell (ad := ⟨b2409, 0, none⟩) (v := .agg #[.int .i64 0, .int .i64 0, .int .i64 0, .bool false, .int .i64 0, .int .i64 0, .int .i64 0]) KR (run_loadVar_ca0 (HW.ca (i := 0) (b := b2409) (C := #[.int .i64 0, .int .i64 0, .int .i64 0, .bool false, .int .i64 0, .int .i64 0, .int .i64 0]) (T := 43) (fr := (0, 0)) KR) 43 0 (.agg #[.int .i64 0, .int .i64 0, .int .i64 0, .bool false, .int .i64 0, .int .i64 0, .int .i64 0]) KR) (.tmp (v := .int .i64 150) KR .nil)) (.tuple #[.agg #[.int .i64 0, .int .i64 0, .int .i64 0, .bool false, .int .i64 0, .int .i64 0, .int .i64 0], .int .i64 150]) rfl ⟨rfl, HW.pick [] [] (by decide) (by decide) rfl KR⟩
        · skip
          replace h := ite_neg' h hp2455
          replace ha := ha.bool 43 KR (decide_eq_false hp2455)
          refine stepp ha 44 (.int .i64 (IntKind.wrap .i64 (Int.tmod (bt a0 1) 32))) KR KR ?_; clear ha a; intro a ha
          refine stepp ha 45 (.bool ((IntKind.wrap .i64 (Int.tmod (bt a0 1) 32)) == 5)) KR KR ?_; clear ha a; intro a ha
          refine stepp ha 46 (.bool ((IntKind.wrap .i64 (Int.tmod (bt a0 1) 32)) == 5)) KR KR ?_; clear ha a; intro a ha
          refine endl ?_
          refine thenN (hK2451 _ _ ?_); clear hK2451
          by_cases hp2462 : (IntKind.wrap .i64 (Int.tmod (bt a0 1) 32)) = 5
          · skip
            replace h := ite_pos' h hp2462
            refine condT ha KR KR (t := ((IntKind.wrap .i64 (Int.tmod (bt a0 1) 32)) == 5)) (ieq_t hp2462) ?_
            refine wp_seq_k (fun K2463 hK2464 => ?_)
            refine wp_region_lit ?_
            refine stepp ha 47 (.agg #[.int .i64 0, .int .i64 0, .int .i64 0, .bool false, .int .i64 0, .int .i64 0, .int .i64 0]) KR KR ?_; clear ha a; intro a ha
            refine stepst ha HW 0 (b := b2409) (C := #[.int .i64 0, .int .i64 0, .int .i64 0, .bool false, .int .i64 0, .int .i64 0, .int .i64 0]) (T := 43) KR 43 0 (.tmp 4) (.tmp 47) (.agg #[.int .i64 0, .int .i64 0, .int .i64 0, .bool false, .int .i64 0, .int .i64 0, .int .i64 0]) #[.int .i64 0, .int .i64 0, .int .i64 0, .bool false, .int .i64 0, .int .i64 0, .int .i64 0] rfl KR KR KR KR KR KR KR ?_; clear ha HW a; intro a W2465 HW ha
            refine stepp ha 5 (.int .i64 150) KR KR ?_; clear ha a; intro a ha
            refine endl ?_
            refine thenN (hK2464 _ _ ?_); clear hK2464
            refine wp_ret ?_
            refine thenR ?_
            obtain rfl := Option.some.inj h
            exact finv ha _ _ rfl (.cell (ad := ⟨b2409, 0, none⟩) (v := .agg #[.int .i64 0, .int .i64 0, .int .i64 0, .bool false, .int .i64 0, .int .i64 0, .int .i64 0]) KR (run_loadVar_ca0 (HW.ca (i := 0) (b := b2409) (C := #[.int .i64 0, .int .i64 0, .int .i64 0, .bool false, .int .i64 0, .int .i64 0, .int .i64 0]) (T := 43) (fr := (0, 0)) KR) 43 0 (.agg #[.int .i64 0, .int .i64 0, .int .i64 0, .bool false, .int .i64 0, .int .i64 0, .int .i64 0]) KR) (.tmp (v := .int .i64 150) KR .nil)) (.tuple #[.agg #[.int .i64 0, .int .i64 0, .int .i64 0, .bool false, .int .i64 0, .int .i64 0, .int .i64 0], .int .i64 150]) rfl ⟨rfl, HW.pick [] [] (by decide) (by decide) rfl KR⟩
          · skip
            replace h := ite_neg' h hp2462
            refine condF ha KR KR (t := ((IntKind.wrap .i64 (Int.tmod (bt a0 1) 32)) == 5)) (ieq_f hp2462) ?_
            refine wp_skip ?_
            refine thenN (hK2449 _ _ ?_); clear hK2449
            refine wp_seq_k (fun K2469 hK2470 => ?_)
            refine wp_seq_k (fun K2471 hK2472 => ?_)
            refine cutn (fun a W2476 => ∃ (x2475 : Bool), headgateref15_reservation.j0 K a0 a1 t2443 x2475 = some r ∧ Has 68 [(0, .string a0), (3, .pointer (some ⟨b2407, 0, none⟩)), (4, .pointer (some ⟨b2409, 0, none⟩)), (57, .bool x2475)] a ∧ Wd w W2476 [(b2407, .cells #[.int .i64 (IntKind.wrap .i64 ((IntKind.wrap .i64 (256 * (IntKind.wrap .i64 (bt a0 0)))) + (IntKind.wrap .i64 (Int.tmod (bt a0 1) 32)))), .int .i64 a1.f1, .int .i64 a1.f2, .bool a1.f3, .int .i64 a1.f4, .int .i64 t2443, .int .i64 a1.f6] 43 (0, 0)), (b2409, .cells #[.int .i64 0, .int .i64 0, .int .i64 0, .bool false, .int .i64 0, .int .i64 0, .int .i64 0] 43 (0, 0))] []) ?_ ?_
            · skip
              refine wp_region_lit ?_
              refine stepp ha 48 (.int .i64 (IntKind.wrap .i64 (Int.tmod (bt a0 1) 32))) KR KR ?_; clear ha a; intro a ha
              refine stepp ha 49 (.bool ((IntKind.wrap .i64 (Int.tmod (bt a0 1) 32)) == 1)) KR KR ?_; clear ha a; intro a ha
              refine stepp ha 50 (.bool ((IntKind.wrap .i64 (Int.tmod (bt a0 1) 32)) == 1)) KR KR ?_; clear ha a; intro a ha
              by_cases hp2473 : (IntKind.wrap .i64 (Int.tmod (bt a0 1) 32)) = 1
              · skip
                replace h := ite_pos' h hp2473
                replace ha := ha.bool 50 KR (ieq_t hp2473)
                refine stepo ha 51 KR ?_; clear ha a; intro a ha
                refine stepo ha 52 KR ?_; clear ha a; intro a ha
                refine stepp ha 53 (.bool true) KR KR ?_; clear ha a; intro a ha
                refine stepp ha 54 (.bool true) KR KR ?_; clear ha a; intro a ha
                refine stepo ha 55 KR ?_; clear ha a; intro a ha
                refine stepo ha 56 KR ?_; clear ha a; intro a ha
                refine stepp ha 57 (.bool true) KR KR ?_; clear ha a; intro a ha
                refine endl ?_
                exact thenN ⟨true, h, ha.sub (subs_cons KR (subs_cons KR (subs_cons KR (subs_cons KR (subs_nil _))))), HW.pick [1, 0] [] (by decide) (by decide) KR KR⟩
              · skip
                replace h := ite_neg' h hp2473
                replace ha := ha.bool 50 KR (ieq_f hp2473)
                refine stepp ha 51 (.int .i64 (IntKind.wrap .i64 (Int.tmod (bt a0 1) 32))) KR KR ?_; clear ha a; intro a ha
                refine stepp ha 52 (.bool ((IntKind.wrap .i64 (Int.tmod (bt a0 1) 32)) == 2)) KR KR ?_; clear ha a; intro a ha
                refine stepp ha 53 (.bool ((IntKind.wrap .i64 (Int.tmod (bt a0 1) 32)) == 2)) KR KR ?_; clear ha a; intro a ha
                refine stepp ha 54 (.bool ((IntKind.wrap .i64 (Int.tmod (bt a0 1) 32)) == 2)) KR KR ?_; clear ha a; intro a ha
                by_cases hp2474 : (IntKind.wrap .i64 (Int.tmod (bt a0 1) 32)) = 2
                · skip
                  replace h := ite_pos' h hp2474
                  replace ha := ha.bool 54 KR (ieq_t hp2474)
                  refine stepo ha 55 KR ?_; clear ha a; intro a ha
                  refine stepo ha 56 KR ?_; clear ha a; intro a ha
                  refine stepp ha 57 (.bool true) KR KR ?_; clear ha a; intro a ha
                  refine endl ?_
                  exact thenN ⟨true, h, ha.sub (subs_cons KR (subs_cons KR (subs_cons KR (subs_cons KR (subs_nil _))))), HW.pick [1, 0] [] (by decide) (by decide) KR KR⟩
                · skip
                  replace h := ite_neg' h hp2474
                  replace ha := ha.bool 54 KR (ieq_f hp2474)
                  refine stepp ha 55 (.int .i64 (IntKind.wrap .i64 (Int.tmod (bt a0 1) 32))) KR KR ?_; clear ha a; intro a ha
                  refine stepp ha 56 (.bool ((IntKind.wrap .i64 (Int.tmod (bt a0 1) 32)) == 4)) KR KR ?_; clear ha a; intro a ha
                  refine stepp ha 57 (.bool ((IntKind.wrap .i64 (Int.tmod (bt a0 1) 32)) == 4)) KR KR ?_; clear ha a; intro a ha
                  refine endl ?_
                  exact thenN ⟨((IntKind.wrap .i64 (Int.tmod (bt a0 1) 32)) == 4), h, ha.sub (subs_cons KR (subs_cons KR (subs_cons KR (subs_cons KR (subs_nil _))))), HW.pick [1, 0] [] (by decide) (by decide) KR KR⟩
            · skip
              intro a W2476 hJ
              obtain ⟨x2475, h, ha, HW⟩ := hJ
              replace h : headgateref15_reservation.j0 K a0 a1 t2443 x2475 = some r := h
              unfold headgateref15_reservation.j0 at h
              refine hK2472 _ _ ?_; clear hK2472
              by_cases hp2477 : x2475 = true
              · skip
                replace h := ite_pos' h hp2477
                refine condT ha KR KR (t := x2475) (hp2477) ?_
                refine wp_seq_k (fun K2478 hK2479 => ?_)
                refine wp_region_lit ?_
                refine stepp ha 58 (.string a0) KR KR ?_; clear ha a; intro a ha
                refine stepsi ha 59 9 (.tmp 58) (.const (.int .i64 2)) a0 .i64 2 rfl KR KR KR (by decide) (show (2 : Int) < ((a0).size : Int) from hA2453) KR ?_; clear ha a; intro a ha
                refine stepp ha 60 (.int .i64 (IntKind.wrap .i64 (bt a0 2))) KR KR ?_; clear ha a; intro a ha
                obtain ⟨t2480, ht2481, h_⟩ := bind_some' h; clear h; have h := h_; clear h_
                refine stepc ha 61 KR KR (headgateref15_Type.calls (IntKind.wrap .i64 (bt a0 2)) t2480 _ ht2481) ?_; clear ha a; rintro e W2482 ⟨rfl, HX2483⟩
                refine ⟨_, rfl, ?_⟩; intro a ha; replace HW := HW.callw HX2483; clear HX2483
                refine stepp ha 62 (.pointer (some ⟨b2407, 6, none⟩)) KR KR ?_; clear ha a; intro a ha
                refine stepst ha HW 0 (b := b2407) (C := #[.int .i64 (IntKind.wrap .i64 ((IntKind.wrap .i64 (256 * (IntKind.wrap .i64 (bt a0 0)))) + (IntKind.wrap .i64 (Int.tmod (bt a0 1) 32)))), .int .i64 a1.f1, .int .i64 a1.f2, .bool a1.f3, .int .i64 a1.f4, .int .i64 t2443, .int .i64 a1.f6]) (T := 43) KR 3 6 (.tmp 62) (.tmp 61) (.int .i64 t2480) #[.int .i64 (IntKind.wrap .i64 ((IntKind.wrap .i64 (256 * (IntKind.wrap .i64 (bt a0 0)))) + (IntKind.wrap .i64 (Int.tmod (bt a0 1) 32)))), .int .i64 a1.f1, .int .i64 a1.f2, .bool a1.f3, .int .i64 a1.f4, .int .i64 t2443, .int .i64 t2480] rfl KR KR KR KR KR KR KR ?_; clear ha HW a; intro a W2484 HW ha
                refine endl ?_
                refine thenN (hK2479 _ _ ?_); clear hK2479
                refine wp_seq_k (fun K2485 hK2486 => ?_)
                refine wp_region_lit ?_
                refine stepp ha 63 (.pointer (some ⟨b2407, 6, none⟩)) KR KR ?_; clear ha a; intro a ha
                refine stepl ha 64 (HW.ca (i := 0) (b := b2407) (C := #[.int .i64 (IntKind.wrap .i64 ((IntKind.wrap .i64 (256 * (IntKind.wrap .i64 (bt a0 0)))) + (IntKind.wrap .i64 (Int.tmod (bt a0 1) 32)))), .int .i64 a1.f1, .int .i64 a1.f2, .bool a1.f3, .int .i64 a1.f4, .int .i64 t2443, .int .i64 t2480]) (T := 43) (fr := (0, 0)) KR) 3 6 (.tmp 63) (.int .i64 t2480) rfl KR KR KR ?_; clear ha a; intro a ha
                refine stepp ha 65 (.bool (t2480 == 0)) KR KR ?_; clear ha a; intro a ha
                refine endl ?_
                refine thenN (hK2486 _ _ ?_); clear hK2486
                by_cases hp2487 : t2480 = 0
                · skip
                  replace h := ite_pos' h hp2487
                  refine condT ha KR KR (t := (t2480 == 0)) (ieq_t hp2487) ?_
                  refine wp_seq_k (fun K2488 hK2489 => ?_)
                  refine wp_region_lit ?_
                  refine stepp ha 66 (.agg #[.int .i64 0, .int .i64 0, .int .i64 0, .bool false, .int .i64 0, .int .i64 0, .int .i64 0]) KR KR ?_; clear ha a; intro a ha
                  refine stepst ha HW 1 (b := b2409) (C := #[.int .i64 0, .int .i64 0, .int .i64 0, .bool false, .int .i64 0, .int .i64 0, .int .i64 0]) (T := 43) KR 43 0 (.tmp 4) (.tmp 66) (.agg #[.int .i64 0, .int .i64 0, .int .i64 0, .bool false, .int .i64 0, .int .i64 0, .int .i64 0]) #[.int .i64 0, .int .i64 0, .int .i64 0, .bool false, .int .i64 0, .int .i64 0, .int .i64 0] rfl KR KR KR KR KR KR KR ?_; clear ha HW a; intro a W2490 HW ha
                  refine stepp ha 5 (.int .i64 150) KR KR ?_; clear ha a; intro a ha
                  refine endl ?_
                  refine thenN (hK2489 _ _ ?_); clear hK2489
                  refine wp_ret ?_
                  refine thenR ?_
                  obtain rfl := Option.some.inj h
                  exact finv ha _ _ rfl (.cell (ad := ⟨b2409, 0, none⟩) (v := .agg #[.int .i64 0, .int .i64 0, .int .i64 0, .bool false, .int .i64 0, .int .i64 0, .int .i64 0]) KR (run_loadVar_ca0 (HW.ca (i := 1) (b := b2409) (C := #[.int .i64 0, .int .i64 0, .int .i64 0, .bool false, .int .i64 0, .int .i64 0, .int .i64 0]) (T := 43) (fr := (0, 0)) KR) 43 0 (.agg #[.int .i64 0, .int .i64 0, .int .i64 0, .bool false, .int .i64 0, .int .i64 0, .int .i64 0]) KR) (.tmp (v := .int .i64 150) KR .nil)) (.tuple #[.agg #[.int .i64 0, .int .i64 0, .int .i64 0, .bool false, .int .i64 0, .int .i64 0, .int .i64 0], .int .i64 150]) rfl ⟨rfl, HW.pick [] [] (by decide) (by decide) rfl KR⟩
                · skip
                  replace h := ite_neg' h hp2487
                  refine condF ha KR KR (t := (t2480 == 0)) (ieq_f hp2487) ?_
                  refine wp_skip ?_
                  refine thenN (hK2470 _ _ ?_); clear hK2470
                  refine wp_seq_k (fun K2491 hK2492 => ?_)
                  refine wp_region_lit ?_
                  refine stepl ha 67 (HW.ca (i := 0) (b := b2407) (C := #[.int .i64 (IntKind.wrap .i64 ((IntKind.wrap .i64 (256 * (IntKind.wrap .i64 (bt a0 0)))) + (IntKind.wrap .i64 (Int.tmod (bt a0 1) 32)))), .int .i64 a1.f1, .int .i64 a1.f2, .bool a1.f3, .int .i64 a1.f4, .int .i64 t2443, .int .i64 t2480]) (T := 43) (fr := (0, 0)) KR) 43 0 (.tmp 3) (.agg #[.int .i64 (IntKind.wrap .i64 ((IntKind.wrap .i64 (256 * (IntKind.wrap .i64 (bt a0 0)))) + (IntKind.wrap .i64 (Int.tmod (bt a0 1) 32)))), .int .i64 a1.f1, .int .i64 a1.f2, .bool a1.f3, .int .i64 a1.f4, .int .i64 t2443, .int .i64 t2480]) rfl KR KR KR ?_; clear ha a; intro a ha
                  refine stepst ha HW 1 (b := b2409) (C := #[.int .i64 0, .int .i64 0, .int .i64 0, .bool false, .int .i64 0, .int .i64 0, .int .i64 0]) (T := 43) KR 43 0 (.tmp 4) (.tmp 67) (.agg #[.int .i64 (IntKind.wrap .i64 ((IntKind.wrap .i64 (256 * (IntKind.wrap .i64 (bt a0 0)))) + (IntKind.wrap .i64 (Int.tmod (bt a0 1) 32)))), .int .i64 a1.f1, .int .i64 a1.f2, .bool a1.f3, .int .i64 a1.f4, .int .i64 t2443, .int .i64 t2480]) #[.int .i64 (IntKind.wrap .i64 ((IntKind.wrap .i64 (256 * (IntKind.wrap .i64 (bt a0 0)))) + (IntKind.wrap .i64 (Int.tmod (bt a0 1) 32)))), .int .i64 a1.f1, .int .i64 a1.f2, .bool a1.f3, .int .i64 a1.f4, .int .i64 t2443, .int .i64 t2480] rfl KR KR KR KR KR KR KR ?_; clear ha HW a; intro a W2493 HW ha
                  refine stepp ha 5 (.int .i64 0) KR KR ?_; clear ha a; intro a ha
                  refine endl ?_
                  refine thenN (hK2492 _ _ ?_); clear hK2492
                  refine wp_ret ?_
                  obtain rfl := Option.some.inj h
                  exact finv ha _ _ rfl (.cell (ad := ⟨b2409, 0, none⟩) (v := .agg #[.int .i64 (IntKind.wrap .i64 ((IntKind.wrap .i64 (256 * (IntKind.wrap .i64 (bt a0 0)))) + (IntKind.wrap .i64 (Int.tmod (bt a0 1) 32)))), .int .i64 a1.f1, .int .i64 a1.f2, .bool a1.f3, .int .i64 a1.f4, .int .i64 t2443, .int .i64 t2480]) KR (run_loadVar_ca0 (HW.ca (i := 1) (b := b2409) (C := #[.int .i64 (IntKind.wrap .i64 ((IntKind.wrap .i64 (256 * (IntKind.wrap .i64 (bt a0 0)))) + (IntKind.wrap .i64 (Int.tmod (bt a0 1) 32)))), .int .i64 a1.f1, .int .i64 a1.f2, .bool a1.f3, .int .i64 a1.f4, .int .i64 t2443, .int .i64 t2480]) (T := 43) (fr := (0, 0)) KR) 43 0 (.agg #[.int .i64 (IntKind.wrap .i64 ((IntKind.wrap .i64 (256 * (IntKind.wrap .i64 (bt a0 0)))) + (IntKind.wrap .i64 (Int.tmod (bt a0 1) 32)))), .int .i64 a1.f1, .int .i64 a1.f2, .bool a1.f3, .int .i64 a1.f4, .int .i64 t2443, .int .i64 t2480]) KR) (.tmp (v := .int .i64 0) KR .nil)) (.tuple #[.agg #[.int .i64 (IntKind.wrap .i64 ((IntKind.wrap .i64 (256 * (IntKind.wrap .i64 (bt a0 0)))) + (IntKind.wrap .i64 (Int.tmod (bt a0 1) 32)))), .int .i64 a1.f1, .int .i64 a1.f2, .bool a1.f3, .int .i64 a1.f4, .int .i64 t2443, .int .i64 t2480], .int .i64 0]) rfl ⟨rfl, HW.pick [] [] (by decide) (by decide) rfl KR⟩
              · skip
                replace h := ite_neg' h hp2477
                refine condF ha KR KR (t := x2475) (bool_f hp2477) ?_
                refine wp_skip ?_
                refine thenN (hK2470 _ _ ?_); clear hK2470
                refine wp_seq_k (fun K2494 hK2495 => ?_)
                refine wp_region_lit ?_
                refine stepl ha 67 (HW.ca (i := 0) (b := b2407) (C := #[.int .i64 (IntKind.wrap .i64 ((IntKind.wrap .i64 (256 * (IntKind.wrap .i64 (bt a0 0)))) + (IntKind.wrap .i64 (Int.tmod (bt a0 1) 32)))), .int .i64 a1.f1, .int .i64 a1.f2, .bool a1.f3, .int .i64 a1.f4, .int .i64 t2443, .int .i64 a1.f6]) (T := 43) (fr := (0, 0)) KR) 43 0 (.tmp 3) (.agg #[.int .i64 (IntKind.wrap .i64 ((IntKind.wrap .i64 (256 * (IntKind.wrap .i64 (bt a0 0)))) + (IntKind.wrap .i64 (Int.tmod (bt a0 1) 32)))), .int .i64 a1.f1, .int .i64 a1.f2, .bool a1.f3, .int .i64 a1.f4, .int .i64 t2443, .int .i64 a1.f6]) rfl KR KR KR ?_; clear ha a; intro a ha
                refine stepst ha HW 1 (b := b2409) (C := #[.int .i64 0, .int .i64 0, .int .i64 0, .bool false, .int .i64 0, .int .i64 0, .int .i64 0]) (T := 43) KR 43 0 (.tmp 4) (.tmp 67) (.agg #[.int .i64 (IntKind.wrap .i64 ((IntKind.wrap .i64 (256 * (IntKind.wrap .i64 (bt a0 0)))) + (IntKind.wrap .i64 (Int.tmod (bt a0 1) 32)))), .int .i64 a1.f1, .int .i64 a1.f2, .bool a1.f3, .int .i64 a1.f4, .int .i64 t2443, .int .i64 a1.f6]) #[.int .i64 (IntKind.wrap .i64 ((IntKind.wrap .i64 (256 * (IntKind.wrap .i64 (bt a0 0)))) + (IntKind.wrap .i64 (Int.tmod (bt a0 1) 32)))), .int .i64 a1.f1, .int .i64 a1.f2, .bool a1.f3, .int .i64 a1.f4, .int .i64 t2443, .int .i64 a1.f6] rfl KR KR KR KR KR KR KR ?_; clear ha HW a; intro a W2496 HW ha
                refine stepp ha 5 (.int .i64 0) KR KR ?_; clear ha a; intro a ha
                refine endl ?_
                refine thenN (hK2495 _ _ ?_); clear hK2495
                refine wp_ret ?_
                obtain rfl := Option.some.inj h
                exact finv ha _ _ rfl (.cell (ad := ⟨b2409, 0, none⟩) (v := .agg #[.int .i64 (IntKind.wrap .i64 ((IntKind.wrap .i64 (256 * (IntKind.wrap .i64 (bt a0 0)))) + (IntKind.wrap .i64 (Int.tmod (bt a0 1) 32)))), .int .i64 a1.f1, .int .i64 a1.f2, .bool a1.f3, .int .i64 a1.f4, .int .i64 t2443, .int .i64 a1.f6]) KR (run_loadVar_ca0 (HW.ca (i := 1) (b := b2409) (C := #[.int .i64 (IntKind.wrap .i64 ((IntKind.wrap .i64 (256 * (IntKind.wrap .i64 (bt a0 0)))) + (IntKind.wrap .i64 (Int.tmod (bt a0 1) 32)))), .int .i64 a1.f1, .int .i64 a1.f2, .bool a1.f3, .int .i64 a1.f4, .int .i64 t2443, .int .i64 a1.f6]) (T := 43) (fr := (0, 0)) KR) 43 0 (.agg #[.int .i64 (IntKind.wrap .i64 ((IntKind.wrap .i64 (256 * (IntKind.wrap .i64 (bt a0 0)))) + (IntKind.wrap .i64 (Int.tmod (bt a0 1) 32)))), .int .i64 a1.f1, .int .i64 a1.f2, .bool a1.f3, .int .i64 a1.f4, .int .i64 t2443, .int .i64 a1.f6]) KR) (.tmp (v := .int .i64 0) KR .nil)) (.tuple #[.agg #[.int .i64 (IntKind.wrap .i64 ((IntKind.wrap .i64 (256 * (IntKind.wrap .i64 (bt a0 0)))) + (IntKind.wrap .i64 (Int.tmod (bt a0 1) 32)))), .int .i64 a1.f1, .int .i64 a1.f2, .bool a1.f3, .int .i64 a1.f4, .int .i64 t2443, .int .i64 a1.f6], .int .i64 0]) rfl ⟨rfl, HW.pick [] [] (by decide) (by decide) rfl KR⟩
    · skip
      replace h := ite_neg' h hp2452
      replace ha := ha.bool 34 KR (ineq_t hp2452)
      refine stepo ha 35 KR ?_; clear ha a; intro a ha
      refine stepo ha 36 KR ?_; clear ha a; intro a ha
      refine stepo ha 37 KR ?_; clear ha a; intro a ha
      refine stepp ha 38 (.bool true) KR KR ?_; clear ha a; intro a ha
      refine stepp ha 39 (.bool true) KR KR ?_; clear ha a; intro a ha
      refine stepo ha 40 KR ?_; clear ha a; intro a ha
      refine stepo ha 41 KR ?_; clear ha a; intro a ha
      refine stepp ha 42 (.bool true) KR KR ?_; clear ha a; intro a ha
      refine stepp ha 43 (.bool true) KR KR ?_; clear ha a; intro a ha
      refine stepo ha 44 KR ?_; clear ha a; intro a ha
      refine stepo ha 45 KR ?_; clear ha a; intro a ha
      refine stepp ha 46 (.bool true) KR KR ?_; clear ha a; intro a ha
      refine endl ?_
      refine thenN (hK2451 _ _ ?_); clear hK2451
      refine condT ha KR KR (t := true) (rfl) ?_
      refine wp_seq_k (fun K2466 hK2467 => ?_)
      refine wp_region_lit ?_
      refine stepp ha 47 (.agg #[.int .i64 0, .int .i64 0, .int .i64 0, .bool false, .int .i64 0, .int .i64 0, .int .i64 0]) KR KR ?_; clear ha a; intro a ha
      refine stepst ha HW 0 (b := b2409) (C := #[.int .i64 0, .int .i64 0, .int .i64 0, .bool false, .int .i64 0, .int .i64 0, .int .i64 0]) (T := 43) KR 43 0 (.tmp 4) (.tmp 47) (.agg #[.int .i64 0, .int .i64 0, .int .i64 0, .bool false, .int .i64 0, .int .i64 0, .int .i64 0]) #[.int .i64 0, .int .i64 0, .int .i64 0, .bool false, .int .i64 0, .int .i64 0, .int .i64 0] rfl KR KR KR KR KR KR KR ?_; clear ha HW a; intro a W2468 HW ha
      refine stepp ha 5 (.int .i64 150) KR KR ?_; clear ha a; intro a ha
      refine endl ?_
      refine thenN (hK2467 _ _ ?_); clear hK2467
      refine wp_ret ?_
      refine thenR ?_
      obtain rfl := Option.some.inj h
      exact finv ha _ _ rfl (.cell (ad := ⟨b2409, 0, none⟩) (v := .agg #[.int .i64 0, .int .i64 0, .int .i64 0, .bool false, .int .i64 0, .int .i64 0, .int .i64 0]) KR (run_loadVar_ca0 (HW.ca (i := 0) (b := b2409) (C := #[.int .i64 0, .int .i64 0, .int .i64 0, .bool false, .int .i64 0, .int .i64 0, .int .i64 0]) (T := 43) (fr := (0, 0)) KR) 43 0 (.agg #[.int .i64 0, .int .i64 0, .int .i64 0, .bool false, .int .i64 0, .int .i64 0, .int .i64 0]) KR) (.tmp (v := .int .i64 150) KR .nil)) (.tuple #[.agg #[.int .i64 0, .int .i64 0, .int .i64 0, .bool false, .int .i64 0, .int .i64 0, .int .i64 0], .int .i64 150]) rfl ⟨rfl, HW.pick [] [] (by decide) (by decide) rfl KR⟩
end Go.Proofs.YtpjcipadjegmlaaDoor.F
