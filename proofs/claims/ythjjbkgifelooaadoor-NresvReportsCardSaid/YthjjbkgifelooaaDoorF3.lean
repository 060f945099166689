/- headgate/headgatelaw27.NresvReports: plain functions, and that the calls come to what they say. No condition. -/
import Derived.Test.YthjjbkgifelooaaDoorFT
import Derived.Test.YthjjbkgifelooaaDoorF12
import Derived.Test.YthjjbkgifelooaaDoorF16
import Derived.Test.YthjjbkgifelooaaDoorF19
import Derived.Test.YthjjbkgifelooaaDoorF48
import Derived.Test.YthjjbkgifelooaaDoorF52
import Derived.Test.YthjjbkgifelooaaDoorF77
namespace Go.Proofs.YthjjbkgifelooaaDoor.F
open Go Go.RowKit Go.Proofs.YthjjbkgifelooaaDoor.X
set_option linter.unusedVariables false
set_option linter.unusedSimpArgs false
/-! ### headgate/headgatelaw27.NresvReports: function 3 -/
def headgatelaw27_NresvReports.j0 (K : Nat) (a0 : T_api_Table) (a1 : ByteArray) (x2261 : Bool) : Option Bool :=
  if x2261 = true then ((headgatelaw27_wakes.f K).bind fun t2266 => (some t2266)) else ((headgatekeep_CopyTable.f (⟨a0.f0, (⟨a0.f1.f0, a0.f1.f1⟩ : T_api_Hold), a0.f2, a0.f3⟩ : T_api_Table)).bind fun t2272 => ((nresv_Reported.f K a1).bind fun t2284 => ((headgateref27_Reported.f K a1).bind fun t2293 => ((nresv_Report.f K (⟨t2272.f0, (⟨t2272.f1.f0, t2272.f1.f1⟩ : T_api_Hold), t2272.f2, t2272.f3⟩ : T_api_Table)).bind fun t2305 => ((headgateref27_Report.f K (⟨a0.f0, (⟨a0.f1.f0, a0.f1.f1⟩ : T_api_Hold), a0.f2, a0.f3⟩ : T_api_Table)).bind fun t2309 => (if t2305 = t2309 then ((headgatekeep_Tables.f K (⟨t2272.f0, (⟨t2272.f1.f0, t2272.f1.f1⟩ : T_api_Hold), t2272.f2, t2272.f3⟩ : T_api_Table) (⟨a0.f0, (⟨a0.f1.f0, a0.f1.f1⟩ : T_api_Hold), a0.f2, a0.f3⟩ : T_api_Table)).bind fun t2314 => (if t2314 = true then (if t2284.1 = t2293.1.f0 then (if t2284.2.1 = t2293.1.f1 then ((headgatekeep_Regs.f K t2284.2.2.1 t2293.1.f2).bind fun t2321 => (if t2321 = true then (if t2284.2.2.2.1 = t2293.1.f3 then (if t2284.2.2.2.2 = t2293.2 then ((headgatelaw27_wakes.f K).bind fun t2328 => (some t2328)) else (some false)) else (some false)) else (some false))) else (some false)) else (some false)) else (some false))) else (some false)))))))
def headgatelaw27_NresvReports.f (K : Nat) (a0 : T_api_Table) (a1 : ByteArray) : Option Bool :=
  (headgatelaw10_Large.f K (⟨a0.f0, (⟨a0.f1.f0, a0.f1.f1⟩ : T_api_Hold), a0.f2, a0.f3⟩ : T_api_Table)).bind fun t2256 => (if t2256 = true then (headgatelaw27_NresvReports.j0 K a0 a1 true) else (headgatelaw27_NresvReports.j0 K a0 a1 (decide ((a1.size : Int) > 5000))))
set_option maxRecDepth 100000 in
set_option maxHeartbeats 4000000 in
theorem headgatelaw27_NresvReports.calls (K : Nat) (a0 : T_api_Table) (a1 : ByteArray) (A0_0 : Option Addr) (c0_0 : Nat) (r : Bool) (w : World) (hG0 : CA w 0 0 (encs (encI .i64) G_access_lets).toArray) (hG1 : CA w 1 0 (encs T_nresv_action.enc G_nresv_actions).toArray) (hG2 : CA w 2 0 (encs (encI .i64) G_nresv_aptpls).toArray) (hr0_0 : Rd 2 w (.slice A0_0 a0.f0.length c0_0) a0.f0.length (encs T_api_Reg.enc a0.f0)) (h : headgatelaw27_NresvReports.f K a0 a1 = some r) :
    Calls Tryd.prog 3 #[.agg #[.slice A0_0 a0.f0.length c0_0, .int .i64 a0.f1.f0, .string a0.f1.f1, .int .u32 a0.f2, .bool a0.f3], .string a1] w (fun e W' => e = .returned (.bool r) ∧ Wd w W' [] [] ) := by
  refine sxstart (n := 78) (l := [(0, .agg #[.slice A0_0 a0.f0.length c0_0, .int .i64 a0.f1.f0, .string a0.f1.f1, .int .u32 a0.f2, .bool a0.f3]), (1, .string a1)]) Tryd.func3 rfl rfl (Nat.le_of_ble_eq_true KR) (subsA_cons rfl (subsA_cons rfl (subsA_nil _))) ?_
  intro a ha
  have HW := Wd.refl w
  unfold headgatelaw27_NresvReports.f at h
  refine wp_seq_k (fun K2248 hK2249 => ?_)
  refine wp_region_lit ?_
  refine stepnew ha HW 2 #[.slice A0_0 a0.f0.length c0_0, .int .i64 a0.f1.f0, .string a0.f1.f1, .int .u32 a0.f2, .bool a0.f3] 27 KR KR ?_; clear ha HW a; intro b2250 a W2251 HW ha
  refine stepp ha 4 (.bool false) KR KR ?_; clear ha a; intro a ha
  refine endl ?_
  refine thenN (hK2249 _ _ ?_); clear hK2249
  refine wp_seq_k (fun K2252 hK2253 => ?_)
  refine wp_seq_k (fun K2254 hK2255 => ?_)
  refine cutn (fun a W2262 => ∃ (x2261 : Bool), headgatelaw27_NresvReports.j0 K a0 a1 x2261 = some r ∧ Has 78 [(1, .string a1), (2, .pointer (some ⟨b2250, 0, none⟩)), (19, .bool x2261)] a ∧ Wd w W2262 [(b2250, .cells #[.slice A0_0 a0.f0.length c0_0, .int .i64 a0.f1.f0, .string a0.f1.f1, .int .u32 a0.f2, .bool a0.f3] 27 (0, 0))] []) ?_ ?_
  · skip
    refine wp_region_lit ?_
    refine stepl ha 13 (HW.ca (i := 0) (b := b2250) (C := #[.slice A0_0 a0.f0.length c0_0, .int .i64 a0.f1.f0, .string a0.f1.f1, .int .u32 a0.f2, .bool a0.f3]) (T := 27) (fr := (0, 0)) KR) 27 0 (.tmp 2) (.agg #[.slice A0_0 a0.f0.length c0_0, .int .i64 a0.f1.f0, .string a0.f1.f1, .int .u32 a0.f2, .bool a0.f3]) rfl KR KR KR ?_; clear ha a; intro a ha
    obtain ⟨t2256, ht2257, h_⟩ := bind_some' h; clear h; have h := h_; clear h_
    refine stepc ha 14 KR KR (headgatelaw10_Large.calls K (⟨a0.f0, (⟨a0.f1.f0, a0.f1.f1⟩ : T_api_Hold), a0.f2, a0.f3⟩ : T_api_Table) A0_0 c0_0 t2256 _ ((HW.rd0 hr0_0)) ht2257) ?_; clear ha a; rintro e W2258 ⟨rfl, HX2259⟩
    refine ⟨_, rfl, ?_⟩; intro a ha; replace HW := HW.callw HX2259; clear HX2259
    refine stepp ha 15 (.bool t2256) KR KR ?_; clear ha a; intro a ha
    by_cases hp2260 : t2256 = true
    · skip
      replace h := ite_pos' h hp2260
      replace ha := ha.bool 15 KR (hp2260)
      refine stepo ha 16 KR ?_; clear ha a; intro a ha
      refine stepo ha 17 KR ?_; clear ha a; intro a ha
      refine stepo ha 18 KR ?_; clear ha a; intro a ha
      refine stepp ha 19 (.bool true) KR KR ?_; clear ha a; intro a ha
      refine endl ?_
      exact thenN ⟨true, h, ha.sub (subs_cons KR (subs_cons KR (subs_cons KR (subs_nil _)))), HW.pick [0] [] (by decide) (by decide) KR KR⟩
    · skip
      replace h := ite_neg' h hp2260
      replace ha := ha.bool 15 KR (bool_f hp2260)
      refine stepp ha 16 (.string a1) KR KR ?_; clear ha a; intro a ha
      refine stepp ha 17 (.int .i64 (a1.size : Int)) KR KR ?_; clear ha a; intro a ha
      refine stepp ha 18 (.bool (decide ((a1.size : Int) > 5000))) KR KR ?_; clear ha a; intro a ha
      refine stepp ha 19 (.bool (decide ((a1.size : Int) > 5000))) KR KR ?_; clear ha a; intro a ha
      refine endl ?_
      exact thenN ⟨decide ((a1.size : Int) > 5000), h, ha.sub (subs_cons KR (subs_cons KR (subs_cons KR (subs_nil _)))), HW.pick [0] [] (by decide) (by decide) KR KR⟩
  · skip
    intro a W2262 hJ
    obtain ⟨x2261, h, ha, HW⟩ := hJ
    replace h : headgatelaw27_NresvReports.j0 K a0 a1 x2261 = some r := h
    unfold headgatelaw27_NresvReports.j0 at h
    refine hK2255 _ _ ?_; clear hK2255
    by_cases hp2263 : x2261 = true
    · skip
      replace h := ite_pos' h hp2263
      refine condT ha KR KR (t := x2261) (hp2263) ?_
      refine wp_seq_k (fun K2264 hK2265 => ?_)
      refine wp_region_lit ?_
      obtain ⟨t2266, ht2267, h_⟩ := bind_some' h; clear h; have h := h_; clear h_
      refine stepc ha 20 KR KR (headgatelaw27_wakes.calls K t2266 _ (HW.ca0 hG0) (HW.ca0 hG1) (HW.ca0 hG2) ht2267) ?_; clear ha a; rintro e W2268 ⟨rfl, HX2269⟩
      refine ⟨_, rfl, ?_⟩; intro a ha; replace HW := HW.callw HX2269; clear HX2269
      refine stepp ha 4 (.bool t2266) KR KR ?_; clear ha a; intro a ha
      refine endl ?_
      refine thenN (hK2265 _ _ ?_); clear hK2265
      refine wp_ret ?_
      refine thenR ?_
      obtain rfl := Option.some.inj h
      exact finv ha _ _ rfl (.tmp (v := .bool t2266) KR .nil) (.bool t2266) rfl ⟨rfl, HW.pick [] [] (by decide) (by decide) rfl KR⟩
    · skip
      replace h := ite_neg' h hp2263
      refine condF ha KR KR (t := x2261) (bool_f hp2263) ?_
      refine wp_skip ?_
      refine thenN (hK2253 _ _ ?_); clear hK2253
      refine wp_seq_k (fun K2270 hK2271 => ?_)
      refine wp_region_lit ?_
      refine stepl ha 21 (HW.ca (i := 0) (b := b2250) (C := #[.slice A0_0 a0.f0.length c0_0, .int .i64 a0.f1.f0, .string a0.f1.f1, .int .u32 a0.f2, .bool a0.f3]) (T := 27) (fr := (0, 0)) KR) 27 0 (.tmp 2) (.agg #[.slice A0_0 a0.f0.length c0_0, .int .i64 a0.f1.f0, .string a0.f1.f1, .int .u32 a0.f2, .bool a0.f3]) rfl KR KR KR ?_; clear ha a; intro a ha
      obtain ⟨t2272, ht2273, h_⟩ := bind_some' h; clear h; have h := h_; clear h_
      refine stepc ha 22 KR KR (headgatekeep_CopyTable.calls (⟨a0.f0, (⟨a0.f1.f0, a0.f1.f1⟩ : T_api_Hold), a0.f2, a0.f3⟩ : T_api_Table) A0_0 c0_0 t2272 _ ((HW.rd0 hr0_0)) ht2273) ?_; clear ha a; rintro e W2277 ⟨A2274, c2275, rfl, HX2278⟩
      refine ⟨_, rfl, ?_⟩; intro a ha; replace HW := HW.callw HX2278; clear HX2278
      refine stepnew ha HW 5 #[.slice none 0 0, .int .i64 0, .string (⟨#[]⟩ : ByteArray), .int .u32 0, .bool false] 27 KR KR ?_; clear ha HW a; intro b2279 a W2280 HW ha
      refine stepst ha HW 0 (b := b2279) (C := #[.slice none 0 0, .int .i64 0, .string (⟨#[]⟩ : ByteArray), .int .u32 0, .bool false]) (T := 27) KR 27 0 (.tmp 5) (.tmp 22) (.agg #[.slice A2274 t2272.f0.length c2275, .int .i64 t2272.f1.f0, .string t2272.f1.f1, .int .u32 t2272.f2, .bool t2272.f3]) #[.slice A2274 t2272.f0.length c2275, .int .i64 t2272.f1.f0, .string t2272.f1.f1, .int .u32 t2272.f2, .bool t2272.f3] rfl KR KR KR KR KR KR KR ?_; clear ha HW a; intro a W2281 HW ha
      refine endl ?_
      refine thenN (hK2271 _ _ ?_); clear hK2271
      refine wp_seq_k (fun K2282 hK2283 => ?_)
      refine wp_region_lit ?_
      refine stepp ha 24 (.string a1) KR KR ?_; clear ha a; intro a ha
      obtain ⟨t2284, ht2285, h_⟩ := bind_some' h; clear h; have h := h_; clear h_
      refine stepc ha 25 KR KR (nresv_Reported.calls K a1 t2284 _ ht2285) ?_; clear ha a; rintro e W2289 ⟨A2286, c2287, rfl, HX2290⟩
      refine ⟨_, rfl, ?_⟩; intro a ha; replace HW := HW.callw HX2290; clear HX2290
      refine stepp ha 23 (.tuple #[.int .u32 t2284.1, .int .i64 t2284.2.1, .slice A2286 t2284.2.2.1.length c2287, .int .i64 t2284.2.2.2.1, .int .i64 t2284.2.2.2.2]) KR KR ?_; clear ha a; intro a ha
      refine stepp ha 26 (.int .u32 t2284.1) KR KR ?_; clear ha a; intro a ha
      refine stepp ha 27 (.int .i64 t2284.2.1) KR KR ?_; clear ha a; intro a ha
      refine stepp ha 28 (.slice A2286 t2284.2.2.1.length c2287) KR KR ?_; clear ha a; intro a ha
      refine stepp ha 29 (.int .i64 t2284.2.2.2.1) KR KR ?_; clear ha a; intro a ha
      refine stepp ha 30 (.int .i64 t2284.2.2.2.2) KR KR ?_; clear ha a; intro a ha
      refine stepp ha 6 (.int .u32 t2284.1) KR KR ?_; clear ha a; intro a ha
      refine stepp ha 7 (.int .i64 t2284.2.1) KR KR ?_; clear ha a; intro a ha
      refine stepp ha 8 (.slice A2286 t2284.2.2.1.length c2287) KR KR ?_; clear ha a; intro a ha
      refine stepp ha 9 (.int .i64 t2284.2.2.2.1) KR KR ?_; clear ha a; intro a ha
      refine stepp ha 10 (.int .i64 t2284.2.2.2.2) KR KR ?_; clear ha a; intro a ha
      refine endl ?_
      refine thenN (hK2283 _ _ ?_); clear hK2283
      refine wp_seq_k (fun K2291 hK2292 => ?_)
      refine wp_region_lit ?_
      refine stepp ha 32 (.string a1) KR KR ?_; clear ha a; intro a ha
      obtain ⟨t2293, ht2294, h_⟩ := bind_some' h; clear h; have h := h_; clear h_
      refine stepc ha 33 KR KR (headgateref27_Reported.calls K a1 t2293 _ ht2294) ?_; clear ha a; rintro e W2298 ⟨A2295, c2296, rfl, HX2299⟩
      refine ⟨_, rfl, ?_⟩; intro a ha; replace HW := HW.callw HX2299; clear HX2299
      refine stepp ha 31 (.tuple #[.agg #[.int .u32 t2293.1.f0, .int .i64 t2293.1.f1, .slice A2295 t2293.1.f2.length c2296, .int .i64 t2293.1.f3], .int .i64 t2293.2]) KR KR ?_; clear ha a; intro a ha
      refine stepp ha 34 (.agg #[.int .u32 t2293.1.f0, .int .i64 t2293.1.f1, .slice A2295 t2293.1.f2.length c2296, .int .i64 t2293.1.f3]) KR KR ?_; clear ha a; intro a ha
      refine stepp ha 35 (.int .i64 t2293.2) KR KR ?_; clear ha a; intro a ha
      refine stepnew ha HW 11 #[.int .u32 0, .int .i64 0, .slice none 0 0, .int .i64 0] 35 KR KR ?_; clear ha HW a; intro b2300 a W2301 HW ha
      refine stepst ha HW 0 (b := b2300) (C := #[.int .u32 0, .int .i64 0, .slice none 0 0, .int .i64 0]) (T := 35) KR 35 0 (.tmp 11) (.tmp 34) (.agg #[.int .u32 t2293.1.f0, .int .i64 t2293.1.f1, .slice A2295 t2293.1.f2.length c2296, .int .i64 t2293.1.f3]) #[.int .u32 t2293.1.f0, .int .i64 t2293.1.f1, .slice A2295 t2293.1.f2.length c2296, .int .i64 t2293.1.f3] rfl KR KR KR KR KR KR KR ?_; clear ha HW a; intro a W2302 HW ha
      refine stepp ha 12 (.int .i64 t2293.2) KR KR ?_; clear ha a; intro a ha
      refine endl ?_
      refine thenN (hK2292 _ _ ?_); clear hK2292
      refine wp_seq_k (fun K2303 hK2304 => ?_)
      obtain ⟨t2305, ht2306, h_⟩ := bind_some' h; clear h; have h := h_; clear h_
      obtain ⟨t2309, ht2310, h_⟩ := bind_some' h; clear h; have h := h_; clear h_
      by_cases hp2313 : t2305 = t2309
      · skip
        replace h := ite_pos' h hp2313
        obtain ⟨t2314, ht2315, h_⟩ := bind_some' h; clear h; have h := h_; clear h_
        by_cases hp2318 : t2314 = true
        · skip
          replace h := ite_pos' h hp2318
          by_cases hp2319 : t2284.1 = t2293.1.f0
          · skip
            replace h := ite_pos' h hp2319
            by_cases hp2320 : t2284.2.1 = t2293.1.f1
            · skip
              replace h := ite_pos' h hp2320
              obtain ⟨t2321, ht2322, h_⟩ := bind_some' h; clear h; have h := h_; clear h_
              by_cases hp2325 : t2321 = true
              · skip
                replace h := ite_pos' h hp2325
                by_cases hp2326 : t2284.2.2.2.1 = t2293.1.f3
                · skip
                  replace h := ite_pos' h hp2326
                  by_cases hp2327 : t2284.2.2.2.2 = t2293.2
                  · skip
                    replace h := ite_pos' h hp2327
                    obtain ⟨t2328, ht2329, h_⟩ := bind_some' h; clear h; have h := h_; clear h_
                    refine regionG 42 KR KR ha HW [.fix (.agg #[.slice A2274 t2272.f0.length c2275, .int .i64 t2272.f1.f0, .string t2272.f1.f1, .int .u32 t2272.f2, .bool t2272.f3]), .fix (.string t2305), .fix (.agg #[.slice A0_0 a0.f0.length c0_0, .int .i64 a0.f1.f0, .string a0.f1.f1, .int .u32 a0.f2, .bool a0.f3]), .fix (.string t2309), .fix (.bool (t2305.toList == t2309.toList)), .fix (.bool (t2305.toList == t2309.toList)), .fix (.agg #[.slice A2274 t2272.f0.length c2275, .int .i64 t2272.f1.f0, .string t2272.f1.f1, .int .u32 t2272.f2, .bool t2272.f3]), .fix (.agg #[.slice A0_0 a0.f0.length c0_0, .int .i64 a0.f1.f0, .string a0.f1.f1, .int .u32 a0.f2, .bool a0.f3]), .fix (.bool t2314), .fix (.bool t2314), .fix (.bool t2314), .fix (.int .u32 t2284.1), .fix (.pointer (some ⟨b2300, 0, none⟩)), .fix (.int .u32 t2293.1.f0), .fix (.bool (t2284.1 == t2293.1.f0)), .fix (.bool (t2284.1 == t2293.1.f0)), .fix (.bool (t2284.1 == t2293.1.f0)), .fix (.int .i64 t2284.2.1), .fix (.pointer (some ⟨b2300, 1, none⟩)), .fix (.int .i64 t2293.1.f1), .fix (.bool (t2284.2.1 == t2293.1.f1)), .fix (.bool (t2284.2.1 == t2293.1.f1)), .fix (.bool (t2284.2.1 == t2293.1.f1)), .fix (.slice A2286 t2284.2.2.1.length c2287), .fix (.pointer (some ⟨b2300, 2, none⟩)), .fix (.slice A2295 t2293.1.f2.length c2296), .fix (.bool t2321), .fix (.bool t2321), .fix (.bool t2321), .fix (.int .i64 t2284.2.2.2.1), .fix (.pointer (some ⟨b2300, 3, none⟩)), .fix (.int .i64 t2293.1.f3), .fix (.bool (t2284.2.2.2.1 == t2293.1.f3)), .fix (.bool (t2284.2.2.2.1 == t2293.1.f3)), .fix (.bool (t2284.2.2.2.1 == t2293.1.f3)), .fix (.int .i64 t2284.2.2.2.2), .fix (.int .i64 t2293.2), .fix (.bool (t2284.2.2.2.2 == t2293.2)), .fix (.bool (t2284.2.2.2.2 == t2293.2)), .fix (.bool (t2284.2.2.2.2 == t2293.2)), .fix (.bool t2328), .fix (.bool t2328)] ?_ ?_
                    · skip
                      refine ⟨?_, ?_, ?_, ?_, ?_, ?_, ?_, ?_, ?_, ?_, ?_, ?_, ?_, ?_, ?_, ?_, ?_, ?_, ?_, ?_, ?_, ?_, ?_, ?_, ?_, ?_, ?_, ?_, ?_, ?_, ?_, ?_, ?_, ?_, ?_, ?_, ?_, ?_, ?_, ?_, ?_, ?_, trivial⟩
                      · skip
                        intro a wr hn hd HW hs; have ha := hasNil hn hd
                        have ha := ha.add (seeE hs 5 (.pointer (some ⟨b2279, 0, none⟩)) KR KR)
                        refine yStep ha 36 KR ?_; intro l_ ha HK
                        refine stepl ha 36 (HW.ca (i := 1) (b := b2279) (C := #[.slice A2274 t2272.f0.length c2275, .int .i64 t2272.f1.f0, .string t2272.f1.f1, .int .u32 t2272.f2, .bool t2272.f3]) (T := 27) (fr := (0, 0)) KR) 27 0 (.tmp 5) (.agg #[.slice A2274 t2272.f0.length c2275, .int .i64 t2272.f1.f0, .string t2272.f1.f1, .int .u32 t2272.f2, .bool t2272.f3]) rfl KR KR KR ?_; intro ax hax; exact HK _ _ _ hax rfl (Below.refl _ _)
                      · skip
                        intro a wr hn hd HW hs; have ha := hasNil hn hd
                        have ha := ha.add (seeF hs 36 0 (.agg #[.slice A2274 t2272.f0.length c2275, .int .i64 t2272.f1.f0, .string t2272.f1.f1, .int .u32 t2272.f2, .bool t2272.f3]) KR KR)
                        refine yStep ha 37 KR ?_; intro l_ ha HK
                        refine stepc ha 37 KR KR (nresv_Report.calls K (⟨t2272.f0, (⟨t2272.f1.f0, t2272.f1.f1⟩ : T_api_Hold), t2272.f2, t2272.f3⟩ : T_api_Table) A2274 c2275 t2305 _ (HW.ca0 hG0) (HW.rdo (i := 2) (q := ⟨44, 2, .slice A2274 t2272.f0.length c2275, t2272.f0.length, encs T_api_Reg.enc t2272.f0⟩) KR) ht2306) ?_; rintro e W2307 ⟨rfl, HX2308⟩
                        refine ⟨_, rfl, ?_⟩; intro ax hax; exact HK _ _ _ hax rfl HX2308.below
                      · skip
                        intro a wr hn hd HW hs; have ha := hasNil hn hd
                        have ha := ha.add (seeE hs 2 (.pointer (some ⟨b2250, 0, none⟩)) KR KR)
                        refine yStep ha 38 KR ?_; intro l_ ha HK
                        refine stepl ha 38 (HW.ca (i := 2) (b := b2250) (C := #[.slice A0_0 a0.f0.length c0_0, .int .i64 a0.f1.f0, .string a0.f1.f1, .int .u32 a0.f2, .bool a0.f3]) (T := 27) (fr := (0, 0)) KR) 27 0 (.tmp 2) (.agg #[.slice A0_0 a0.f0.length c0_0, .int .i64 a0.f1.f0, .string a0.f1.f1, .int .u32 a0.f2, .bool a0.f3]) rfl KR KR KR ?_; intro ax hax; exact HK _ _ _ hax rfl (Below.refl _ _)
                      · skip
                        intro a wr hn hd HW hs; have ha := hasNil hn hd
                        have ha := ha.add (seeF hs 38 2 (.agg #[.slice A0_0 a0.f0.length c0_0, .int .i64 a0.f1.f0, .string a0.f1.f1, .int .u32 a0.f2, .bool a0.f3]) KR KR)
                        refine yStep ha 39 KR ?_; intro l_ ha HK
                        refine stepc ha 39 KR KR (headgateref27_Report.calls K (⟨a0.f0, (⟨a0.f1.f0, a0.f1.f1⟩ : T_api_Hold), a0.f2, a0.f3⟩ : T_api_Table) A0_0 c0_0 t2309 _ ((HW.rd0 hr0_0)) ht2310) ?_; rintro e W2311 ⟨rfl, HX2312⟩
                        refine ⟨_, rfl, ?_⟩; intro ax hax; exact HK _ _ _ hax rfl HX2312.below
                      · skip
                        intro a wr hn hd HW hs; have ha := hasNil hn hd
                        have ha := ha.add (seeF hs 37 1 (.string t2305) KR KR)
                        have ha := ha.add (seeF hs 39 3 (.string t2309) KR KR)
                        refine yStep ha 40 KR ?_; intro l_ ha HK
                        refine stepp ha 40 (.bool (t2305.toList == t2309.toList)) KR KR ?_; intro ax hax; exact HK _ _ _ hax rfl (Below.refl _ _)
                      · skip
                        intro a wr hn hd HW hs; have ha := hasNil hn hd
                        have ha := ha.add (seeF hs 40 4 (.bool (t2305.toList == t2309.toList)) KR KR)
                        refine yStep ha 41 KR ?_; intro l_ ha HK
                        refine stepp ha 41 (.bool (t2305.toList == t2309.toList)) KR KR ?_; intro ax hax; exact HK _ _ _ hax rfl (Below.refl _ _)
                      · skip
                        intro a wr hn hd HW hs; have ha := hasNil hn hd
                        have ha := ha.add (seeE hs 5 (.pointer (some ⟨b2279, 0, none⟩)) KR KR)
                        have ha := ha.add (seeF hs 41 5 (.bool (t2305.toList == t2309.toList)) KR KR)
                        have ha := ha.bool 41 KR (str_eq_t hp2313)
                        refine yStep ha 42 KR ?_; intro l_ ha HK
                        refine stepl ha 42 (HW.ca (i := 1) (b := b2279) (C := #[.slice A2274 t2272.f0.length c2275, .int .i64 t2272.f1.f0, .string t2272.f1.f1, .int .u32 t2272.f2, .bool t2272.f3]) (T := 27) (fr := (0, 0)) KR) 27 0 (.tmp 5) (.agg #[.slice A2274 t2272.f0.length c2275, .int .i64 t2272.f1.f0, .string t2272.f1.f1, .int .u32 t2272.f2, .bool t2272.f3]) rfl KR KR KR ?_; intro ax hax; exact HK _ _ _ hax rfl (Below.refl _ _)
                      · skip
                        intro a wr hn hd HW hs; have ha := hasNil hn hd
                        have ha := ha.add (seeE hs 2 (.pointer (some ⟨b2250, 0, none⟩)) KR KR)
                        have ha := ha.add (seeF hs 41 5 (.bool (t2305.toList == t2309.toList)) KR KR)
                        have ha := ha.bool 41 KR (str_eq_t hp2313)
                        refine yStep ha 43 KR ?_; intro l_ ha HK
                        refine stepl ha 43 (HW.ca (i := 2) (b := b2250) (C := #[.slice A0_0 a0.f0.length c0_0, .int .i64 a0.f1.f0, .string a0.f1.f1, .int .u32 a0.f2, .bool a0.f3]) (T := 27) (fr := (0, 0)) KR) 27 0 (.tmp 2) (.agg #[.slice A0_0 a0.f0.length c0_0, .int .i64 a0.f1.f0, .string a0.f1.f1, .int .u32 a0.f2, .bool a0.f3]) rfl KR KR KR ?_; intro ax hax; exact HK _ _ _ hax rfl (Below.refl _ _)
                      · skip
                        intro a wr hn hd HW hs; have ha := hasNil hn hd
                        have ha := ha.add (seeF hs 42 6 (.agg #[.slice A2274 t2272.f0.length c2275, .int .i64 t2272.f1.f0, .string t2272.f1.f1, .int .u32 t2272.f2, .bool t2272.f3]) KR KR)
                        have ha := ha.add (seeF hs 43 7 (.agg #[.slice A0_0 a0.f0.length c0_0, .int .i64 a0.f1.f0, .string a0.f1.f1, .int .u32 a0.f2, .bool a0.f3]) KR KR)
                        have ha := ha.add (seeF hs 41 5 (.bool (t2305.toList == t2309.toList)) KR KR)
                        have ha := ha.bool 41 KR (str_eq_t hp2313)
                        refine yStep ha 44 KR ?_; intro l_ ha HK
                        refine stepc ha 44 KR KR (headgatekeep_Tables.calls K (⟨t2272.f0, (⟨t2272.f1.f0, t2272.f1.f1⟩ : T_api_Hold), t2272.f2, t2272.f3⟩ : T_api_Table) (⟨a0.f0, (⟨a0.f1.f0, a0.f1.f1⟩ : T_api_Hold), a0.f2, a0.f3⟩ : T_api_Table) A2274 c2275 A0_0 c0_0 t2314 _ (HW.rdo (i := 2) (q := ⟨44, 2, .slice A2274 t2272.f0.length c2275, t2272.f0.length, encs T_api_Reg.enc t2272.f0⟩) KR) ((HW.rd0 hr0_0)) ht2315) ?_; rintro e W2316 ⟨rfl, HX2317⟩
                        refine ⟨_, rfl, ?_⟩; intro ax hax; exact HK _ _ _ hax rfl HX2317.below
                      · skip
                        intro a wr hn hd HW hs; have ha := hasNil hn hd
                        have ha := ha.add (seeF hs 41 5 (.bool (t2305.toList == t2309.toList)) KR KR)
                        have ha := ha.bool 41 KR (str_eq_t hp2313)
                        have ha := ha.add (seeF hs 44 8 (.bool t2314) KR KR)
                        refine yStep ha 45 KR ?_; intro l_ ha HK
                        refine stepp ha 45 (.bool t2314) KR KR ?_; intro ax hax; exact HK _ _ _ hax rfl (Below.refl _ _)
                      · skip
                        intro a wr hn hd HW hs; have ha := hasNil hn hd
                        have ha := ha.add (seeF hs 45 9 (.bool t2314) KR KR)
                        refine yStep ha 46 KR ?_; intro l_ ha HK
                        refine stepp ha 46 (.bool t2314) KR KR ?_; intro ax hax; exact HK _ _ _ hax rfl (Below.refl _ _)
                      · skip
                        intro a wr hn hd HW hs; have ha := hasNil hn hd
                        have ha := ha.add (seeE hs 6 (.int .u32 t2284.1) KR KR)
                        have ha := ha.add (seeF hs 46 10 (.bool t2314) KR KR)
                        have ha := ha.bool 46 KR (hp2318)
                        refine yStep ha 47 KR ?_; intro l_ ha HK
                        refine stepp ha 47 (.int .u32 t2284.1) KR KR ?_; intro ax hax; exact HK _ _ _ hax rfl (Below.refl _ _)
                      · skip
                        intro a wr hn hd HW hs; have ha := hasNil hn hd
                        have ha := ha.add (seeE hs 11 (.pointer (some ⟨b2300, 0, none⟩)) KR KR)
                        have ha := ha.add (seeF hs 46 10 (.bool t2314) KR KR)
                        have ha := ha.bool 46 KR (hp2318)
                        refine yStep ha 48 KR ?_; intro l_ ha HK
                        refine stepp ha 48 (.pointer (some ⟨b2300, 0, none⟩)) KR KR ?_; intro ax hax; exact HK _ _ _ hax rfl (Below.refl _ _)
                      · skip
                        intro a wr hn hd HW hs; have ha := hasNil hn hd
                        have ha := ha.add (seeF hs 48 12 (.pointer (some ⟨b2300, 0, none⟩)) KR KR)
                        have ha := ha.add (seeF hs 46 10 (.bool t2314) KR KR)
                        have ha := ha.bool 46 KR (hp2318)
                        refine yStep ha 49 KR ?_; intro l_ ha HK
                        refine stepl ha 49 (HW.ca (i := 0) (b := b2300) (C := #[.int .u32 t2293.1.f0, .int .i64 t2293.1.f1, .slice A2295 t2293.1.f2.length c2296, .int .i64 t2293.1.f3]) (T := 35) (fr := (0, 0)) KR) 25 0 (.tmp 48) (.int .u32 t2293.1.f0) rfl KR KR KR ?_; intro ax hax; exact HK _ _ _ hax rfl (Below.refl _ _)
                      · skip
                        intro a wr hn hd HW hs; have ha := hasNil hn hd
                        have ha := ha.add (seeF hs 47 11 (.int .u32 t2284.1) KR KR)
                        have ha := ha.add (seeF hs 49 13 (.int .u32 t2293.1.f0) KR KR)
                        have ha := ha.add (seeF hs 46 10 (.bool t2314) KR KR)
                        have ha := ha.bool 46 KR (hp2318)
                        refine yStep ha 50 KR ?_; intro l_ ha HK
                        refine stepp ha 50 (.bool (t2284.1 == t2293.1.f0)) KR KR ?_; intro ax hax; exact HK _ _ _ hax rfl (Below.refl _ _)
                      · skip
                        intro a wr hn hd HW hs; have ha := hasNil hn hd
                        have ha := ha.add (seeF hs 46 10 (.bool t2314) KR KR)
                        have ha := ha.bool 46 KR (hp2318)
                        have ha := ha.add (seeF hs 50 14 (.bool (t2284.1 == t2293.1.f0)) KR KR)
                        refine yStep ha 51 KR ?_; intro l_ ha HK
                        refine stepp ha 51 (.bool (t2284.1 == t2293.1.f0)) KR KR ?_; intro ax hax; exact HK _ _ _ hax rfl (Below.refl _ _)
                      · skip
                        intro a wr hn hd HW hs; have ha := hasNil hn hd
                        have ha := ha.add (seeF hs 51 15 (.bool (t2284.1 == t2293.1.f0)) KR KR)
                        refine yStep ha 52 KR ?_; intro l_ ha HK
                        refine stepp ha 52 (.bool (t2284.1 == t2293.1.f0)) KR KR ?_; intro ax hax; exact HK _ _ _ hax rfl (Below.refl _ _)
                      · skip
                        intro a wr hn hd HW hs; have ha := hasNil hn hd
                        have ha := ha.add (seeE hs 7 (.int .i64 t2284.2.1) KR KR)
                        have ha := ha.add (seeF hs 52 16 (.bool (t2284.1 == t2293.1.f0)) KR KR)
                        have ha := ha.bool 52 KR (ieq_t hp2319)
                        refine yStep ha 53 KR ?_; intro l_ ha HK
                        refine stepp ha 53 (.int .i64 t2284.2.1) KR KR ?_; intro ax hax; exact HK _ _ _ hax rfl (Below.refl _ _)
                      · skip
                        intro a wr hn hd HW hs; have ha := hasNil hn hd
                        have ha := ha.add (seeE hs 11 (.pointer (some ⟨b2300, 0, none⟩)) KR KR)
                        have ha := ha.add (seeF hs 52 16 (.bool (t2284.1 == t2293.1.f0)) KR KR)
                        have ha := ha.bool 52 KR (ieq_t hp2319)
                        refine yStep ha 54 KR ?_; intro l_ ha HK
                        refine stepp ha 54 (.pointer (some ⟨b2300, 1, none⟩)) KR KR ?_; intro ax hax; exact HK _ _ _ hax rfl (Below.refl _ _)
                      · skip
                        intro a wr hn hd HW hs; have ha := hasNil hn hd
                        have ha := ha.add (seeF hs 54 18 (.pointer (some ⟨b2300, 1, none⟩)) KR KR)
                        have ha := ha.add (seeF hs 52 16 (.bool (t2284.1 == t2293.1.f0)) KR KR)
                        have ha := ha.bool 52 KR (ieq_t hp2319)
                        refine yStep ha 55 KR ?_; intro l_ ha HK
                        refine stepl ha 55 (HW.ca (i := 0) (b := b2300) (C := #[.int .u32 t2293.1.f0, .int .i64 t2293.1.f1, .slice A2295 t2293.1.f2.length c2296, .int .i64 t2293.1.f3]) (T := 35) (fr := (0, 0)) KR) 3 1 (.tmp 54) (.int .i64 t2293.1.f1) rfl KR KR KR ?_; intro ax hax; exact HK _ _ _ hax rfl (Below.refl _ _)
                      · skip
                        intro a wr hn hd HW hs; have ha := hasNil hn hd
                        have ha := ha.add (seeF hs 53 17 (.int .i64 t2284.2.1) KR KR)
                        have ha := ha.add (seeF hs 55 19 (.int .i64 t2293.1.f1) KR KR)
                        have ha := ha.add (seeF hs 52 16 (.bool (t2284.1 == t2293.1.f0)) KR KR)
                        have ha := ha.bool 52 KR (ieq_t hp2319)
                        refine yStep ha 56 KR ?_; intro l_ ha HK
                        refine stepp ha 56 (.bool (t2284.2.1 == t2293.1.f1)) KR KR ?_; intro ax hax; exact HK _ _ _ hax rfl (Below.refl _ _)
                      · skip
                        intro a wr hn hd HW hs; have ha := hasNil hn hd
                        have ha := ha.add (seeF hs 52 16 (.bool (t2284.1 == t2293.1.f0)) KR KR)
                        have ha := ha.bool 52 KR (ieq_t hp2319)
                        have ha := ha.add (seeF hs 56 20 (.bool (t2284.2.1 == t2293.1.f1)) KR KR)
                        refine yStep ha 57 KR ?_; intro l_ ha HK
                        refine stepp ha 57 (.bool (t2284.2.1 == t2293.1.f1)) KR KR ?_; intro ax hax; exact HK _ _ _ hax rfl (Below.refl _ _)
                      · skip
                        intro a wr hn hd HW hs; have ha := hasNil hn hd
                        have ha := ha.add (seeF hs 57 21 (.bool (t2284.2.1 == t2293.1.f1)) KR KR)
                        refine yStep ha 58 KR ?_; intro l_ ha HK
                        refine stepp ha 58 (.bool (t2284.2.1 == t2293.1.f1)) KR KR ?_; intro ax hax; exact HK _ _ _ hax rfl (Below.refl _ _)
                      · skip
                        intro a wr hn hd HW hs; have ha := hasNil hn hd
                        have ha := ha.add (seeE hs 8 (.slice A2286 t2284.2.2.1.length c2287) KR KR)
                        have ha := ha.add (seeF hs 58 22 (.bool (t2284.2.1 == t2293.1.f1)) KR KR)
                        have ha := ha.bool 58 KR (ieq_t hp2320)
                        refine yStep ha 59 KR ?_; intro l_ ha HK
                        refine stepp ha 59 (.slice A2286 t2284.2.2.1.length c2287) KR KR ?_; intro ax hax; exact HK _ _ _ hax rfl (Below.refl _ _)
                      · skip
                        intro a wr hn hd HW hs; have ha := hasNil hn hd
                        have ha := ha.add (seeE hs 11 (.pointer (some ⟨b2300, 0, none⟩)) KR KR)
                        have ha := ha.add (seeF hs 58 22 (.bool (t2284.2.1 == t2293.1.f1)) KR KR)
                        have ha := ha.bool 58 KR (ieq_t hp2320)
                        refine yStep ha 60 KR ?_; intro l_ ha HK
                        refine stepp ha 60 (.pointer (some ⟨b2300, 2, none⟩)) KR KR ?_; intro ax hax; exact HK _ _ _ hax rfl (Below.refl _ _)
                      · skip
                        intro a wr hn hd HW hs; have ha := hasNil hn hd
                        have ha := ha.add (seeF hs 60 24 (.pointer (some ⟨b2300, 2, none⟩)) KR KR)
                        have ha := ha.add (seeF hs 58 22 (.bool (t2284.2.1 == t2293.1.f1)) KR KR)
                        have ha := ha.bool 58 KR (ieq_t hp2320)
                        refine yStep ha 61 KR ?_; intro l_ ha HK
                        refine stepl ha 61 (HW.ca (i := 0) (b := b2300) (C := #[.int .u32 t2293.1.f0, .int .i64 t2293.1.f1, .slice A2295 t2293.1.f2.length c2296, .int .i64 t2293.1.f3]) (T := 35) (fr := (0, 0)) KR) 22 2 (.tmp 60) (.slice A2295 t2293.1.f2.length c2296) rfl KR KR KR ?_; intro ax hax; exact HK _ _ _ hax rfl (Below.refl _ _)
                      · skip
                        intro a wr hn hd HW hs; have ha := hasNil hn hd
                        have ha := ha.add (seeF hs 59 23 (.slice A2286 t2284.2.2.1.length c2287) KR KR)
                        have ha := ha.add (seeF hs 61 25 (.slice A2295 t2293.1.f2.length c2296) KR KR)
                        have ha := ha.add (seeF hs 58 22 (.bool (t2284.2.1 == t2293.1.f1)) KR KR)
                        have ha := ha.bool 58 KR (ieq_t hp2320)
                        refine yStep ha 62 KR ?_; intro l_ ha HK
                        refine stepc ha 62 KR KR (headgatekeep_Regs.calls K t2284.2.2.1 t2293.1.f2 A2286 c2287 A2295 c2296 t2321 _ (HW.rdo (i := 1) (q := ⟨44, 2, .slice A2286 t2284.2.2.1.length c2287, t2284.2.2.1.length, encs T_api_Reg.enc t2284.2.2.1⟩) KR) (HW.rdo (i := 0) (q := ⟨44, 2, .slice A2295 t2293.1.f2.length c2296, t2293.1.f2.length, encs T_api_Reg.enc t2293.1.f2⟩) KR) ht2322) ?_; rintro e W2323 ⟨rfl, HX2324⟩
                        refine ⟨_, rfl, ?_⟩; intro ax hax; exact HK _ _ _ hax rfl HX2324.below
                      · skip
                        intro a wr hn hd HW hs; have ha := hasNil hn hd
                        have ha := ha.add (seeF hs 58 22 (.bool (t2284.2.1 == t2293.1.f1)) KR KR)
                        have ha := ha.bool 58 KR (ieq_t hp2320)
                        have ha := ha.add (seeF hs 62 26 (.bool t2321) KR KR)
                        refine yStep ha 63 KR ?_; intro l_ ha HK
                        refine stepp ha 63 (.bool t2321) KR KR ?_; intro ax hax; exact HK _ _ _ hax rfl (Below.refl _ _)
                      · skip
                        intro a wr hn hd HW hs; have ha := hasNil hn hd
                        have ha := ha.add (seeF hs 63 27 (.bool t2321) KR KR)
                        refine yStep ha 64 KR ?_; intro l_ ha HK
                        refine stepp ha 64 (.bool t2321) KR KR ?_; intro ax hax; exact HK _ _ _ hax rfl (Below.refl _ _)
                      · skip
                        intro a wr hn hd HW hs; have ha := hasNil hn hd
                        have ha := ha.add (seeE hs 9 (.int .i64 t2284.2.2.2.1) KR KR)
                        have ha := ha.add (seeF hs 64 28 (.bool t2321) KR KR)
                        have ha := ha.bool 64 KR (hp2325)
                        refine yStep ha 65 KR ?_; intro l_ ha HK
                        refine stepp ha 65 (.int .i64 t2284.2.2.2.1) KR KR ?_; intro ax hax; exact HK _ _ _ hax rfl (Below.refl _ _)
                      · skip
                        intro a wr hn hd HW hs; have ha := hasNil hn hd
                        have ha := ha.add (seeE hs 11 (.pointer (some ⟨b2300, 0, none⟩)) KR KR)
                        have ha := ha.add (seeF hs 64 28 (.bool t2321) KR KR)
                        have ha := ha.bool 64 KR (hp2325)
                        refine yStep ha 66 KR ?_; intro l_ ha HK
                        refine stepp ha 66 (.pointer (some ⟨b2300, 3, none⟩)) KR KR ?_; intro ax hax; exact HK _ _ _ hax rfl (Below.refl _ _)
                      · skip
                        intro a wr hn hd HW hs; have ha := hasNil hn hd
                        have ha := ha.add (seeF hs 66 30 (.pointer (some ⟨b2300, 3, none⟩)) KR KR)
                        have ha := ha.add (seeF hs 64 28 (.bool t2321) KR KR)
                        have ha := ha.bool 64 KR (hp2325)
                        refine yStep ha 67 KR ?_; intro l_ ha HK
                        refine stepl ha 67 (HW.ca (i := 0) (b := b2300) (C := #[.int .u32 t2293.1.f0, .int .i64 t2293.1.f1, .slice A2295 t2293.1.f2.length c2296, .int .i64 t2293.1.f3]) (T := 35) (fr := (0, 0)) KR) 3 3 (.tmp 66) (.int .i64 t2293.1.f3) rfl KR KR KR ?_; intro ax hax; exact HK _ _ _ hax rfl (Below.refl _ _)
                      · skip
                        intro a wr hn hd HW hs; have ha := hasNil hn hd
                        have ha := ha.add (seeF hs 65 29 (.int .i64 t2284.2.2.2.1) KR KR)
                        have ha := ha.add (seeF hs 67 31 (.int .i64 t2293.1.f3) KR KR)
                        have ha := ha.add (seeF hs 64 28 (.bool t2321) KR KR)
                        have ha := ha.bool 64 KR (hp2325)
                        refine yStep ha 68 KR ?_; intro l_ ha HK
                        refine stepp ha 68 (.bool (t2284.2.2.2.1 == t2293.1.f3)) KR KR ?_; intro ax hax; exact HK _ _ _ hax rfl (Below.refl _ _)
                      · skip
                        intro a wr hn hd HW hs; have ha := hasNil hn hd
                        have ha := ha.add (seeF hs 64 28 (.bool t2321) KR KR)
                        have ha := ha.bool 64 KR (hp2325)
                        have ha := ha.add (seeF hs 68 32 (.bool (t2284.2.2.2.1 == t2293.1.f3)) KR KR)
                        refine yStep ha 69 KR ?_; intro l_ ha HK
                        refine stepp ha 69 (.bool (t2284.2.2.2.1 == t2293.1.f3)) KR KR ?_; intro ax hax; exact HK _ _ _ hax rfl (Below.refl _ _)
                      · skip
                        intro a wr hn hd HW hs; have ha := hasNil hn hd
                        have ha := ha.add (seeF hs 69 33 (.bool (t2284.2.2.2.1 == t2293.1.f3)) KR KR)
                        refine yStep ha 70 KR ?_; intro l_ ha HK
                        refine stepp ha 70 (.bool (t2284.2.2.2.1 == t2293.1.f3)) KR KR ?_; intro ax hax; exact HK _ _ _ hax rfl (Below.refl _ _)
                      · skip
                        intro a wr hn hd HW hs; have ha := hasNil hn hd
                        have ha := ha.add (seeE hs 10 (.int .i64 t2284.2.2.2.2) KR KR)
                        have ha := ha.add (seeF hs 70 34 (.bool (t2284.2.2.2.1 == t2293.1.f3)) KR KR)
                        have ha := ha.bool 70 KR (ieq_t hp2326)
                        refine yStep ha 71 KR ?_; intro l_ ha HK
                        refine stepp ha 71 (.int .i64 t2284.2.2.2.2) KR KR ?_; intro ax hax; exact HK _ _ _ hax rfl (Below.refl _ _)
                      · skip
                        intro a wr hn hd HW hs; have ha := hasNil hn hd
                        have ha := ha.add (seeE hs 12 (.int .i64 t2293.2) KR KR)
                        have ha := ha.add (seeF hs 70 34 (.bool (t2284.2.2.2.1 == t2293.1.f3)) KR KR)
                        have ha := ha.bool 70 KR (ieq_t hp2326)
                        refine yStep ha 72 KR ?_; intro l_ ha HK
                        refine stepp ha 72 (.int .i64 t2293.2) KR KR ?_; intro ax hax; exact HK _ _ _ hax rfl (Below.refl _ _)
                      · skip
                        intro a wr hn hd HW hs; have ha := hasNil hn hd
                        have ha := ha.add (seeF hs 71 35 (.int .i64 t2284.2.2.2.2) KR KR)
                        have ha := ha.add (seeF hs 72 36 (.int .i64 t2293.2) KR KR)
                        have ha := ha.add (seeF hs 70 34 (.bool (t2284.2.2.2.1 == t2293.1.f3)) KR KR)
                        have ha := ha.bool 70 KR (ieq_t hp2326)
                        refine yStep ha 73 KR ?_; intro l_ ha HK
                        refine stepp ha 73 (.bool (t2284.2.2.2.2 == t2293.2)) KR KR ?_; intro ax hax; exact HK _ _ _ hax rfl (Below.refl _ _)
                      · skip
                        intro a wr hn hd HW hs; have ha := hasNil hn hd
                        have ha := ha.add (seeF hs 70 34 (.bool (t2284.2.2.2.1 == t2293.1.f3)) KR KR)
                        have ha := ha.bool 70 KR (ieq_t hp2326)
                        have ha := ha.add (seeF hs 73 37 (.bool (t2284.2.2.2.2 == t2293.2)) KR KR)
                        refine yStep ha 74 KR ?_; intro l_ ha HK
                        refine stepp ha 74 (.bool (t2284.2.2.2.2 == t2293.2)) KR KR ?_; intro ax hax; exact HK _ _ _ hax rfl (Below.refl _ _)
                      · skip
                        intro a wr hn hd HW hs; have ha := hasNil hn hd
                        have ha := ha.add (seeF hs 74 38 (.bool (t2284.2.2.2.2 == t2293.2)) KR KR)
                        refine yStep ha 75 KR ?_; intro l_ ha HK
                        refine stepp ha 75 (.bool (t2284.2.2.2.2 == t2293.2)) KR KR ?_; intro ax hax; exact HK _ _ _ hax rfl (Below.refl _ _)
                      · skip
                        intro a wr hn hd HW hs; have ha := hasNil hn hd
                        have ha := ha.add (seeF hs 75 39 (.bool (t2284.2.2.2.2 == t2293.2)) KR KR)
                        have ha := ha.bool 75 KR (ieq_t hp2327)
                        refine yStep ha 76 KR ?_; intro l_ ha HK
                        refine stepc ha 76 KR KR (headgatelaw27_wakes.calls K t2328 _ (HW.ca0 hG0) (HW.ca0 hG1) (HW.ca0 hG2) ht2329) ?_; rintro e W2330 ⟨rfl, HX2331⟩
                        refine ⟨_, rfl, ?_⟩; intro ax hax; exact HK _ _ _ hax rfl HX2331.below
                      · skip
                        intro a wr hn hd HW hs; have ha := hasNil hn hd
                        have ha := ha.add (seeF hs 75 39 (.bool (t2284.2.2.2.2 == t2293.2)) KR KR)
                        have ha := ha.bool 75 KR (ieq_t hp2327)
                        have ha := ha.add (seeF hs 76 40 (.bool t2328) KR KR)
                        refine yStep ha 77 KR ?_; intro l_ ha HK
                        refine stepp ha 77 (.bool t2328) KR KR ?_; intro ax hax; exact HK _ _ _ hax rfl (Below.refl _ _)
                    · skip
                      intro a W2332 ha HW he hf
                      replace ha := ha.add (gotF (m := 42) (j := 41) (d := 77) (v := .bool t2328) hf KR KR KR)
                      clear he hf
                      refine stepp ha 4 (.bool t2328) KR KR ?_; clear ha a; intro a ha
                      refine endl ?_
                      refine thenN (hK2304 _ _ ?_); clear hK2304
                      refine wp_ret ?_
                      obtain rfl := Option.some.inj h
                      exact finv ha _ _ rfl (.tmp (v := .bool t2328) KR .nil) (.bool t2328) rfl ⟨rfl, HW.pick [] [] (by decide) (by decide) rfl KR⟩
                  · skip
                    replace h := ite_neg' h hp2327
                    refine regionG 42 KR KR ha HW [.fix (.agg #[.slice A2274 t2272.f0.length c2275, .int .i64 t2272.f1.f0, .string t2272.f1.f1, .int .u32 t2272.f2, .bool t2272.f3]), .fix (.string t2305), .fix (.agg #[.slice A0_0 a0.f0.length c0_0, .int .i64 a0.f1.f0, .string a0.f1.f1, .int .u32 a0.f2, .bool a0.f3]), .fix (.string t2309), .fix (.bool (t2305.toList == t2309.toList)), .fix (.bool (t2305.toList == t2309.toList)), .fix (.agg #[.slice A2274 t2272.f0.length c2275, .int .i64 t2272.f1.f0, .string t2272.f1.f1, .int .u32 t2272.f2, .bool t2272.f3]), .fix (.agg #[.slice A0_0 a0.f0.length c0_0, .int .i64 a0.f1.f0, .string a0.f1.f1, .int .u32 a0.f2, .bool a0.f3]), .fix (.bool t2314), .fix (.bool t2314), .fix (.bool t2314), .fix (.int .u32 t2284.1), .fix (.pointer (some ⟨b2300, 0, none⟩)), .fix (.int .u32 t2293.1.f0), .fix (.bool (t2284.1 == t2293.1.f0)), .fix (.bool (t2284.1 == t2293.1.f0)), .fix (.bool (t2284.1 == t2293.1.f0)), .fix (.int .i64 t2284.2.1), .fix (.pointer (some ⟨b2300, 1, none⟩)), .fix (.int .i64 t2293.1.f1), .fix (.bool (t2284.2.1 == t2293.1.f1)), .fix (.bool (t2284.2.1 == t2293.1.f1)), .fix (.bool (t2284.2.1 == t2293.1.f1)), .fix (.slice A2286 t2284.2.2.1.length c2287), .fix (.pointer (some ⟨b2300, 2, none⟩)), .fix (.slice A2295 t2293.1.f2.length c2296), .fix (.bool t2321), .fix (.bool t2321), .fix (.bool t2321), .fix (.int .i64 t2284.2.2.2.1), .fix (.pointer (some ⟨b2300, 3, none⟩)), .fix (.int .i64 t2293.1.f3), .fix (.bool (t2284.2.2.2.1 == t2293.1.f3)), .fix (.bool (t2284.2.2.2.1 == t2293.1.f3)), .fix (.bool (t2284.2.2.2.1 == t2293.1.f3)), .fix (.int .i64 t2284.2.2.2.2), .fix (.int .i64 t2293.2), .fix (.bool (t2284.2.2.2.2 == t2293.2)), .fix (.bool (t2284.2.2.2.2 == t2293.2)), .fix (.bool (t2284.2.2.2.2 == t2293.2)), .fix undef, .fix (.bool false)] ?_ ?_
                    · skip
                      refine ⟨?_, ?_, ?_, ?_, ?_, ?_, ?_, ?_, ?_, ?_, ?_, ?_, ?_, ?_, ?_, ?_, ?_, ?_, ?_, ?_, ?_, ?_, ?_, ?_, ?_, ?_, ?_, ?_, ?_, ?_, ?_, ?_, ?_, ?_, ?_, ?_, ?_, ?_, ?_, ?_, ?_, ?_, trivial⟩
                      · skip
                        intro a wr hn hd HW hs; have ha := hasNil hn hd
                        have ha := ha.add (seeE hs 5 (.pointer (some ⟨b2279, 0, none⟩)) KR KR)
                        refine yStep ha 36 KR ?_; intro l_ ha HK
                        refine stepl ha 36 (HW.ca (i := 1) (b := b2279) (C := #[.slice A2274 t2272.f0.length c2275, .int .i64 t2272.f1.f0, .string t2272.f1.f1, .int .u32 t2272.f2, .bool t2272.f3]) (T := 27) (fr := (0, 0)) KR) 27 0 (.tmp 5) (.agg #[.slice A2274 t2272.f0.length c2275, .int .i64 t2272.f1.f0, .string t2272.f1.f1, .int .u32 t2272.f2, .bool t2272.f3]) rfl KR KR KR ?_; intro ax hax; exact HK _ _ _ hax rfl (Below.refl _ _)
                      · skip
                        intro a wr hn hd HW hs; have ha := hasNil hn hd
                        have ha := ha.add (seeF hs 36 0 (.agg #[.slice A2274 t2272.f0.length c2275, .int .i64 t2272.f1.f0, .string t2272.f1.f1, .int .u32 t2272.f2, .bool t2272.f3]) KR KR)
                        refine yStep ha 37 KR ?_; intro l_ ha HK
                        refine stepc ha 37 KR KR (nresv_Report.calls K (⟨t2272.f0, (⟨t2272.f1.f0, t2272.f1.f1⟩ : T_api_Hold), t2272.f2, t2272.f3⟩ : T_api_Table) A2274 c2275 t2305 _ (HW.ca0 hG0) (HW.rdo (i := 2) (q := ⟨44, 2, .slice A2274 t2272.f0.length c2275, t2272.f0.length, encs T_api_Reg.enc t2272.f0⟩) KR) ht2306) ?_; rintro e W2307 ⟨rfl, HX2308⟩
                        refine ⟨_, rfl, ?_⟩; intro ax hax; exact HK _ _ _ hax rfl HX2308.below
                      · skip
                        intro a wr hn hd HW hs; have ha := hasNil hn hd
                        have ha := ha.add (seeE hs 2 (.pointer (some ⟨b2250, 0, none⟩)) KR KR)
                        refine yStep ha 38 KR ?_; intro l_ ha HK
                        refine stepl ha 38 (HW.ca (i := 2) (b := b2250) (C := #[.slice A0_0 a0.f0.length c0_0, .int .i64 a0.f1.f0, .string a0.f1.f1, .int .u32 a0.f2, .bool a0.f3]) (T := 27) (fr := (0, 0)) KR) 27 0 (.tmp 2) (.agg #[.slice A0_0 a0.f0.length c0_0, .int .i64 a0.f1.f0, .string a0.f1.f1, .int .u32 a0.f2, .bool a0.f3]) rfl KR KR KR ?_; intro ax hax; exact HK _ _ _ hax rfl (Below.refl _ _)
                      · skip
                        intro a wr hn hd HW hs; have ha := hasNil hn hd
                        have ha := ha.add (seeF hs 38 2 (.agg #[.slice A0_0 a0.f0.length c0_0, .int .i64 a0.f1.f0, .string a0.f1.f1, .int .u32 a0.f2, .bool a0.f3]) KR KR)
                        refine yStep ha 39 KR ?_; intro l_ ha HK
                        refine stepc ha 39 KR KR (headgateref27_Report.calls K (⟨a0.f0, (⟨a0.f1.f0, a0.f1.f1⟩ : T_api_Hold), a0.f2, a0.f3⟩ : T_api_Table) A0_0 c0_0 t2309 _ ((HW.rd0 hr0_0)) ht2310) ?_; rintro e W2311 ⟨rfl, HX2312⟩
                        refine ⟨_, rfl, ?_⟩; intro ax hax; exact HK _ _ _ hax rfl HX2312.below
                      · skip
                        intro a wr hn hd HW hs; have ha := hasNil hn hd
                        have ha := ha.add (seeF hs 37 1 (.string t2305) KR KR)
                        have ha := ha.add (seeF hs 39 3 (.string t2309) KR KR)
                        refine yStep ha 40 KR ?_; intro l_ ha HK
                        refine stepp ha 40 (.bool (t2305.toList == t2309.toList)) KR KR ?_; intro ax hax; exact HK _ _ _ hax rfl (Below.refl _ _)
                      · skip
                        intro a wr hn hd HW hs; have ha := hasNil hn hd
                        have ha := ha.add (seeF hs 40 4 (.bool (t2305.toList == t2309.toList)) KR KR)
                        refine yStep ha 41 KR ?_; intro l_ ha HK
                        refine stepp ha 41 (.bool (t2305.toList == t2309.toList)) KR KR ?_; intro ax hax; exact HK _ _ _ hax rfl (Below.refl _ _)
                      · skip
                        intro a wr hn hd HW hs; have ha := hasNil hn hd
                        have ha := ha.add (seeE hs 5 (.pointer (some ⟨b2279, 0, none⟩)) KR KR)
                        have ha := ha.add (seeF hs 41 5 (.bool (t2305.toList == t2309.toList)) KR KR)
                        have ha := ha.bool 41 KR (str_eq_t hp2313)
                        refine yStep ha 42 KR ?_; intro l_ ha HK
                        refine stepl ha 42 (HW.ca (i := 1) (b := b2279) (C := #[.slice A2274 t2272.f0.length c2275, .int .i64 t2272.f1.f0, .string t2272.f1.f1, .int .u32 t2272.f2, .bool t2272.f3]) (T := 27) (fr := (0, 0)) KR) 27 0 (.tmp 5) (.agg #[.slice A2274 t2272.f0.length c2275, .int .i64 t2272.f1.f0, .string t2272.f1.f1, .int .u32 t2272.f2, .bool t2272.f3]) rfl KR KR KR ?_; intro ax hax; exact HK _ _ _ hax rfl (Below.refl _ _)
                      · skip
                        intro a wr hn hd HW hs; have ha := hasNil hn hd
                        have ha := ha.add (seeE hs 2 (.pointer (some ⟨b2250, 0, none⟩)) KR KR)
                        have ha := ha.add (seeF hs 41 5 (.bool (t2305.toList == t2309.toList)) KR KR)
                        have ha := ha.bool 41 KR (str_eq_t hp2313)
                        refine yStep ha 43 KR ?_; intro l_ ha HK
                        refine stepl ha 43 (HW.ca (i := 2) (b := b2250) (C := #[.slice A0_0 a0.f0.length c0_0, .int .i64 a0.f1.f0, .string a0.f1.f1, .int .u32 a0.f2, .bool a0.f3]) (T := 27) (fr := (0, 0)) KR) 27 0 (.tmp 2) (.agg #[.slice A0_0 a0.f0.length c0_0, .int .i64 a0.f1.f0, .string a0.f1.f1, .int .u32 a0.f2, .bool a0.f3]) rfl KR KR KR ?_; intro ax hax; exact HK _ _ _ hax rfl (Below.refl _ _)
                      · skip
                        intro a wr hn hd HW hs; have ha := hasNil hn hd
                        have ha := ha.add (seeF hs 42 6 (.agg #[.slice A2274 t2272.f0.length c2275, .int .i64 t2272.f1.f0, .string t2272.f1.f1, .int .u32 t2272.f2, .bool t2272.f3]) KR KR)
                        have ha := ha.add (seeF hs 43 7 (.agg #[.slice A0_0 a0.f0.length c0_0, .int .i64 a0.f1.f0, .string a0.f1.f1, .int .u32 a0.f2, .bool a0.f3]) KR KR)
                        have ha := ha.add (seeF hs 41 5 (.bool (t2305.toList == t2309.toList)) KR KR)
                        have ha := ha.bool 41 KR (str_eq_t hp2313)
                        refine yStep ha 44 KR ?_; intro l_ ha HK
                        refine stepc ha 44 KR KR (headgatekeep_Tables.calls K (⟨t2272.f0, (⟨t2272.f1.f0, t2272.f1.f1⟩ : T_api_Hold), t2272.f2, t2272.f3⟩ : T_api_Table) (⟨a0.f0, (⟨a0.f1.f0, a0.f1.f1⟩ : T_api_Hold), a0.f2, a0.f3⟩ : T_api_Table) A2274 c2275 A0_0 c0_0 t2314 _ (HW.rdo (i := 2) (q := ⟨44, 2, .slice A2274 t2272.f0.length c2275, t2272.f0.length, encs T_api_Reg.enc t2272.f0⟩) KR) ((HW.rd0 hr0_0)) ht2315) ?_; rintro e W2316 ⟨rfl, HX2317⟩
                        refine ⟨_, rfl, ?_⟩; intro ax hax; exact HK _ _ _ hax rfl HX2317.below
                      · skip
                        intro a wr hn hd HW hs; have ha := hasNil hn hd
                        have ha := ha.add (seeF hs 41 5 (.bool (t2305.toList == t2309.toList)) KR KR)
                        have ha := ha.bool 41 KR (str_eq_t hp2313)
                        have ha := ha.add (seeF hs 44 8 (.bool t2314) KR KR)
                        refine yStep ha 45 KR ?_; intro l_ ha HK
                        refine stepp ha 45 (.bool t2314) KR KR ?_; intro ax hax; exact HK _ _ _ hax rfl (Below.refl _ _)
                      · skip
                        intro a wr hn hd HW hs; have ha := hasNil hn hd
                        have ha := ha.add (seeF hs 45 9 (.bool t2314) KR KR)
                        refine yStep ha 46 KR ?_; intro l_ ha HK
                        refine stepp ha 46 (.bool t2314) KR KR ?_; intro ax hax; exact HK _ _ _ hax rfl (Below.refl _ _)
                      · skip
                        intro a wr hn hd HW hs; have ha := hasNil hn hd
                        have ha := ha.add (seeE hs 6 (.int .u32 t2284.1) KR KR)
                        have ha := ha.add (seeF hs 46 10 (.bool t2314) KR KR)
                        have ha := ha.bool 46 KR (hp2318)
                        refine yStep ha 47 KR ?_; intro l_ ha HK
                        refine stepp ha 47 (.int .u32 t2284.1) KR KR ?_; intro ax hax; exact HK _ _ _ hax rfl (Below.refl _ _)
                      · skip
                        intro a wr hn hd HW hs; have ha := hasNil hn hd
                        have ha := ha.add (seeE hs 11 (.pointer (some ⟨b2300, 0, none⟩)) KR KR)
                        have ha := ha.add (seeF hs 46 10 (.bool t2314) KR KR)
                        have ha := ha.bool 46 KR (hp2318)
                        refine yStep ha 48 KR ?_; intro l_ ha HK
                        refine stepp ha 48 (.pointer (some ⟨b2300, 0, none⟩)) KR KR ?_; intro ax hax; exact HK _ _ _ hax rfl (Below.refl _ _)
                      · skip
                        intro a wr hn hd HW hs; have ha := hasNil hn hd
                        have ha := ha.add (seeF hs 48 12 (.pointer (some ⟨b2300, 0, none⟩)) KR KR)
                        have ha := ha.add (seeF hs 46 10 (.bool t2314) KR KR)
                        have ha := ha.bool 46 KR (hp2318)
                        refine yStep ha 49 KR ?_; intro l_ ha HK
                        refine stepl ha 49 (HW.ca (i := 0) (b := b2300) (C := #[.int .u32 t2293.1.f0, .int .i64 t2293.1.f1, .slice A2295 t2293.1.f2.length c2296, .int .i64 t2293.1.f3]) (T := 35) (fr := (0, 0)) KR) 25 0 (.tmp 48) (.int .u32 t2293.1.f0) rfl KR KR KR ?_; intro ax hax; exact HK _ _ _ hax rfl (Below.refl _ _)
                      · skip
                        intro a wr hn hd HW hs; have ha := hasNil hn hd
                        have ha := ha.add (seeF hs 47 11 (.int .u32 t2284.1) KR KR)
                        have ha := ha.add (seeF hs 49 13 (.int .u32 t2293.1.f0) KR KR)
                        have ha := ha.add (seeF hs 46 10 (.bool t2314) KR KR)
                        have ha := ha.bool 46 KR (hp2318)
                        refine yStep ha 50 KR ?_; intro l_ ha HK
                        refine stepp ha 50 (.bool (t2284.1 == t2293.1.f0)) KR KR ?_; intro ax hax; exact HK _ _ _ hax rfl (Below.refl _ _)
                      · skip
                        intro a wr hn hd HW hs; have ha := hasNil hn hd
                        have ha := ha.add (seeF hs 46 10 (.bool t2314) KR KR)
                        have ha := ha.bool 46 KR (hp2318)
                        have ha := ha.add (seeF hs 50 14 (.bool (t2284.1 == t2293.1.f0)) KR KR)
                        refine yStep ha 51 KR ?_; intro l_ ha HK
                        refine stepp ha 51 (.bool (t2284.1 == t2293.1.f0)) KR KR ?_; intro ax hax; exact HK _ _ _ hax rfl (Below.refl _ _)
                      · skip
                        intro a wr hn hd HW hs; have ha := hasNil hn hd
                        have ha := ha.add (seeF hs 51 15 (.bool (t2284.1 == t2293.1.f0)) KR KR)
                        refine yStep ha 52 KR ?_; intro l_ ha HK
                        refine stepp ha 52 (.bool (t2284.1 == t2293.1.f0)) KR KR ?_; intro ax hax; exact HK _ _ _ hax rfl (Below.refl _ _)
                      · skip
                        intro a wr hn hd HW hs; have ha := hasNil hn hd
                        have ha := ha.add (seeE hs 7 (.int .i64 t2284.2.1) KR KR)
                        have ha := ha.add (seeF hs 52 16 (.bool (t2284.1 == t2293.1.f0)) KR KR)
                        have ha := ha.bool 52 KR (ieq_t hp2319)
                        refine yStep ha 53 KR ?_; intro l_ ha HK
                        refine stepp ha 53 (.int .i64 t2284.2.1) KR KR ?_; intro ax hax; exact HK _ _ _ hax rfl (Below.refl _ _)
                      · skip
                        intro a wr hn hd HW hs; have ha := hasNil hn hd
                        have ha := ha.add (seeE hs 11 (.pointer (some ⟨b2300, 0, none⟩)) KR KR)
                        have ha := ha.add (seeF hs 52 16 (.bool (t2284.1 == t2293.1.f0)) KR KR)
                        have ha := ha.bool 52 KR (ieq_t hp2319)
                        refine yStep ha 54 KR ?_; intro l_ ha HK
                        refine stepp ha 54 (.pointer (some ⟨b2300, 1, none⟩)) KR KR ?_; intro ax hax; exact HK _ _ _ hax rfl (Below.refl _ _)
                      · skip
                        intro a wr hn hd HW hs; have ha := hasNil hn hd
                        have ha := ha.add (seeF hs 54 18 (.pointer (some ⟨b2300, 1, none⟩)) KR KR)
                        have ha := ha.add (seeF hs 52 16 (.bool (t2284.1 == t2293.1.f0)) KR KR)
                        have ha := ha.bool 52 KR (ieq_t hp2319)
                        refine yStep ha 55 KR ?_; intro l_ ha HK
                        refine stepl ha 55 (HW.ca (i := 0) (b := b2300) (C := #[.int .u32 t2293.1.f0, .int .i64 t2293.1.f1, .slice A2295 t2293.1.f2.length c2296, .int .i64 t2293.1.f3]) (T := 35) (fr := (0, 0)) KR) 3 1 (.tmp 54) (.int .i64 t2293.1.f1) rfl KR KR KR ?_; intro ax hax; exact HK _ _ _ hax rfl (Below.refl _ _)
                      · skip
                        intro a wr hn hd HW hs; have ha := hasNil hn hd
                        have ha := ha.add (seeF hs 53 17 (.int .i64 t2284.2.1) KR KR)
                        have ha := ha.add (seeF hs 55 19 (.int .i64 t2293.1.f1) KR KR)
                        have ha := ha.add (seeF hs 52 16 (.bool (t2284.1 == t2293.1.f0)) KR KR)
                        have ha := ha.bool 52 KR (ieq_t hp2319)
                        refine yStep ha 56 KR ?_; intro l_ ha HK
                        refine stepp ha 56 (.bool (t2284.2.1 == t2293.1.f1)) KR KR ?_; intro ax hax; exact HK _ _ _ hax rfl (Below.refl _ _)
                      · skip
                        intro a wr hn hd HW hs; have ha := hasNil hn hd
                        have ha := ha.add (seeF hs 52 16 (.bool (t2284.1 == t2293.1.f0)) KR KR)
                        have ha := ha.bool 52 KR (ieq_t hp2319)
                        have ha := ha.add (seeF hs 56 20 (.bool (t2284.2.1 == t2293.1.f1)) KR KR)
                        refine yStep ha 57 KR ?_; intro l_ ha HK
                        refine stepp ha 57 (.bool (t2284.2.1 == t2293.1.f1)) KR KR ?_; intro ax hax; exact HK _ _ _ hax rfl (Below.refl _ _)
                      · skip
                        intro a wr hn hd HW hs; have ha := hasNil hn hd
                        have ha := ha.add (seeF hs 57 21 (.bool (t2284.2.1 == t2293.1.f1)) KR KR)
                        refine yStep ha 58 KR ?_; intro l_ ha HK
                        refine stepp ha 58 (.bool (t2284.2.1 == t2293.1.f1)) KR KR ?_; intro ax hax; exact HK _ _ _ hax rfl (Below.refl _ _)
                      · skip
                        intro a wr hn hd HW hs; have ha := hasNil hn hd
                        have ha := ha.add (seeE hs 8 (.slice A2286 t2284.2.2.1.length c2287) KR KR)
                        have ha := ha.add (seeF hs 58 22 (.bool (t2284.2.1 == t2293.1.f1)) KR KR)
                        have ha := ha.bool 58 KR (ieq_t hp2320)
                        refine yStep ha 59 KR ?_; intro l_ ha HK
                        refine stepp ha 59 (.slice A2286 t2284.2.2.1.length c2287) KR KR ?_; intro ax hax; exact HK _ _ _ hax rfl (Below.refl _ _)
                      · skip
                        intro a wr hn hd HW hs; have ha := hasNil hn hd
                        have ha := ha.add (seeE hs 11 (.pointer (some ⟨b2300, 0, none⟩)) KR KR)
                        have ha := ha.add (seeF hs 58 22 (.bool (t2284.2.1 == t2293.1.f1)) KR KR)
                        have ha := ha.bool 58 KR (ieq_t hp2320)
                        refine yStep ha 60 KR ?_; intro l_ ha HK
                        refine stepp ha 60 (.pointer (some ⟨b2300, 2, none⟩)) KR KR ?_; intro ax hax; exact HK _ _ _ hax rfl (Below.refl _ _)
                      · skip
                        intro a wr hn hd HW hs; have ha := hasNil hn hd
                        have ha := ha.add (seeF hs 60 24 (.pointer (some ⟨b2300, 2, none⟩)) KR KR)
                        have ha := ha.add (seeF hs 58 22 (.bool (t2284.2.1 == t2293.1.f1)) KR KR)
                        have ha := ha.bool 58 KR (ieq_t hp2320)
                        refine yStep ha 61 KR ?_; intro l_ ha HK
                        refine stepl ha 61 (HW.ca (i := 0) (b := b2300) (C := #[.int .u32 t2293.1.f0, .int .i64 t2293.1.f1, .slice A2295 t2293.1.f2.length c2296, .int .i64 t2293.1.f3]) (T := 35) (fr := (0, 0)) KR) 22 2 (.tmp 60) (.slice A2295 t2293.1.f2.length c2296) rfl KR KR KR ?_; intro ax hax; exact HK _ _ _ hax rfl (Below.refl _ _)
                      · skip
                        intro a wr hn hd HW hs; have ha := hasNil hn hd
                        have ha := ha.add (seeF hs 59 23 (.slice A2286 t2284.2.2.1.length c2287) KR KR)
                        have ha := ha.add (seeF hs 61 25 (.slice A2295 t2293.1.f2.length c2296) KR KR)
                        have ha := ha.add (seeF hs 58 22 (.bool (t2284.2.1 == t2293.1.f1)) KR KR)
                        have ha := ha.bool 58 KR (ieq_t hp2320)
                        refine yStep ha 62 KR ?_; intro l_ ha HK
                        refine stepc ha 62 KR KR (headgatekeep_Regs.calls K t2284.2.2.1 t2293.1.f2 A2286 c2287 A2295 c2296 t2321 _ (HW.rdo (i := 1) (q := ⟨44, 2, .slice A2286 t2284.2.2.1.length c2287, t2284.2.2.1.length, encs T_api_Reg.enc t2284.2.2.1⟩) KR) (HW.rdo (i := 0) (q := ⟨44, 2, .slice A2295 t2293.1.f2.length c2296, t2293.1.f2.length, encs T_api_Reg.enc t2293.1.f2⟩) KR) ht2322) ?_; rintro e W2323 ⟨rfl, HX2324⟩
                        refine ⟨_, rfl, ?_⟩; intro ax hax; exact HK _ _ _ hax rfl HX2324.below
                      · skip
                        intro a wr hn hd HW hs; have ha := hasNil hn hd
                        have ha := ha.add (seeF hs 58 22 (.bool (t2284.2.1 == t2293.1.f1)) KR KR)
                        have ha := ha.bool 58 KR (ieq_t hp2320)
                        have ha := ha.add (seeF hs 62 26 (.bool t2321) KR KR)
                        refine yStep ha 63 KR ?_; intro l_ ha HK
                        refine stepp ha 63 (.bool t2321) KR KR ?_; intro ax hax; exact HK _ _ _ hax rfl (Below.refl _ _)
                      · skip
                        intro a wr hn hd HW hs; have ha := hasNil hn hd
                        have ha := ha.add (seeF hs 63 27 (.bool t2321) KR KR)
                        refine yStep ha 64 KR ?_; intro l_ ha HK
                        refine stepp ha 64 (.bool t2321) KR KR ?_; intro ax hax; exact HK _ _ _ hax rfl (Below.refl _ _)
                      · skip
                        intro a wr hn hd HW hs; have ha := hasNil hn hd
                        have ha := ha.add (seeE hs 9 (.int .i64 t2284.2.2.2.1) KR KR)
                        have ha := ha.add (seeF hs 64 28 (.bool t2321) KR KR)
                        have ha := ha.bool 64 KR (hp2325)
                        refine yStep ha 65 KR ?_; intro l_ ha HK
                        refine stepp ha 65 (.int .i64 t2284.2.2.2.1) KR KR ?_; intro ax hax; exact HK _ _ _ hax rfl (Below.refl _ _)
                      · skip
                        intro a wr hn hd HW hs; have ha := hasNil hn hd
                        have ha := ha.add (seeE hs 11 (.pointer (some ⟨b2300, 0, none⟩)) KR KR)
                        have ha := ha.add (seeF hs 64 28 (.bool t2321) KR KR)
                        have ha := ha.bool 64 KR (hp2325)
                        refine yStep ha 66 KR ?_; intro l_ ha HK
                        refine stepp ha 66 (.pointer (some ⟨b2300, 3, none⟩)) KR KR ?_; intro ax hax; exact HK _ _ _ hax rfl (Below.refl _ _)
                      · skip
                        intro a wr hn hd HW hs; have ha := hasNil hn hd
                        have ha := ha.add (seeF hs 66 30 (.pointer (some ⟨b2300, 3, none⟩)) KR KR)
                        have ha := ha.add (seeF hs 64 28 (.bool t2321) KR KR)
                        have ha := ha.bool 64 KR (hp2325)
                        refine yStep ha 67 KR ?_; intro l_ ha HK
                        refine stepl ha 67 (HW.ca (i := 0) (b := b2300) (C := #[.int .u32 t2293.1.f0, .int .i64 t2293.1.f1, .slice A2295 t2293.1.f2.length c2296, .int .i64 t2293.1.f3]) (T := 35) (fr := (0, 0)) KR) 3 3 (.tmp 66) (.int .i64 t2293.1.f3) rfl KR KR KR ?_; intro ax hax; exact HK _ _ _ hax rfl (Below.refl _ _)
                      · skip
                        intro a wr hn hd HW hs; have ha := hasNil hn hd
                        have ha := ha.add (seeF hs 65 29 (.int .i64 t2284.2.2.2.1) KR KR)
                        have ha := ha.add (seeF hs 67 31 (.int .i64 t2293.1.f3) KR KR)
                        have ha := ha.add (seeF hs 64 28 (.bool t2321) KR KR)
                        have ha := ha.bool 64 KR (hp2325)
                        refine yStep ha 68 KR ?_; intro l_ ha HK
                        refine stepp ha 68 (.bool (t2284.2.2.2.1 == t2293.1.f3)) KR KR ?_; intro ax hax; exact HK _ _ _ hax rfl (Below.refl _ _)
                      · skip
                        intro a wr hn hd HW hs; have ha := hasNil hn hd
                        have ha := ha.add (seeF hs 64 28 (.bool t2321) KR KR)
                        have ha := ha.bool 64 KR (hp2325)
                        have ha := ha.add (seeF hs 68 32 (.bool (t2284.2.2.2.1 == t2293.1.f3)) KR KR)
                        refine yStep ha 69 KR ?_; intro l_ ha HK
                        refine stepp ha 69 (.bool (t2284.2.2.2.1 == t2293.1.f3)) KR KR ?_; intro ax hax; exact HK _ _ _ hax rfl (Below.refl _ _)
                      · skip
                        intro a wr hn hd HW hs; have ha := hasNil hn hd
                        have ha := ha.add (seeF hs 69 33 (.bool (t2284.2.2.2.1 == t2293.1.f3)) KR KR)
                        refine yStep ha 70 KR ?_; intro l_ ha HK
                        refine stepp ha 70 (.bool (t2284.2.2.2.1 == t2293.1.f3)) KR KR ?_; intro ax hax; exact HK _ _ _ hax rfl (Below.refl _ _)
                      · skip
                        intro a wr hn hd HW hs; have ha := hasNil hn hd
                        have ha := ha.add (seeE hs 10 (.int .i64 t2284.2.2.2.2) KR KR)
                        have ha := ha.add (seeF hs 70 34 (.bool (t2284.2.2.2.1 == t2293.1.f3)) KR KR)
                        have ha := ha.bool 70 KR (ieq_t hp2326)
                        refine yStep ha 71 KR ?_; intro l_ ha HK
                        refine stepp ha 71 (.int .i64 t2284.2.2.2.2) KR KR ?_; intro ax hax; exact HK _ _ _ hax rfl (Below.refl _ _)
                      · skip
                        intro a wr hn hd HW hs; have ha := hasNil hn hd
                        have ha := ha.add (seeE hs 12 (.int .i64 t2293.2) KR KR)
                        have ha := ha.add (seeF hs 70 34 (.bool (t2284.2.2.2.1 == t2293.1.f3)) KR KR)
                        have ha := ha.bool 70 KR (ieq_t hp2326)
                        refine yStep ha 72 KR ?_; intro l_ ha HK
                        refine stepp ha 72 (.int .i64 t2293.2) KR KR ?_; intro ax hax; exact HK _ _ _ hax rfl (Below.refl _ _)
                      · skip
                        intro a wr hn hd HW hs; have ha := hasNil hn hd
                        have ha := ha.add (seeF hs 71 35 (.int .i64 t2284.2.2.2.2) KR KR)
                        have ha := ha.add (seeF hs 72 36 (.int .i64 t2293.2) KR KR)
                        have ha := ha.add (seeF hs 70 34 (.bool (t2284.2.2.2.1 == t2293.1.f3)) KR KR)
                        have ha := ha.bool 70 KR (ieq_t hp2326)
                        refine yStep ha 73 KR ?_; intro l_ ha HK
                        refine stepp ha 73 (.bool (t2284.2.2.2.2 == t2293.2)) KR KR ?_; intro ax hax; exact HK _ _ _ hax rfl (Below.refl _ _)
                      · skip
                        intro a wr hn hd HW hs; have ha := hasNil hn hd
                        have ha := ha.add (seeF hs 70 34 (.bool (t2284.2.2.2.1 == t2293.1.f3)) KR KR)
                        have ha := ha.bool 70 KR (ieq_t hp2326)
                        have ha := ha.add (seeF hs 73 37 (.bool (t2284.2.2.2.2 == t2293.2)) KR KR)
                        refine yStep ha 74 KR ?_; intro l_ ha HK
                        refine stepp ha 74 (.bool (t2284.2.2.2.2 == t2293.2)) KR KR ?_; intro ax hax; exact HK _ _ _ hax rfl (Below.refl _ _)
                      · skip
                        intro a wr hn hd HW hs; have ha := hasNil hn hd
                        have ha := ha.add (seeF hs 74 38 (.bool (t2284.2.2.2.2 == t2293.2)) KR KR)
                        refine yStep ha 75 KR ?_; intro l_ ha HK
                        refine stepp ha 75 (.bool (t2284.2.2.2.2 == t2293.2)) KR KR ?_; intro ax hax; exact HK _ _ _ hax rfl (Below.refl _ _)
                      · skip
                        intro a wr hn hd HW hs; have ha := hasNil hn hd
                        have ha := ha.add (seeF hs 75 39 (.bool (t2284.2.2.2.2 == t2293.2)) KR KR)
                        have ha := ha.bool 75 KR (ieq_f hp2327)
                        exact yo ha KR rfl
                      · skip
                        intro a wr hn hd HW hs; have ha := hasNil hn hd
                        have ha := ha.add (seeF hs 75 39 (.bool (t2284.2.2.2.2 == t2293.2)) KR KR)
                        have ha := ha.bool 75 KR (ieq_f hp2327)
                        have ha := ha.add (seeF hs 76 40 (undef) KR KR)
                        refine yStep ha 77 KR ?_; intro l_ ha HK
                        refine stepp ha 77 (.bool false) KR KR ?_; intro ax hax; exact HK _ _ _ hax rfl (Below.refl _ _)
                    · skip
                      intro a W2333 ha HW he hf
                      replace ha := ha.add (gotF (m := 42) (j := 41) (d := 77) (v := .bool false) hf KR KR KR)
                      clear he hf
                      refine stepp ha 4 (.bool false) KR KR ?_; clear ha a; intro a ha
                      refine endl ?_
                      refine thenN (hK2304 _ _ ?_); clear hK2304
                      refine wp_ret ?_
                      obtain rfl := Option.some.inj h
                      exact finv ha _ _ rfl (.tmp (v := .bool false) KR .nil) (.bool false) rfl ⟨rfl, HW.pick [] [] (by decide) (by decide) rfl KR⟩
                · skip
                  replace h := ite_neg' h hp2326
                  refine regionG 42 KR KR ha HW [.fix (.agg #[.slice A2274 t2272.f0.length c2275, .int .i64 t2272.f1.f0, .string t2272.f1.f1, .int .u32 t2272.f2, .bool t2272.f3]), .fix (.string t2305), .fix (.agg #[.slice A0_0 a0.f0.length c0_0, .int .i64 a0.f1.f0, .string a0.f1.f1, .int .u32 a0.f2, .bool a0.f3]), .fix (.string t2309), .fix (.bool (t2305.toList == t2309.toList)), .fix (.bool (t2305.toList == t2309.toList)), .fix (.agg #[.slice A2274 t2272.f0.length c2275, .int .i64 t2272.f1.f0, .string t2272.f1.f1, .int .u32 t2272.f2, .bool t2272.f3]), .fix (.agg #[.slice A0_0 a0.f0.length c0_0, .int .i64 a0.f1.f0, .string a0.f1.f1, .int .u32 a0.f2, .bool a0.f3]), .fix (.bool t2314), .fix (.bool t2314), .fix (.bool t2314), .fix (.int .u32 t2284.1), .fix (.pointer (some ⟨b2300, 0, none⟩)), .fix (.int .u32 t2293.1.f0), .fix (.bool (t2284.1 == t2293.1.f0)), .fix (.bool (t2284.1 == t2293.1.f0)), .fix (.bool (t2284.1 == t2293.1.f0)), .fix (.int .i64 t2284.2.1), .fix (.pointer (some ⟨b2300, 1, none⟩)), .fix (.int .i64 t2293.1.f1), .fix (.bool (t2284.2.1 == t2293.1.f1)), .fix (.bool (t2284.2.1 == t2293.1.f1)), .fix (.bool (t2284.2.1 == t2293.1.f1)), .fix (.slice A2286 t2284.2.2.1.length c2287), .fix (.pointer (some ⟨b2300, 2, none⟩)), .fix (.slice A2295 t2293.1.f2.length c2296), .fix (.bool t2321), .fix (.bool t2321), .fix (.bool t2321), .fix (.int .i64 t2284.2.2.2.1), .fix (.pointer (some ⟨b2300, 3, none⟩)), .fix (.int .i64 t2293.1.f3), .fix (.bool (t2284.2.2.2.1 == t2293.1.f3)), .fix (.bool (t2284.2.2.2.1 == t2293.1.f3)), .fix (.bool (t2284.2.2.2.1 == t2293.1.f3)), .fix undef, .fix undef, .fix undef, .fix (.bool false), .fix (.bool false), .fix undef, .fix (.bool false)] ?_ ?_
                  · skip
                    refine ⟨?_, ?_, ?_, ?_, ?_, ?_, ?_, ?_, ?_, ?_, ?_, ?_, ?_, ?_, ?_, ?_, ?_, ?_, ?_, ?_, ?_, ?_, ?_, ?_, ?_, ?_, ?_, ?_, ?_, ?_, ?_, ?_, ?_, ?_, ?_, ?_, ?_, ?_, ?_, ?_, ?_, ?_, trivial⟩
                    · skip
                      intro a wr hn hd HW hs; have ha := hasNil hn hd
                      have ha := ha.add (seeE hs 5 (.pointer (some ⟨b2279, 0, none⟩)) KR KR)
                      refine yStep ha 36 KR ?_; intro l_ ha HK
                      refine stepl ha 36 (HW.ca (i := 1) (b := b2279) (C := #[.slice A2274 t2272.f0.length c2275, .int .i64 t2272.f1.f0, .string t2272.f1.f1, .int .u32 t2272.f2, .bool t2272.f3]) (T := 27) (fr := (0, 0)) KR) 27 0 (.tmp 5) (.agg #[.slice A2274 t2272.f0.length c2275, .int .i64 t2272.f1.f0, .string t2272.f1.f1, .int .u32 t2272.f2, .bool t2272.f3]) rfl KR KR KR ?_; intro ax hax; exact HK _ _ _ hax rfl (Below.refl _ _)
                    · skip
                      intro a wr hn hd HW hs; have ha := hasNil hn hd
                      have ha := ha.add (seeF hs 36 0 (.agg #[.slice A2274 t2272.f0.length c2275, .int .i64 t2272.f1.f0, .string t2272.f1.f1, .int .u32 t2272.f2, .bool t2272.f3]) KR KR)
                      refine yStep ha 37 KR ?_; intro l_ ha HK
                      refine stepc ha 37 KR KR (nresv_Report.calls K (⟨t2272.f0, (⟨t2272.f1.f0, t2272.f1.f1⟩ : T_api_Hold), t2272.f2, t2272.f3⟩ : T_api_Table) A2274 c2275 t2305 _ (HW.ca0 hG0) (HW.rdo (i := 2) (q := ⟨44, 2, .slice A2274 t2272.f0.length c2275, t2272.f0.length, encs T_api_Reg.enc t2272.f0⟩) KR) ht2306) ?_; rintro e W2307 ⟨rfl, HX2308⟩
                      refine ⟨_, rfl, ?_⟩; intro ax hax; exact HK _ _ _ hax rfl HX2308.below
                    · skip
                      intro a wr hn hd HW hs; have ha := hasNil hn hd
                      have ha := ha.add (seeE hs 2 (.pointer (some ⟨b2250, 0, none⟩)) KR KR)
                      refine yStep ha 38 KR ?_; intro l_ ha HK
                      refine stepl ha 38 (HW.ca (i := 2) (b := b2250) (C := #[.slice A0_0 a0.f0.length c0_0, .int .i64 a0.f1.f0, .string a0.f1.f1, .int .u32 a0.f2, .bool a0.f3]) (T := 27) (fr := (0, 0)) KR) 27 0 (.tmp 2) (.agg #[.slice A0_0 a0.f0.length c0_0, .int .i64 a0.f1.f0, .string a0.f1.f1, .int .u32 a0.f2, .bool a0.f3]) rfl KR KR KR ?_; intro ax hax; exact HK _ _ _ hax rfl (Below.refl _ _)
                    · skip
                      intro a wr hn hd HW hs; have ha := hasNil hn hd
                      have ha := ha.add (seeF hs 38 2 (.agg #[.slice A0_0 a0.f0.length c0_0, .int .i64 a0.f1.f0, .string a0.f1.f1, .int .u32 a0.f2, .bool a0.f3]) KR KR)
                      refine yStep ha 39 KR ?_; intro l_ ha HK
                      refine stepc ha 39 KR KR (headgateref27_Report.calls K (⟨a0.f0, (⟨a0.f1.f0, a0.f1.f1⟩ : T_api_Hold), a0.f2, a0.f3⟩ : T_api_Table) A0_0 c0_0 t2309 _ ((HW.rd0 hr0_0)) ht2310) ?_; rintro e W2311 ⟨rfl, HX2312⟩
                      refine ⟨_, rfl, ?_⟩; intro ax hax; exact HK _ _ _ hax rfl HX2312.below
                    · skip
                      intro a wr hn hd HW hs; have ha := hasNil hn hd
                      have ha := ha.add (seeF hs 37 1 (.string t2305) KR KR)
                      have ha := ha.add (seeF hs 39 3 (.string t2309) KR KR)
                      refine yStep ha 40 KR ?_; intro l_ ha HK
                      refine stepp ha 40 (.bool (t2305.toList == t2309.toList)) KR KR ?_; intro ax hax; exact HK _ _ _ hax rfl (Below.refl _ _)
                    · skip
                      intro a wr hn hd HW hs; have ha := hasNil hn hd
                      have ha := ha.add (seeF hs 40 4 (.bool (t2305.toList == t2309.toList)) KR KR)
                      refine yStep ha 41 KR ?_; intro l_ ha HK
                      refine stepp ha 41 (.bool (t2305.toList == t2309.toList)) KR KR ?_; intro ax hax; exact HK _ _ _ hax rfl (Below.refl _ _)
                    · skip
                      intro a wr hn hd HW hs; have ha := hasNil hn hd
                      have ha := ha.add (seeE hs 5 (.pointer (some ⟨b2279, 0, none⟩)) KR KR)
                      have ha := ha.add (seeF hs 41 5 (.bool (t2305.toList == t2309.toList)) KR KR)
                      have ha := ha.bool 41 KR (str_eq_t hp2313)
                      refine yStep ha 42 KR ?_; intro l_ ha HK
                      refine stepl ha 42 (HW.ca (i := 1) (b := b2279) (C := #[.slice A2274 t2272.f0.length c2275, .int .i64 t2272.f1.f0, .string t2272.f1.f1, .int .u32 t2272.f2, .bool t2272.f3]) (T := 27) (fr := (0, 0)) KR) 27 0 (.tmp 5) (.agg #[.slice A2274 t2272.f0.length c2275, .int .i64 t2272.f1.f0, .string t2272.f1.f1, .int .u32 t2272.f2, .bool t2272.f3]) rfl KR KR KR ?_; intro ax hax; exact HK _ _ _ hax rfl (Below.refl _ _)
                    · skip
                      intro a wr hn hd HW hs; have ha := hasNil hn hd
                      have ha := ha.add (seeE hs 2 (.pointer (some ⟨b2250, 0, none⟩)) KR KR)
                      have ha := ha.add (seeF hs 41 5 (.bool (t2305.toList == t2309.toList)) KR KR)
                      have ha := ha.bool 41 KR (str_eq_t hp2313)
                      refine yStep ha 43 KR ?_; intro l_ ha HK
                      refine stepl ha 43 (HW.ca (i := 2) (b := b2250) (C := #[.slice A0_0 a0.f0.length c0_0, .int .i64 a0.f1.f0, .string a0.f1.f1, .int .u32 a0.f2, .bool a0.f3]) (T := 27) (fr := (0, 0)) KR) 27 0 (.tmp 2) (.agg #[.slice A0_0 a0.f0.length c0_0, .int .i64 a0.f1.f0, .string a0.f1.f1, .int .u32 a0.f2, .bool a0.f3]) rfl KR KR KR ?_; intro ax hax; exact HK _ _ _ hax rfl (Below.refl _ _)
                    · skip
                      intro a wr hn hd HW hs; have ha := hasNil hn hd
                      have ha := ha.add (seeF hs 42 6 (.agg #[.slice A2274 t2272.f0.length c2275, .int .i64 t2272.f1.f0, .string t2272.f1.f1, .int .u32 t2272.f2, .bool t2272.f3]) KR KR)
                      have ha := ha.add (seeF hs 43 7 (.agg #[.slice A0_0 a0.f0.length c0_0, .int .i64 a0.f1.f0, .string a0.f1.f1, .int .u32 a0.f2, .bool a0.f3]) KR KR)
                      have ha := ha.add (seeF hs 41 5 (.bool (t2305.toList == t2309.toList)) KR KR)
                      have ha := ha.bool 41 KR (str_eq_t hp2313)
                      refine yStep ha 44 KR ?_; intro l_ ha HK
                      refine stepc ha 44 KR KR (headgatekeep_Tables.calls K (⟨t2272.f0, (⟨t2272.f1.f0, t2272.f1.f1⟩ : T_api_Hold), t2272.f2, t2272.f3⟩ : T_api_Table) (⟨a0.f0, (⟨a0.f1.f0, a0.f1.f1⟩ : T_api_Hold), a0.f2, a0.f3⟩ : T_api_Table) A2274 c2275 A0_0 c0_0 t2314 _ (HW.rdo (i := 2) (q := ⟨44, 2, .slice A2274 t2272.f0.length c2275, t2272.f0.length, encs T_api_Reg.enc t2272.f0⟩) KR) ((HW.rd0 hr0_0)) ht2315) ?_; rintro e W2316 ⟨rfl, HX2317⟩
                      refine ⟨_, rfl, ?_⟩; intro ax hax; exact HK _ _ _ hax rfl HX2317.below
                    · skip
                      intro a wr hn hd HW hs; have ha := hasNil hn hd
                      have ha := ha.add (seeF hs 41 5 (.bool (t2305.toList == t2309.toList)) KR KR)
                      have ha := ha.bool 41 KR (str_eq_t hp2313)
                      have ha := ha.add (seeF hs 44 8 (.bool t2314) KR KR)
                      refine yStep ha 45 KR ?_; intro l_ ha HK
                      refine stepp ha 45 (.bool t2314) KR KR ?_; intro ax hax; exact HK _ _ _ hax rfl (Below.refl _ _)
                    · skip
                      intro a wr hn hd HW hs; have ha := hasNil hn hd
                      have ha := ha.add (seeF hs 45 9 (.bool t2314) KR KR)
                      refine yStep ha 46 KR ?_; intro l_ ha HK
                      refine stepp ha 46 (.bool t2314) KR KR ?_; intro ax hax; exact HK _ _ _ hax rfl (Below.refl _ _)
                    · skip
                      intro a wr hn hd HW hs; have ha := hasNil hn hd
                      have ha := ha.add (seeE hs 6 (.int .u32 t2284.1) KR KR)
                      have ha := ha.add (seeF hs 46 10 (.bool t2314) KR KR)
                      have ha := ha.bool 46 KR (hp2318)
                      refine yStep ha 47 KR ?_; intro l_ ha HK
                      refine stepp ha 47 (.int .u32 t2284.1) KR KR ?_; intro ax hax; exact HK _ _ _ hax rfl (Below.refl _ _)
                    · skip
                      intro a wr hn hd HW hs; have ha := hasNil hn hd
                      have ha := ha.add (seeE hs 11 (.pointer (some ⟨b2300, 0, none⟩)) KR KR)
                      have ha := ha.add (seeF hs 46 10 (.bool t2314) KR KR)
                      have ha := ha.bool 46 KR (hp2318)
                      refine yStep ha 48 KR ?_; intro l_ ha HK
                      refine stepp ha 48 (.pointer (some ⟨b2300, 0, none⟩)) KR KR ?_; intro ax hax; exact HK _ _ _ hax rfl (Below.refl _ _)
                    · skip
                      intro a wr hn hd HW hs; have ha := hasNil hn hd
                      have ha := ha.add (seeF hs 48 12 (.pointer (some ⟨b2300, 0, none⟩)) KR KR)
                      have ha := ha.add (seeF hs 46 10 (.bool t2314) KR KR)
                      have ha := ha.bool 46 KR (hp2318)
                      refine yStep ha 49 KR ?_; intro l_ ha HK
                      refine stepl ha 49 (HW.ca (i := 0) (b := b2300) (C := #[.int .u32 t2293.1.f0, .int .i64 t2293.1.f1, .slice A2295 t2293.1.f2.length c2296, .int .i64 t2293.1.f3]) (T := 35) (fr := (0, 0)) KR) 25 0 (.tmp 48) (.int .u32 t2293.1.f0) rfl KR KR KR ?_; intro ax hax; exact HK _ _ _ hax rfl (Below.refl _ _)
                    · skip
                      intro a wr hn hd HW hs; have ha := hasNil hn hd
                      have ha := ha.add (seeF hs 47 11 (.int .u32 t2284.1) KR KR)
                      have ha := ha.add (seeF hs 49 13 (.int .u32 t2293.1.f0) KR KR)
                      have ha := ha.add (seeF hs 46 10 (.bool t2314) KR KR)
                      have ha := ha.bool 46 KR (hp2318)
                      refine yStep ha 50 KR ?_; intro l_ ha HK
                      refine stepp ha 50 (.bool (t2284.1 == t2293.1.f0)) KR KR ?_; intro ax hax; exact HK _ _ _ hax rfl (Below.refl _ _)
                    · skip
                      intro a wr hn hd HW hs; have ha := hasNil hn hd
                      have ha := ha.add (seeF hs 46 10 (.bool t2314) KR KR)
                      have ha := ha.bool 46 KR (hp2318)
                      have ha := ha.add (seeF hs 50 14 (.bool (t2284.1 == t2293.1.f0)) KR KR)
                      refine yStep ha 51 KR ?_; intro l_ ha HK
                      refine stepp ha 51 (.bool (t2284.1 == t2293.1.f0)) KR KR ?_; intro ax hax; exact HK _ _ _ hax rfl (Below.refl _ _)
                    · skip
                      intro a wr hn hd HW hs; have ha := hasNil hn hd
                      have ha := ha.add (seeF hs 51 15 (.bool (t2284.1 == t2293.1.f0)) KR KR)
                      refine yStep ha 52 KR ?_; intro l_ ha HK
                      refine stepp ha 52 (.bool (t2284.1 == t2293.1.f0)) KR KR ?_; intro ax hax; exact HK _ _ _ hax rfl (Below.refl _ _)
                    · skip
                      intro a wr hn hd HW hs; have ha := hasNil hn hd
                      have ha := ha.add (seeE hs 7 (.int .i64 t2284.2.1) KR KR)
                      have ha := ha.add (seeF hs 52 16 (.bool (t2284.1 == t2293.1.f0)) KR KR)
                      have ha := ha.bool 52 KR (ieq_t hp2319)
                      refine yStep ha 53 KR ?_; intro l_ ha HK
                      refine stepp ha 53 (.int .i64 t2284.2.1) KR KR ?_; intro ax hax; exact HK _ _ _ hax rfl (Below.refl _ _)
                    · skip
                      intro a wr hn hd HW hs; have ha := hasNil hn hd
                      have ha := ha.add (seeE hs 11 (.pointer (some ⟨b2300, 0, none⟩)) KR KR)
                      have ha := ha.add (seeF hs 52 16 (.bool (t2284.1 == t2293.1.f0)) KR KR)
                      have ha := ha.bool 52 KR (ieq_t hp2319)
                      refine yStep ha 54 KR ?_; intro l_ ha HK
                      refine stepp ha 54 (.pointer (some ⟨b2300, 1, none⟩)) KR KR ?_; intro ax hax; exact HK _ _ _ hax rfl (Below.refl _ _)
                    · skip
                      intro a wr hn hd HW hs; have ha := hasNil hn hd
                      have ha := ha.add (seeF hs 54 18 (.pointer (some ⟨b2300, 1, none⟩)) KR KR)
                      have ha := ha.add (seeF hs 52 16 (.bool (t2284.1 == t2293.1.f0)) KR KR)
                      have ha := ha.bool 52 KR (ieq_t hp2319)
                      refine yStep ha 55 KR ?_; intro l_ ha HK
                      refine stepl ha 55 (HW.ca (i := 0) (b := b2300) (C := #[.int .u32 t2293.1.f0, .int .i64 t2293.1.f1, .slice A2295 t2293.1.f2.length c2296, .int .i64 t2293.1.f3]) (T := 35) (fr := (0, 0)) KR) 3 1 (.tmp 54) (.int .i64 t2293.1.f1) rfl KR KR KR ?_; intro ax hax; exact HK _ _ _ hax rfl (Below.refl _ _)
                    · skip
                      intro a wr hn hd HW hs; have ha := hasNil hn hd
                      have ha := ha.add (seeF hs 53 17 (.int .i64 t2284.2.1) KR KR)
                      have ha := ha.add (seeF hs 55 19 (.int .i64 t2293.1.f1) KR KR)
                      have ha := ha.add (seeF hs 52 16 (.bool (t2284.1 == t2293.1.f0)) KR KR)
                      have ha := ha.bool 52 KR (ieq_t hp2319)
                      refine yStep ha 56 KR ?_; intro l_ ha HK
                      refine stepp ha 56 (.bool (t2284.2.1 == t2293.1.f1)) KR KR ?_; intro ax hax; exact HK _ _ _ hax rfl (Below.refl _ _)
                    · skip
                      intro a wr hn hd HW hs; have ha := hasNil hn hd
                      have ha := ha.add (seeF hs 52 16 (.bool (t2284.1 == t2293.1.f0)) KR KR)
                      have ha := ha.bool 52 KR (ieq_t hp2319)
                      have ha := ha.add (seeF hs 56 20 (.bool (t2284.2.1 == t2293.1.f1)) KR KR)
                      refine yStep ha 57 KR ?_; intro l_ ha HK
                      refine stepp ha 57 (.bool (t2284.2.1 == t2293.1.f1)) KR KR ?_; intro ax hax; exact HK _ _ _ hax rfl (Below.refl _ _)
                    · skip
                      intro a wr hn hd HW hs; have ha := hasNil hn hd
                      have ha := ha.add (seeF hs 57 21 (.bool (t2284.2.1 == t2293.1.f1)) KR KR)
                      refine yStep ha 58 KR ?_; intro l_ ha HK
                      refine stepp ha 58 (.bool (t2284.2.1 == t2293.1.f1)) KR KR ?_; intro ax hax; exact HK _ _ _ hax rfl (Below.refl _ _)
                    · skip
                      intro a wr hn hd HW hs; have ha := hasNil hn hd
                      have ha := ha.add (seeE hs 8 (.slice A2286 t2284.2.2.1.length c2287) KR KR)
                      have ha := ha.add (seeF hs 58 22 (.bool (t2284.2.1 == t2293.1.f1)) KR KR)
                      have ha := ha.bool 58 KR (ieq_t hp2320)
                      refine yStep ha 59 KR ?_; intro l_ ha HK
                      refine stepp ha 59 (.slice A2286 t2284.2.2.1.length c2287) KR KR ?_; intro ax hax; exact HK _ _ _ hax rfl (Below.refl _ _)
                    · skip
                      intro a wr hn hd HW hs; have ha := hasNil hn hd
                      have ha := ha.add (seeE hs 11 (.pointer (some ⟨b2300, 0, none⟩)) KR KR)
                      have ha := ha.add (seeF hs 58 22 (.bool (t2284.2.1 == t2293.1.f1)) KR KR)
                      have ha := ha.bool 58 KR (ieq_t hp2320)
                      refine yStep ha 60 KR ?_; intro l_ ha HK
                      refine stepp ha 60 (.pointer (some ⟨b2300, 2, none⟩)) KR KR ?_; intro ax hax; exact HK _ _ _ hax rfl (Below.refl _ _)
                    · skip
                      intro a wr hn hd HW hs; have ha := hasNil hn hd
                      have ha := ha.add (seeF hs 60 24 (.pointer (some ⟨b2300, 2, none⟩)) KR KR)
                      have ha := ha.add (seeF hs 58 22 (.bool (t2284.2.1 == t2293.1.f1)) KR KR)
                      have ha := ha.bool 58 KR (ieq_t hp2320)
                      refine yStep ha 61 KR ?_; intro l_ ha HK
                      refine stepl ha 61 (HW.ca (i := 0) (b := b2300) (C := #[.int .u32 t2293.1.f0, .int .i64 t2293.1.f1, .slice A2295 t2293.1.f2.length c2296, .int .i64 t2293.1.f3]) (T := 35) (fr := (0, 0)) KR) 22 2 (.tmp 60) (.slice A2295 t2293.1.f2.length c2296) rfl KR KR KR ?_; intro ax hax; exact HK _ _ _ hax rfl (Below.refl _ _)
                    · skip
                      intro a wr hn hd HW hs; have ha := hasNil hn hd
                      have ha := ha.add (seeF hs 59 23 (.slice A2286 t2284.2.2.1.length c2287) KR KR)
                      have ha := ha.add (seeF hs 61 25 (.slice A2295 t2293.1.f2.length c2296) KR KR)
                      have ha := ha.add (seeF hs 58 22 (.bool (t2284.2.1 == t2293.1.f1)) KR KR)
                      have ha := ha.bool 58 KR (ieq_t hp2320)
                      refine yStep ha 62 KR ?_; intro l_ ha HK
                      refine stepc ha 62 KR KR (headgatekeep_Regs.calls K t2284.2.2.1 t2293.1.f2 A2286 c2287 A2295 c2296 t2321 _ (HW.rdo (i := 1) (q := ⟨44, 2, .slice A2286 t2284.2.2.1.length c2287, t2284.2.2.1.length, encs T_api_Reg.enc t2284.2.2.1⟩) KR) (HW.rdo (i := 0) (q := ⟨44, 2, .slice A2295 t2293.1.f2.length c2296, t2293.1.f2.length, encs T_api_Reg.enc t2293.1.f2⟩) KR) ht2322) ?_; rintro e W2323 ⟨rfl, HX2324⟩
                      refine ⟨_, rfl, ?_⟩; intro ax hax; exact HK _ _ _ hax rfl HX2324.below
                    · skip
                      intro a wr hn hd HW hs; have ha := hasNil hn hd
                      have ha := ha.add (seeF hs 58 22 (.bool (t2284.2.1 == t2293.1.f1)) KR KR)
                      have ha := ha.bool 58 KR (ieq_t hp2320)
                      have ha := ha.add (seeF hs 62 26 (.bool t2321) KR KR)
                      refine yStep ha 63 KR ?_; intro l_ ha HK
                      refine stepp ha 63 (.bool t2321) KR KR ?_; intro ax hax; exact HK _ _ _ hax rfl (Below.refl _ _)
                    · skip
                      intro a wr hn hd HW hs; have ha := hasNil hn hd
                      have ha := ha.add (seeF hs 63 27 (.bool t2321) KR KR)
                      refine yStep ha 64 KR ?_; intro l_ ha HK
                      refine stepp ha 64 (.bool t2321) KR KR ?_; intro ax hax; exact HK _ _ _ hax rfl (Below.refl _ _)
                    · skip
                      intro a wr hn hd HW hs; have ha := hasNil hn hd
                      have ha := ha.add (seeE hs 9 (.int .i64 t2284.2.2.2.1) KR KR)
                      have ha := ha.add (seeF hs 64 28 (.bool t2321) KR KR)
                      have ha := ha.bool 64 KR (hp2325)
                      refine yStep ha 65 KR ?_; intro l_ ha HK
                      refine stepp ha 65 (.int .i64 t2284.2.2.2.1) KR KR ?_; intro ax hax; exact HK _ _ _ hax rfl (Below.refl _ _)
                    · skip
                      intro a wr hn hd HW hs; have ha := hasNil hn hd
                      have ha := ha.add (seeE hs 11 (.pointer (some ⟨b2300, 0, none⟩)) KR KR)
                      have ha := ha.add (seeF hs 64 28 (.bool t2321) KR KR)
                      have ha := ha.bool 64 KR (hp2325)
                      refine yStep ha 66 KR ?_; intro l_ ha HK
                      refine stepp ha 66 (.pointer (some ⟨b2300, 3, none⟩)) KR KR ?_; intro ax hax; exact HK _ _ _ hax rfl (Below.refl _ _)
                    · skip
                      intro a wr hn hd HW hs; have ha := hasNil hn hd
                      have ha := ha.add (seeF hs 66 30 (.pointer (some ⟨b2300, 3, none⟩)) KR KR)
                      have ha := ha.add (seeF hs 64 28 (.bool t2321) KR KR)
                      have ha := ha.bool 64 KR (hp2325)
                      refine yStep ha 67 KR ?_; intro l_ ha HK
                      refine stepl ha 67 (HW.ca (i := 0) (b := b2300) (C := #[.int .u32 t2293.1.f0, .int .i64 t2293.1.f1, .slice A2295 t2293.1.f2.length c2296, .int .i64 t2293.1.f3]) (T := 35) (fr := (0, 0)) KR) 3 3 (.tmp 66) (.int .i64 t2293.1.f3) rfl KR KR KR ?_; intro ax hax; exact HK _ _ _ hax rfl (Below.refl _ _)
                    · skip
                      intro a wr hn hd HW hs; have ha := hasNil hn hd
                      have ha := ha.add (seeF hs 65 29 (.int .i64 t2284.2.2.2.1) KR KR)
                      have ha := ha.add (seeF hs 67 31 (.int .i64 t2293.1.f3) KR KR)
                      have ha := ha.add (seeF hs 64 28 (.bool t2321) KR KR)
                      have ha := ha.bool 64 KR (hp2325)
                      refine yStep ha 68 KR ?_; intro l_ ha HK
                      refine stepp ha 68 (.bool (t2284.2.2.2.1 == t2293.1.f3)) KR KR ?_; intro ax hax; exact HK _ _ _ hax rfl (Below.refl _ _)
                    · skip
                      intro a wr hn hd HW hs; have ha := hasNil hn hd
                      have ha := ha.add (seeF hs 64 28 (.bool t2321) KR KR)
                      have ha := ha.bool 64 KR (hp2325)
                      have ha := ha.add (seeF hs 68 32 (.bool (t2284.2.2.2.1 == t2293.1.f3)) KR KR)
                      refine yStep ha 69 KR ?_; intro l_ ha HK
                      refine stepp ha 69 (.bool (t2284.2.2.2.1 == t2293.1.f3)) KR KR ?_; intro ax hax; exact HK _ _ _ hax rfl (Below.refl _ _)
                    · skip
                      intro a wr hn hd HW hs; have ha := hasNil hn hd
                      have ha := ha.add (seeF hs 69 33 (.bool (t2284.2.2.2.1 == t2293.1.f3)) KR KR)
                      refine yStep ha 70 KR ?_; intro l_ ha HK
                      refine stepp ha 70 (.bool (t2284.2.2.2.1 == t2293.1.f3)) KR KR ?_; intro ax hax; exact HK _ _ _ hax rfl (Below.refl _ _)
                    · skip
                      intro a wr hn hd HW hs; have ha := hasNil hn hd
                      have ha := ha.add (seeE hs 10 (.int .i64 t2284.2.2.2.2) KR KR)
                      have ha := ha.add (seeF hs 70 34 (.bool (t2284.2.2.2.1 == t2293.1.f3)) KR KR)
                      have ha := ha.bool 70 KR (ieq_f hp2326)
                      exact yo ha KR rfl
                    · skip
                      intro a wr hn hd HW hs; have ha := hasNil hn hd
                      have ha := ha.add (seeE hs 12 (.int .i64 t2293.2) KR KR)
                      have ha := ha.add (seeF hs 70 34 (.bool (t2284.2.2.2.1 == t2293.1.f3)) KR KR)
                      have ha := ha.bool 70 KR (ieq_f hp2326)
                      exact yo ha KR rfl
                    · skip
                      intro a wr hn hd HW hs; have ha := hasNil hn hd
                      have ha := ha.add (seeF hs 71 35 (undef) KR KR)
                      have ha := ha.add (seeF hs 72 36 (undef) KR KR)
                      have ha := ha.add (seeF hs 70 34 (.bool (t2284.2.2.2.1 == t2293.1.f3)) KR KR)
                      have ha := ha.bool 70 KR (ieq_f hp2326)
                      exact yo ha KR rfl
                    · skip
                      intro a wr hn hd HW hs; have ha := hasNil hn hd
                      have ha := ha.add (seeF hs 70 34 (.bool (t2284.2.2.2.1 == t2293.1.f3)) KR KR)
                      have ha := ha.bool 70 KR (ieq_f hp2326)
                      have ha := ha.add (seeF hs 73 37 (undef) KR KR)
                      refine yStep ha 74 KR ?_; intro l_ ha HK
                      refine stepp ha 74 (.bool false) KR KR ?_; intro ax hax; exact HK _ _ _ hax rfl (Below.refl _ _)
                    · skip
                      intro a wr hn hd HW hs; have ha := hasNil hn hd
                      have ha := ha.add (seeF hs 74 38 (.bool false) KR KR)
                      refine yStep ha 75 KR ?_; intro l_ ha HK
                      refine stepp ha 75 (.bool false) KR KR ?_; intro ax hax; exact HK _ _ _ hax rfl (Below.refl _ _)
                    · skip
                      intro a wr hn hd HW hs; have ha := hasNil hn hd
                      have ha := ha.add (seeF hs 75 39 (.bool false) KR KR)
                      exact yo ha KR rfl
                    · skip
                      intro a wr hn hd HW hs; have ha := hasNil hn hd
                      have ha := ha.add (seeF hs 75 39 (.bool false) KR KR)
                      have ha := ha.add (seeF hs 76 40 (undef) KR KR)
                      refine yStep ha 77 KR ?_; intro l_ ha HK
                      refine stepp ha 77 (.bool false) KR KR ?_; intro ax hax; exact HK _ _ _ hax rfl (Below.refl _ _)
                  · skip
                    intro a W2334 ha HW he hf
                    replace ha := ha.add (gotF (m := 42) (j := 41) (d := 77) (v := .bool false) hf KR KR KR)
                    clear he hf
                    refine stepp ha 4 (.bool false) KR KR ?_; clear ha a; intro a ha
                    refine endl ?_
                    refine thenN (hK2304 _ _ ?_); clear hK2304
                    refine wp_ret ?_
                    obtain rfl := Option.some.inj h
                    exact finv ha _ _ rfl (.tmp (v := .bool false) KR .nil) (.bool false) rfl ⟨rfl, HW.pick [] [] (by decide) (by decide) rfl KR⟩
              · skip
                replace h := ite_neg' h hp2325
                refine regionG 42 KR KR ha HW [.fix (.agg #[.slice A2274 t2272.f0.length c2275, .int .i64 t2272.f1.f0, .string t2272.f1.f1, .int .u32 t2272.f2, .bool t2272.f3]), .fix (.string t2305), .fix (.agg #[.slice A0_0 a0.f0.length c0_0, .int .i64 a0.f1.f0, .string a0.f1.f1, .int .u32 a0.f2, .bool a0.f3]), .fix (.string t2309), .fix (.bool (t2305.toList == t2309.toList)), .fix (.bool (t2305.toList == t2309.toList)), .fix (.agg #[.slice A2274 t2272.f0.length c2275, .int .i64 t2272.f1.f0, .string t2272.f1.f1, .int .u32 t2272.f2, .bool t2272.f3]), .fix (.agg #[.slice A0_0 a0.f0.length c0_0, .int .i64 a0.f1.f0, .string a0.f1.f1, .int .u32 a0.f2, .bool a0.f3]), .fix (.bool t2314), .fix (.bool t2314), .fix (.bool t2314), .fix (.int .u32 t2284.1), .fix (.pointer (some ⟨b2300, 0, none⟩)), .fix (.int .u32 t2293.1.f0), .fix (.bool (t2284.1 == t2293.1.f0)), .fix (.bool (t2284.1 == t2293.1.f0)), .fix (.bool (t2284.1 == t2293.1.f0)), .fix (.int .i64 t2284.2.1), .fix (.pointer (some ⟨b2300, 1, none⟩)), .fix (.int .i64 t2293.1.f1), .fix (.bool (t2284.2.1 == t2293.1.f1)), .fix (.bool (t2284.2.1 == t2293.1.f1)), .fix (.bool (t2284.2.1 == t2293.1.f1)), .fix (.slice A2286 t2284.2.2.1.length c2287), .fix (.pointer (some ⟨b2300, 2, none⟩)), .fix (.slice A2295 t2293.1.f2.length c2296), .fix (.bool t2321), .fix (.bool t2321), .fix (.bool t2321), .fix undef, .fix undef, .fix undef, .fix undef, .fix (.bool false), .fix (.bool false), .fix undef, .fix undef, .fix undef, .fix (.bool false), .fix (.bool false), .fix undef, .fix (.bool false)] ?_ ?_
                · skip
                  refine ⟨?_, ?_, ?_, ?_, ?_, ?_, ?_, ?_, ?_, ?_, ?_, ?_, ?_, ?_, ?_, ?_, ?_, ?_, ?_, ?_, ?_, ?_, ?_, ?_, ?_, ?_, ?_, ?_, ?_, ?_, ?_, ?_, ?_, ?_, ?_, ?_, ?_, ?_, ?_, ?_, ?_, ?_, trivial⟩
                  · skip
                    intro a wr hn hd HW hs; have ha := hasNil hn hd
                    have ha := ha.add (seeE hs 5 (.pointer (some ⟨b2279, 0, none⟩)) KR KR)
                    refine yStep ha 36 KR ?_; intro l_ ha HK
                    refine stepl ha 36 (HW.ca (i := 1) (b := b2279) (C := #[.slice A2274 t2272.f0.length c2275, .int .i64 t2272.f1.f0, .string t2272.f1.f1, .int .u32 t2272.f2, .bool t2272.f3]) (T := 27) (fr := (0, 0)) KR) 27 0 (.tmp 5) (.agg #[.slice A2274 t2272.f0.length c2275, .int .i64 t2272.f1.f0, .string t2272.f1.f1, .int .u32 t2272.f2, .bool t2272.f3]) rfl KR KR KR ?_; intro ax hax; exact HK _ _ _ hax rfl (Below.refl _ _)
                  · skip
                    intro a wr hn hd HW hs; have ha := hasNil hn hd
                    have ha := ha.add (seeF hs 36 0 (.agg #[.slice A2274 t2272.f0.length c2275, .int .i64 t2272.f1.f0, .string t2272.f1.f1, .int .u32 t2272.f2, .bool t2272.f3]) KR KR)
                    refine yStep ha 37 KR ?_; intro l_ ha HK
                    refine stepc ha 37 KR KR (nresv_Report.calls K (⟨t2272.f0, (⟨t2272.f1.f0, t2272.f1.f1⟩ : T_api_Hold), t2272.f2, t2272.f3⟩ : T_api_Table) A2274 c2275 t2305 _ (HW.ca0 hG0) (HW.rdo (i := 2) (q := ⟨44, 2, .slice A2274 t2272.f0.length c2275, t2272.f0.length, encs T_api_Reg.enc t2272.f0⟩) KR) ht2306) ?_; rintro e W2307 ⟨rfl, HX2308⟩
                    refine ⟨_, rfl, ?_⟩; intro ax hax; exact HK _ _ _ hax rfl HX2308.below
                  · skip
                    intro a wr hn hd HW hs; have ha := hasNil hn hd
                    have ha := ha.add (seeE hs 2 (.pointer (some ⟨b2250, 0, none⟩)) KR KR)
                    refine yStep ha 38 KR ?_; intro l_ ha HK
                    refine stepl ha 38 (HW.ca (i := 2) (b := b2250) (C := #[.slice A0_0 a0.f0.length c0_0, .int .i64 a0.f1.f0, .string a0.f1.f1, .int .u32 a0.f2, .bool a0.f3]) (T := 27) (fr := (0, 0)) KR) 27 0 (.tmp 2) (.agg #[.slice A0_0 a0.f0.length c0_0, .int .i64 a0.f1.f0, .string a0.f1.f1, .int .u32 a0.f2, .bool a0.f3]) rfl KR KR KR ?_; intro ax hax; exact HK _ _ _ hax rfl (Below.refl _ _)
                  · skip
                    intro a wr hn hd HW hs; have ha := hasNil hn hd
                    have ha := ha.add (seeF hs 38 2 (.agg #[.slice A0_0 a0.f0.length c0_0, .int .i64 a0.f1.f0, .string a0.f1.f1, .int .u32 a0.f2, .bool a0.f3]) KR KR)
                    refine yStep ha 39 KR ?_; intro l_ ha HK
                    refine stepc ha 39 KR KR (headgateref27_Report.calls K (⟨a0.f0, (⟨a0.f1.f0, a0.f1.f1⟩ : T_api_Hold), a0.f2, a0.f3⟩ : T_api_Table) A0_0 c0_0 t2309 _ ((HW.rd0 hr0_0)) ht2310) ?_; rintro e W2311 ⟨rfl, HX2312⟩
                    refine ⟨_, rfl, ?_⟩; intro ax hax; exact HK _ _ _ hax rfl HX2312.below
                  · skip
                    intro a wr hn hd HW hs; have ha := hasNil hn hd
                    have ha := ha.add (seeF hs 37 1 (.string t2305) KR KR)
                    have ha := ha.add (seeF hs 39 3 (.string t2309) KR KR)
                    refine yStep ha 40 KR ?_; intro l_ ha HK
                    refine stepp ha 40 (.bool (t2305.toList == t2309.toList)) KR KR ?_; intro ax hax; exact HK _ _ _ hax rfl (Below.refl _ _)
                  · skip
                    intro a wr hn hd HW hs; have ha := hasNil hn hd
                    have ha := ha.add (seeF hs 40 4 (.bool (t2305.toList == t2309.toList)) KR KR)
                    refine yStep ha 41 KR ?_; intro l_ ha HK
                    refine stepp ha 41 (.bool (t2305.toList == t2309.toList)) KR KR ?_; intro ax hax; exact HK _ _ _ hax rfl (Below.refl _ _)
                  · skip
                    intro a wr hn hd HW hs; have ha := hasNil hn hd
                    have ha := ha.add (seeE hs 5 (.pointer (some ⟨b2279, 0, none⟩)) KR KR)
                    have ha := ha.add (seeF hs 41 5 (.bool (t2305.toList == t2309.toList)) KR KR)
                    have ha := ha.bool 41 KR (str_eq_t hp2313)
                    refine yStep ha 42 KR ?_; intro l_ ha HK
                    refine stepl ha 42 (HW.ca (i := 1) (b := b2279) (C := #[.slice A2274 t2272.f0.length c2275, .int .i64 t2272.f1.f0, .string t2272.f1.f1, .int .u32 t2272.f2, .bool t2272.f3]) (T := 27) (fr := (0, 0)) KR) 27 0 (.tmp 5) (.agg #[.slice A2274 t2272.f0.length c2275, .int .i64 t2272.f1.f0, .string t2272.f1.f1, .int .u32 t2272.f2, .bool t2272.f3]) rfl KR KR KR ?_; intro ax hax; exact HK _ _ _ hax rfl (Below.refl _ _)
                  · skip
                    intro a wr hn hd HW hs; have ha := hasNil hn hd
                    have ha := ha.add (seeE hs 2 (.pointer (some ⟨b2250, 0, none⟩)) KR KR)
                    have ha := ha.add (seeF hs 41 5 (.bool (t2305.toList == t2309.toList)) KR KR)
                    have ha := ha.bool 41 KR (str_eq_t hp2313)
                    refine yStep ha 43 KR ?_; intro l_ ha HK
                    refine stepl ha 43 (HW.ca (i := 2) (b := b2250) (C := #[.slice A0_0 a0.f0.length c0_0, .int .i64 a0.f1.f0, .string a0.f1.f1, .int .u32 a0.f2, .bool a0.f3]) (T := 27) (fr := (0, 0)) KR) 27 0 (.tmp 2) (.agg #[.slice A0_0 a0.f0.length c0_0, .int .i64 a0.f1.f0, .string a0.f1.f1, .int .u32 a0.f2, .bool a0.f3]) rfl KR KR KR ?_; intro ax hax; exact HK _ _ _ hax rfl (Below.refl _ _)
                  · skip
                    intro a wr hn hd HW hs; have ha := hasNil hn hd
                    have ha := ha.add (seeF hs 42 6 (.agg #[.slice A2274 t2272.f0.length c2275, .int .i64 t2272.f1.f0, .string t2272.f1.f1, .int .u32 t2272.f2, .bool t2272.f3]) KR KR)
                    have ha := ha.add (seeF hs 43 7 (.agg #[.slice A0_0 a0.f0.length c0_0, .int .i64 a0.f1.f0, .string a0.f1.f1, .int .u32 a0.f2, .bool a0.f3]) KR KR)
                    have ha := ha.add (seeF hs 41 5 (.bool (t2305.toList == t2309.toList)) KR KR)
                    have ha := ha.bool 41 KR (str_eq_t hp2313)
                    refine yStep ha 44 KR ?_; intro l_ ha HK
                    refine stepc ha 44 KR KR (headgatekeep_Tables.calls K (⟨t2272.f0, (⟨t2272.f1.f0, t2272.f1.f1⟩ : T_api_Hold), t2272.f2, t2272.f3⟩ : T_api_Table) (⟨a0.f0, (⟨a0.f1.f0, a0.f1.f1⟩ : T_api_Hold), a0.f2, a0.f3⟩ : T_api_Table) A2274 c2275 A0_0 c0_0 t2314 _ (HW.rdo (i := 2) (q := ⟨44, 2, .slice A2274 t2272.f0.length c2275, t2272.f0.length, encs T_api_Reg.enc t2272.f0⟩) KR) ((HW.rd0 hr0_0)) ht2315) ?_; rintro e W2316 ⟨rfl, HX2317⟩
                    refine ⟨_, rfl, ?_⟩; intro ax hax; exact HK _ _ _ hax rfl HX2317.below
                  · skip
                    intro a wr hn hd HW hs; have ha := hasNil hn hd
                    have ha := ha.add (seeF hs 41 5 (.bool (t2305.toList == t2309.toList)) KR KR)
                    have ha := ha.bool 41 KR (str_eq_t hp2313)
                    have ha := ha.add (seeF hs 44 8 (.bool t2314) KR KR)
                    refine yStep ha 45 KR ?_; intro l_ ha HK
                    refine stepp ha 45 (.bool t2314) KR KR ?_; intro ax hax; exact HK _ _ _ hax rfl (Below.refl _ _)
                  · skip
                    intro a wr hn hd HW hs; have ha := hasNil hn hd
                    have ha := ha.add (seeF hs 45 9 (.bool t2314) KR KR)
                    refine yStep ha 46 KR ?_; intro l_ ha HK
                    refine stepp ha 46 (.bool t2314) KR KR ?_; intro ax hax; exact HK _ _ _ hax rfl (Below.refl _ _)
                  · skip
                    intro a wr hn hd HW hs; have ha := hasNil hn hd
                    have ha := ha.add (seeE hs 6 (.int .u32 t2284.1) KR KR)
                    have ha := ha.add (seeF hs 46 10 (.bool t2314) KR KR)
                    have ha := ha.bool 46 KR (hp2318)
                    refine yStep ha 47 KR ?_; intro l_ ha HK
                    refine stepp ha 47 (.int .u32 t2284.1) KR KR ?_; intro ax hax; exact HK _ _ _ hax rfl (Below.refl _ _)
                  · skip
                    intro a wr hn hd HW hs; have ha := hasNil hn hd
                    have ha := ha.add (seeE hs 11 (.pointer (some ⟨b2300, 0, none⟩)) KR KR)
                    have ha := ha.add (seeF hs 46 10 (.bool t2314) KR KR)
                    have ha := ha.bool 46 KR (hp2318)
                    refine yStep ha 48 KR ?_; intro l_ ha HK
                    refine stepp ha 48 (.pointer (some ⟨b2300, 0, none⟩)) KR KR ?_; intro ax hax; exact HK _ _ _ hax rfl (Below.refl _ _)
                  · skip
                    intro a wr hn hd HW hs; have ha := hasNil hn hd
                    have ha := ha.add (seeF hs 48 12 (.pointer (some ⟨b2300, 0, none⟩)) KR KR)
                    have ha := ha.add (seeF hs 46 10 (.bool t2314) KR KR)
                    have ha := ha.bool 46 KR (hp2318)
                    refine yStep ha 49 KR ?_; intro l_ ha HK
                    refine stepl ha 49 (HW.ca (i := 0) (b := b2300) (C := #[.int .u32 t2293.1.f0, .int .i64 t2293.1.f1, .slice A2295 t2293.1.f2.length c2296, .int .i64 t2293.1.f3]) (T := 35) (fr := (0, 0)) KR) 25 0 (.tmp 48) (.int .u32 t2293.1.f0) rfl KR KR KR ?_; intro ax hax; exact HK _ _ _ hax rfl (Below.refl _ _)
                  · skip
                    intro a wr hn hd HW hs; have ha := hasNil hn hd
                    have ha := ha.add (seeF hs 47 11 (.int .u32 t2284.1) KR KR)
                    have ha := ha.add (seeF hs 49 13 (.int .u32 t2293.1.f0) KR KR)
                    have ha := ha.add (seeF hs 46 10 (.bool t2314) KR KR)
                    have ha := ha.bool 46 KR (hp2318)
                    refine yStep ha 50 KR ?_; intro l_ ha HK
                    refine stepp ha 50 (.bool (t2284.1 == t2293.1.f0)) KR KR ?_; intro ax hax; exact HK _ _ _ hax rfl (Below.refl _ _)
                  · skip
                    intro a wr hn hd HW hs; have ha := hasNil hn hd
                    have ha := ha.add (seeF hs 46 10 (.bool t2314) KR KR)
                    have ha := ha.bool 46 KR (hp2318)
                    have ha := ha.add (seeF hs 50 14 (.bool (t2284.1 == t2293.1.f0)) KR KR)
                    refine yStep ha 51 KR ?_; intro l_ ha HK
                    refine stepp ha 51 (.bool (t2284.1 == t2293.1.f0)) KR KR ?_; intro ax hax; exact HK _ _ _ hax rfl (Below.refl _ _)
                  · skip
                    intro a wr hn hd HW hs; have ha := hasNil hn hd
                    have ha := ha.add (seeF hs 51 15 (.bool (t2284.1 == t2293.1.f0)) KR KR)
                    refine yStep ha 52 KR ?_; intro l_ ha HK
                    refine stepp ha 52 (.bool (t2284.1 == t2293.1.f0)) KR KR ?_; intro ax hax; exact HK _ _ _ hax rfl (Below.refl _ _)
                  · skip
                    intro a wr hn hd HW hs; have ha := hasNil hn hd
                    have ha := ha.add (seeE hs 7 (.int .i64 t2284.2.1) KR KR)
                    have ha := ha.add (seeF hs 52 16 (.bool (t2284.1 == t2293.1.f0)) KR KR)
                    have ha := ha.bool 52 KR (ieq_t hp2319)
                    refine yStep ha 53 KR ?_; intro l_ ha HK
                    refine stepp ha 53 (.int .i64 t2284.2.1) KR KR ?_; intro ax hax; exact HK _ _ _ hax rfl (Below.refl _ _)
                  · skip
                    intro a wr hn hd HW hs; have ha := hasNil hn hd
                    have ha := ha.add (seeE hs 11 (.pointer (some ⟨b2300, 0, none⟩)) KR KR)
                    have ha := ha.add (seeF hs 52 16 (.bool (t2284.1 == t2293.1.f0)) KR KR)
                    have ha := ha.bool 52 KR (ieq_t hp2319)
                    refine yStep ha 54 KR ?_; intro l_ ha HK
                    refine stepp ha 54 (.pointer (some ⟨b2300, 1, none⟩)) KR KR ?_; intro ax hax; exact HK _ _ _ hax rfl (Below.refl _ _)
                  · skip
                    intro a wr hn hd HW hs; have ha := hasNil hn hd
                    have ha := ha.add (seeF hs 54 18 (.pointer (some ⟨b2300, 1, none⟩)) KR KR)
                    have ha := ha.add (seeF hs 52 16 (.bool (t2284.1 == t2293.1.f0)) KR KR)
                    have ha := ha.bool 52 KR (ieq_t hp2319)
                    refine yStep ha 55 KR ?_; intro l_ ha HK
                    refine stepl ha 55 (HW.ca (i := 0) (b := b2300) (C := #[.int .u32 t2293.1.f0, .int .i64 t2293.1.f1, .slice A2295 t2293.1.f2.length c2296, .int .i64 t2293.1.f3]) (T := 35) (fr := (0, 0)) KR) 3 1 (.tmp 54) (.int .i64 t2293.1.f1) rfl KR KR KR ?_; intro ax hax; exact HK _ _ _ hax rfl (Below.refl _ _)
                  · skip
                    intro a wr hn hd HW hs; have ha := hasNil hn hd
                    have ha := ha.add (seeF hs 53 17 (.int .i64 t2284.2.1) KR KR)
                    have ha := ha.add (seeF hs 55 19 (.int .i64 t2293.1.f1) KR KR)
                    have ha := ha.add (seeF hs 52 16 (.bool (t2284.1 == t2293.1.f0)) KR KR)
                    have ha := ha.bool 52 KR (ieq_t hp2319)
                    refine yStep ha 56 KR ?_; intro l_ ha HK
                    refine stepp ha 56 (.bool (t2284.2.1 == t2293.1.f1)) KR KR ?_; intro ax hax; exact HK _ _ _ hax rfl (Below.refl _ _)
                  · skip
                    intro a wr hn hd HW hs; have ha := hasNil hn hd
                    have ha := ha.add (seeF hs 52 16 (.bool (t2284.1 == t2293.1.f0)) KR KR)
                    have ha := ha.bool 52 KR (ieq_t hp2319)
                    have ha := ha.add (seeF hs 56 20 (.bool (t2284.2.1 == t2293.1.f1)) KR KR)
                    refine yStep ha 57 KR ?_; intro l_ ha HK
                    refine stepp ha 57 (.bool (t2284.2.1 == t2293.1.f1)) KR KR ?_; intro ax hax; exact HK _ _ _ hax rfl (Below.refl _ _)
                  · skip
                    intro a wr hn hd HW hs; have ha := hasNil hn hd
                    have ha := ha.add (seeF hs 57 21 (.bool (t2284.2.1 == t2293.1.f1)) KR KR)
                    refine yStep ha 58 KR ?_; intro l_ ha HK
                    refine stepp ha 58 (.bool (t2284.2.1 == t2293.1.f1)) KR KR ?_; intro ax hax; exact HK _ _ _ hax rfl (Below.refl _ _)
                  · skip
                    intro a wr hn hd HW hs; have ha := hasNil hn hd
                    have ha := ha.add (seeE hs 8 (.slice A2286 t2284.2.2.1.length c2287) KR KR)
                    have ha := ha.add (seeF hs 58 22 (.bool (t2284.2.1 == t2293.1.f1)) KR KR)
                    have ha := ha.bool 58 KR (ieq_t hp2320)
                    refine yStep ha 59 KR ?_; intro l_ ha HK
                    refine stepp ha 59 (.slice A2286 t2284.2.2.1.length c2287) KR KR ?_; intro ax hax; exact HK _ _ _ hax rfl (Below.refl _ _)
                  · skip
                    intro a wr hn hd HW hs; have ha := hasNil hn hd
                    have ha := ha.add (seeE hs 11 (.pointer (some ⟨b2300, 0, none⟩)) KR KR)
                    have ha := ha.add (seeF hs 58 22 (.bool (t2284.2.1 == t2293.1.f1)) KR KR)
                    have ha := ha.bool 58 KR (ieq_t hp2320)
                    refine yStep ha 60 KR ?_; intro l_ ha HK
                    refine stepp ha 60 (.pointer (some ⟨b2300, 2, none⟩)) KR KR ?_; intro ax hax; exact HK _ _ _ hax rfl (Below.refl _ _)
                  · skip
                    intro a wr hn hd HW hs; have ha := hasNil hn hd
                    have ha := ha.add (seeF hs 60 24 (.pointer (some ⟨b2300, 2, none⟩)) KR KR)
                    have ha := ha.add (seeF hs 58 22 (.bool (t2284.2.1 == t2293.1.f1)) KR KR)
                    have ha := ha.bool 58 KR (ieq_t hp2320)
                    refine yStep ha 61 KR ?_; intro l_ ha HK
                    refine stepl ha 61 (HW.ca (i := 0) (b := b2300) (C := #[.int .u32 t2293.1.f0, .int .i64 t2293.1.f1, .slice A2295 t2293.1.f2.length c2296, .int .i64 t2293.1.f3]) (T := 35) (fr := (0, 0)) KR) 22 2 (.tmp 60) (.slice A2295 t2293.1.f2.length c2296) rfl KR KR KR ?_; intro ax hax; exact HK _ _ _ hax rfl (Below.refl _ _)
                  · skip
                    intro a wr hn hd HW hs; have ha := hasNil hn hd
                    have ha := ha.add (seeF hs 59 23 (.slice A2286 t2284.2.2.1.length c2287) KR KR)
                    have ha := ha.add (seeF hs 61 25 (.slice A2295 t2293.1.f2.length c2296) KR KR)
                    have ha := ha.add (seeF hs 58 22 (.bool (t2284.2.1 == t2293.1.f1)) KR KR)
                    have ha := ha.bool 58 KR (ieq_t hp2320)
                    refine yStep ha 62 KR ?_; intro l_ ha HK
                    refine stepc ha 62 KR KR (headgatekeep_Regs.calls K t2284.2.2.1 t2293.1.f2 A2286 c2287 A2295 c2296 t2321 _ (HW.rdo (i := 1) (q := ⟨44, 2, .slice A2286 t2284.2.2.1.length c2287, t2284.2.2.1.length, encs T_api_Reg.enc t2284.2.2.1⟩) KR) (HW.rdo (i := 0) (q := ⟨44, 2, .slice A2295 t2293.1.f2.length c2296, t2293.1.f2.length, encs T_api_Reg.enc t2293.1.f2⟩) KR) ht2322) ?_; rintro e W2323 ⟨rfl, HX2324⟩
                    refine ⟨_, rfl, ?_⟩; intro ax hax; exact HK _ _ _ hax rfl HX2324.below
                  · skip
                    intro a wr hn hd HW hs; have ha := hasNil hn hd
                    have ha := ha.add (seeF hs 58 22 (.bool (t2284.2.1 == t2293.1.f1)) KR KR)
                    have ha := ha.bool 58 KR (ieq_t hp2320)
                    have ha := ha.add (seeF hs 62 26 (.bool t2321) KR KR)
                    refine yStep ha 63 KR ?_; intro l_ ha HK
                    refine stepp ha 63 (.bool t2321) KR KR ?_; intro ax hax; exact HK _ _ _ hax rfl (Below.refl _ _)
                  · skip
                    intro a wr hn hd HW hs; have ha := hasNil hn hd
                    have ha := ha.add (seeF hs 63 27 (.bool t2321) KR KR)
                    refine yStep ha 64 KR ?_; intro l_ ha HK
                    refine stepp ha 64 (.bool t2321) KR KR ?_; intro ax hax; exact HK _ _ _ hax rfl (Below.refl _ _)
                  · skip
                    intro a wr hn hd HW hs; have ha := hasNil hn hd
                    have ha := ha.add (seeE hs 9 (.int .i64 t2284.2.2.2.1) KR KR)
                    have ha := ha.add (seeF hs 64 28 (.bool t2321) KR KR)
                    have ha := ha.bool 64 KR (bool_f hp2325)
                    exact yo ha KR rfl
                  · skip
                    intro a wr hn hd HW hs; have ha := hasNil hn hd
                    have ha := ha.add (seeE hs 11 (.pointer (some ⟨b2300, 0, none⟩)) KR KR)
                    have ha := ha.add (seeF hs 64 28 (.bool t2321) KR KR)
                    have ha := ha.bool 64 KR (bool_f hp2325)
                    exact yo ha KR rfl
                  · skip
                    intro a wr hn hd HW hs; have ha := hasNil hn hd
                    have ha := ha.add (seeF hs 66 30 (undef) KR KR)
                    have ha := ha.add (seeF hs 64 28 (.bool t2321) KR KR)
                    have ha := ha.bool 64 KR (bool_f hp2325)
                    exact yo ha KR rfl
                  · skip
                    intro a wr hn hd HW hs; have ha := hasNil hn hd
                    have ha := ha.add (seeF hs 65 29 (undef) KR KR)
                    have ha := ha.add (seeF hs 67 31 (undef) KR KR)
                    have ha := ha.add (seeF hs 64 28 (.bool t2321) KR KR)
                    have ha := ha.bool 64 KR (bool_f hp2325)
                    exact yo ha KR rfl
                  · skip
                    intro a wr hn hd HW hs; have ha := hasNil hn hd
                    have ha := ha.add (seeF hs 64 28 (.bool t2321) KR KR)
                    have ha := ha.bool 64 KR (bool_f hp2325)
                    have ha := ha.add (seeF hs 68 32 (undef) KR KR)
                    refine yStep ha 69 KR ?_; intro l_ ha HK
                    refine stepp ha 69 (.bool false) KR KR ?_; intro ax hax; exact HK _ _ _ hax rfl (Below.refl _ _)
                  · skip
                    intro a wr hn hd HW hs; have ha := hasNil hn hd
                    have ha := ha.add (seeF hs 69 33 (.bool false) KR KR)
                    refine yStep ha 70 KR ?_; intro l_ ha HK
                    refine stepp ha 70 (.bool false) KR KR ?_; intro ax hax; exact HK _ _ _ hax rfl (Below.refl _ _)
                  · skip
                    intro a wr hn hd HW hs; have ha := hasNil hn hd
                    have ha := ha.add (seeE hs 10 (.int .i64 t2284.2.2.2.2) KR KR)
                    have ha := ha.add (seeF hs 70 34 (.bool false) KR KR)
                    exact yo ha KR rfl
                  · skip
                    intro a wr hn hd HW hs; have ha := hasNil hn hd
                    have ha := ha.add (seeE hs 12 (.int .i64 t2293.2) KR KR)
                    have ha := ha.add (seeF hs 70 34 (.bool false) KR KR)
                    exact yo ha KR rfl
                  · skip
                    intro a wr hn hd HW hs; have ha := hasNil hn hd
                    have ha := ha.add (seeF hs 71 35 (undef) KR KR)
                    have ha := ha.add (seeF hs 72 36 (undef) KR KR)
                    have ha := ha.add (seeF hs 70 34 (.bool false) KR KR)
                    exact yo ha KR rfl
                  · skip
                    intro a wr hn hd HW hs; have ha := hasNil hn hd
                    have ha := ha.add (seeF hs 70 34 (.bool false) KR KR)
                    have ha := ha.add (seeF hs 73 37 (undef) KR KR)
                    refine yStep ha 74 KR ?_; intro l_ ha HK
                    refine stepp ha 74 (.bool false) KR KR ?_; intro ax hax; exact HK _ _ _ hax rfl (Below.refl _ _)
                  · skip
                    intro a wr hn hd HW hs; have ha := hasNil hn hd
                    have ha := ha.add (seeF hs 74 38 (.bool false) KR KR)
                    refine yStep ha 75 KR ?_; intro l_ ha HK
                    refine stepp ha 75 (.bool false) KR KR ?_; intro ax hax; exact HK _ _ _ hax rfl (Below.refl _ _)
                  · skip
                    intro a wr hn hd HW hs; have ha := hasNil hn hd
                    have ha := ha.add (seeF hs 75 39 (.bool false) KR KR)
                    exact yo ha KR rfl
                  · skip
                    intro a wr hn hd HW hs; have ha := hasNil hn hd
                    have ha := ha.add (seeF hs 75 39 (.bool false) KR KR)
                    have ha := ha.add (seeF hs 76 40 (undef) KR KR)
                    refine yStep ha 77 KR ?_; intro l_ ha HK
                    refine stepp ha 77 (.bool false) KR KR ?_; intro ax hax; exact HK _ _ _ hax rfl (Below.refl _ _)
                · skip
                  intro a W2335 ha HW he hf
                  replace ha := ha.add (gotF (m := 42) (j := 41) (d := 77) (v := .bool false) hf KR KR KR)
                  clear he hf
                  refine stepp ha 4 (.bool false) KR KR ?_; clear ha a; intro a ha
                  refine endl ?_
                  refine thenN (hK2304 _ _ ?_); clear hK2304
                  refine wp_ret ?_
                  obtain rfl := Option.some.inj h
                  exact finv ha _ _ rfl (.tmp (v := .bool false) KR .nil) (.bool false) rfl ⟨rfl, HW.pick [] [] (by decide) (by decide) rfl KR⟩
            · skip
              replace h := ite_neg' h hp2320
              refine regionG 42 KR KR ha HW [.fix (.agg #[.slice A2274 t2272.f0.length c2275, .int .i64 t2272.f1.f0, .string t2272.f1.f1, .int .u32 t2272.f2, .bool t2272.f3]), .fix (.string t2305), .fix (.agg #[.slice A0_0 a0.f0.length c0_0, .int .i64 a0.f1.f0, .string a0.f1.f1, .int .u32 a0.f2, .bool a0.f3]), .fix (.string t2309), .fix (.bool (t2305.toList == t2309.toList)), .fix (.bool (t2305.toList == t2309.toList)), .fix (.agg #[.slice A2274 t2272.f0.length c2275, .int .i64 t2272.f1.f0, .string t2272.f1.f1, .int .u32 t2272.f2, .bool t2272.f3]), .fix (.agg #[.slice A0_0 a0.f0.length c0_0, .int .i64 a0.f1.f0, .string a0.f1.f1, .int .u32 a0.f2, .bool a0.f3]), .fix (.bool t2314), .fix (.bool t2314), .fix (.bool t2314), .fix (.int .u32 t2284.1), .fix (.pointer (some ⟨b2300, 0, none⟩)), .fix (.int .u32 t2293.1.f0), .fix (.bool (t2284.1 == t2293.1.f0)), .fix (.bool (t2284.1 == t2293.1.f0)), .fix (.bool (t2284.1 == t2293.1.f0)), .fix (.int .i64 t2284.2.1), .fix (.pointer (some ⟨b2300, 1, none⟩)), .fix (.int .i64 t2293.1.f1), .fix (.bool (t2284.2.1 == t2293.1.f1)), .fix (.bool (t2284.2.1 == t2293.1.f1)), .fix (.bool (t2284.2.1 == t2293.1.f1)), .fix undef, .fix undef, .fix undef, .fix undef, .fix (.bool false), .fix (.bool false), .fix undef, .fix undef, .fix undef, .fix undef, .fix (.bool false), .fix (.bool false), .fix undef, .fix undef, .fix undef, .fix (.bool false), .fix (.bool false), .fix undef, .fix (.bool false)] ?_ ?_
              · skip
                refine ⟨?_, ?_, ?_, ?_, ?_, ?_, ?_, ?_, ?_, ?_, ?_, ?_, ?_, ?_, ?_, ?_, ?_, ?_, ?_, ?_, ?_, ?_, ?_, ?_, ?_, ?_, ?_, ?_, ?_, ?_, ?_, ?_, ?_, ?_, ?_, ?_, ?_, ?_, ?_, ?_, ?_, ?_, trivial⟩
                · skip
                  intro a wr hn hd HW hs; have ha := hasNil hn hd
                  have ha := ha.add (seeE hs 5 (.pointer (some ⟨b2279, 0, none⟩)) KR KR)
                  refine yStep ha 36 KR ?_; intro l_ ha HK
                  refine stepl ha 36 (HW.ca (i := 1) (b := b2279) (C := #[.slice A2274 t2272.f0.length c2275, .int .i64 t2272.f1.f0, .string t2272.f1.f1, .int .u32 t2272.f2, .bool t2272.f3]) (T := 27) (fr := (0, 0)) KR) 27 0 (.tmp 5) (.agg #[.slice A2274 t2272.f0.length c2275, .int .i64 t2272.f1.f0, .string t2272.f1.f1, .int .u32 t2272.f2, .bool t2272.f3]) rfl KR KR KR ?_; intro ax hax; exact HK _ _ _ hax rfl (Below.refl _ _)
                · skip
                  intro a wr hn hd HW hs; have ha := hasNil hn hd
                  have ha := ha.add (seeF hs 36 0 (.agg #[.slice A2274 t2272.f0.length c2275, .int .i64 t2272.f1.f0, .string t2272.f1.f1, .int .u32 t2272.f2, .bool t2272.f3]) KR KR)
                  refine yStep ha 37 KR ?_; intro l_ ha HK
                  refine stepc ha 37 KR KR (nresv_Report.calls K (⟨t2272.f0, (⟨t2272.f1.f0, t2272.f1.f1⟩ : T_api_Hold), t2272.f2, t2272.f3⟩ : T_api_Table) A2274 c2275 t2305 _ (HW.ca0 hG0) (HW.rdo (i := 2) (q := ⟨44, 2, .slice A2274 t2272.f0.length c2275, t2272.f0.length, encs T_api_Reg.enc t2272.f0⟩) KR) ht2306) ?_; rintro e W2307 ⟨rfl, HX2308⟩
                  refine ⟨_, rfl, ?_⟩; intro ax hax; exact HK _ _ _ hax rfl HX2308.below
                · skip
                  intro a wr hn hd HW hs; have ha := hasNil hn hd
                  have ha := ha.add (seeE hs 2 (.pointer (some ⟨b2250, 0, none⟩)) KR KR)
                  refine yStep ha 38 KR ?_; intro l_ ha HK
                  refine stepl ha 38 (HW.ca (i := 2) (b := b2250) (C := #[.slice A0_0 a0.f0.length c0_0, .int .i64 a0.f1.f0, .string a0.f1.f1, .int .u32 a0.f2, .bool a0.f3]) (T := 27) (fr := (0, 0)) KR) 27 0 (.tmp 2) (.agg #[.slice A0_0 a0.f0.length c0_0, .int .i64 a0.f1.f0, .string a0.f1.f1, .int .u32 a0.f2, .bool a0.f3]) rfl KR KR KR ?_; intro ax hax; exact HK _ _ _ hax rfl (Below.refl _ _)
                · skip
                  intro a wr hn hd HW hs; have ha := hasNil hn hd
                  have ha := ha.add (seeF hs 38 2 (.agg #[.slice A0_0 a0.f0.length c0_0, .int .i64 a0.f1.f0, .string a0.f1.f1, .int .u32 a0.f2, .bool a0.f3]) KR KR)
                  refine yStep ha 39 KR ?_; intro l_ ha HK
                  refine stepc ha 39 KR KR (headgateref27_Report.calls K (⟨a0.f0, (⟨a0.f1.f0, a0.f1.f1⟩ : T_api_Hold), a0.f2, a0.f3⟩ : T_api_Table) A0_0 c0_0 t2309 _ ((HW.rd0 hr0_0)) ht2310) ?_; rintro e W2311 ⟨rfl, HX2312⟩
                  refine ⟨_, rfl, ?_⟩; intro ax hax; exact HK _ _ _ hax rfl HX2312.below
                · skip
                  intro a wr hn hd HW hs; have ha := hasNil hn hd
                  have ha := ha.add (seeF hs 37 1 (.string t2305) KR KR)
                  have ha := ha.add (seeF hs 39 3 (.string t2309) KR KR)
                  refine yStep ha 40 KR ?_; intro l_ ha HK
                  refine stepp ha 40 (.bool (t2305.toList == t2309.toList)) KR KR ?_; intro ax hax; exact HK _ _ _ hax rfl (Below.refl _ _)
                · skip
                  intro a wr hn hd HW hs; have ha := hasNil hn hd
                  have ha := ha.add (seeF hs 40 4 (.bool (t2305.toList == t2309.toList)) KR KR)
                  refine yStep ha 41 KR ?_; intro l_ ha HK
                  refine stepp ha 41 (.bool (t2305.toList == t2309.toList)) KR KR ?_; intro ax hax; exact HK _ _ _ hax rfl (Below.refl _ _)
                · skip
                  intro a wr hn hd HW hs; have ha := hasNil hn hd
                  have ha := ha.add (seeE hs 5 (.pointer (some ⟨b2279, 0, none⟩)) KR KR)
                  have ha := ha.add (seeF hs 41 5 (.bool (t2305.toList == t2309.toList)) KR KR)
                  have ha := ha.bool 41 KR (str_eq_t hp2313)
                  refine yStep ha 42 KR ?_; intro l_ ha HK
                  refine stepl ha 42 (HW.ca (i := 1) (b := b2279) (C := #[.slice A2274 t2272.f0.length c2275, .int .i64 t2272.f1.f0, .string t2272.f1.f1, .int .u32 t2272.f2, .bool t2272.f3]) (T := 27) (fr := (0, 0)) KR) 27 0 (.tmp 5) (.agg #[.slice A2274 t2272.f0.length c2275, .int .i64 t2272.f1.f0, .string t2272.f1.f1, .int .u32 t2272.f2, .bool t2272.f3]) rfl KR KR KR ?_; intro ax hax; exact HK _ _ _ hax rfl (Below.refl _ _)
                · skip
                  intro a wr hn hd HW hs; have ha := hasNil hn hd
                  have ha := ha.add (seeE hs 2 (.pointer (some ⟨b2250, 0, none⟩)) KR KR)
                  have ha := ha.add (seeF hs 41 5 (.bool (t2305.toList == t2309.toList)) KR KR)
                  have ha := ha.bool 41 KR (str_eq_t hp2313)
                  refine yStep ha 43 KR ?_; intro l_ ha HK
                  refine stepl ha 43 (HW.ca (i := 2) (b := b2250) (C := #[.slice A0_0 a0.f0.length c0_0, .int .i64 a0.f1.f0, .string a0.f1.f1, .int .u32 a0.f2, .bool a0.f3]) (T := 27) (fr := (0, 0)) KR) 27 0 (.tmp 2) (.agg #[.slice A0_0 a0.f0.length c0_0, .int .i64 a0.f1.f0, .string a0.f1.f1, .int .u32 a0.f2, .bool a0.f3]) rfl KR KR KR ?_; intro ax hax; exact HK _ _ _ hax rfl (Below.refl _ _)
                · skip
                  intro a wr hn hd HW hs; have ha := hasNil hn hd
                  have ha := ha.add (seeF hs 42 6 (.agg #[.slice A2274 t2272.f0.length c2275, .int .i64 t2272.f1.f0, .string t2272.f1.f1, .int .u32 t2272.f2, .bool t2272.f3]) KR KR)
                  have ha := ha.add (seeF hs 43 7 (.agg #[.slice A0_0 a0.f0.length c0_0, .int .i64 a0.f1.f0, .string a0.f1.f1, .int .u32 a0.f2, .bool a0.f3]) KR KR)
                  have ha := ha.add (seeF hs 41 5 (.bool (t2305.toList == t2309.toList)) KR KR)
                  have ha := ha.bool 41 KR (str_eq_t hp2313)
                  refine yStep ha 44 KR ?_; intro l_ ha HK
                  refine stepc ha 44 KR KR (headgatekeep_Tables.calls K (⟨t2272.f0, (⟨t2272.f1.f0, t2272.f1.f1⟩ : T_api_Hold), t2272.f2, t2272.f3⟩ : T_api_Table) (⟨a0.f0, (⟨a0.f1.f0, a0.f1.f1⟩ : T_api_Hold), a0.f2, a0.f3⟩ : T_api_Table) A2274 c2275 A0_0 c0_0 t2314 _ (HW.rdo (i := 2) (q := ⟨44, 2, .slice A2274 t2272.f0.length c2275, t2272.f0.length, encs T_api_Reg.enc t2272.f0⟩) KR) ((HW.rd0 hr0_0)) ht2315) ?_; rintro e W2316 ⟨rfl, HX2317⟩
                  refine ⟨_, rfl, ?_⟩; intro ax hax; exact HK _ _ _ hax rfl HX2317.below
                · skip
                  intro a wr hn hd HW hs; have ha := hasNil hn hd
                  have ha := ha.add (seeF hs 41 5 (.bool (t2305.toList == t2309.toList)) KR KR)
                  have ha := ha.bool 41 KR (str_eq_t hp2313)
                  have ha := ha.add (seeF hs 44 8 (.bool t2314) KR KR)
                  refine yStep ha 45 KR ?_; intro l_ ha HK
                  refine stepp ha 45 (.bool t2314) KR KR ?_; intro ax hax; exact HK _ _ _ hax rfl (Below.refl _ _)
                · skip
                  intro a wr hn hd HW hs; have ha := hasNil hn hd
                  have ha := ha.add (seeF hs 45 9 (.bool t2314) KR KR)
                  refine yStep ha 46 KR ?_; intro l_ ha HK
                  refine stepp ha 46 (.bool t2314) KR KR ?_; intro ax hax; exact HK _ _ _ hax rfl (Below.refl _ _)
                · skip
                  intro a wr hn hd HW hs; have ha := hasNil hn hd
                  have ha := ha.add (seeE hs 6 (.int .u32 t2284.1) KR KR)
                  have ha := ha.add (seeF hs 46 10 (.bool t2314) KR KR)
                  have ha := ha.bool 46 KR (hp2318)
                  refine yStep ha 47 KR ?_; intro l_ ha HK
                  refine stepp ha 47 (.int .u32 t2284.1) KR KR ?_; intro ax hax; exact HK _ _ _ hax rfl (Below.refl _ _)
                · skip
                  intro a wr hn hd HW hs; have ha := hasNil hn hd
                  have ha := ha.add (seeE hs 11 (.pointer (some ⟨b2300, 0, none⟩)) KR KR)
                  have ha := ha.add (seeF hs 46 10 (.bool t2314) KR KR)
                  have ha := ha.bool 46 KR (hp2318)
                  refine yStep ha 48 KR ?_; intro l_ ha HK
                  refine stepp ha 48 (.pointer (some ⟨b2300, 0, none⟩)) KR KR ?_; intro ax hax; exact HK _ _ _ hax rfl (Below.refl _ _)
                · skip
                  intro a wr hn hd HW hs; have ha := hasNil hn hd
                  have ha := ha.add (seeF hs 48 12 (.pointer (some ⟨b2300, 0, none⟩)) KR KR)
                  have ha := ha.add (seeF hs 46 10 (.bool t2314) KR KR)
                  have ha := ha.bool 46 KR (hp2318)
                  refine yStep ha 49 KR ?_; intro l_ ha HK
                  refine stepl ha 49 (HW.ca (i := 0) (b := b2300) (C := #[.int .u32 t2293.1.f0, .int .i64 t2293.1.f1, .slice A2295 t2293.1.f2.length c2296, .int .i64 t2293.1.f3]) (T := 35) (fr := (0, 0)) KR) 25 0 (.tmp 48) (.int .u32 t2293.1.f0) rfl KR KR KR ?_; intro ax hax; exact HK _ _ _ hax rfl (Below.refl _ _)
                · skip
                  intro a wr hn hd HW hs; have ha := hasNil hn hd
                  have ha := ha.add (seeF hs 47 11 (.int .u32 t2284.1) KR KR)
                  have ha := ha.add (seeF hs 49 13 (.int .u32 t2293.1.f0) KR KR)
                  have ha := ha.add (seeF hs 46 10 (.bool t2314) KR KR)
                  have ha := ha.bool 46 KR (hp2318)
                  refine yStep ha 50 KR ?_; intro l_ ha HK
                  refine stepp ha 50 (.bool (t2284.1 == t2293.1.f0)) KR KR ?_; intro ax hax; exact HK _ _ _ hax rfl (Below.refl _ _)
                · skip
                  intro a wr hn hd HW hs; have ha := hasNil hn hd
                  have ha := ha.add (seeF hs 46 10 (.bool t2314) KR KR)
                  have ha := ha.bool 46 KR (hp2318)
                  have ha := ha.add (seeF hs 50 14 (.bool (t2284.1 == t2293.1.f0)) KR KR)
                  refine yStep ha 51 KR ?_; intro l_ ha HK
                  refine stepp ha 51 (.bool (t2284.1 == t2293.1.f0)) KR KR ?_; intro ax hax; exact HK _ _ _ hax rfl (Below.refl _ _)
                · skip
                  intro a wr hn hd HW hs; have ha := hasNil hn hd
                  have ha := ha.add (seeF hs 51 15 (.bool (t2284.1 == t2293.1.f0)) KR KR)
                  refine yStep ha 52 KR ?_; intro l_ ha HK
                  refine stepp ha 52 (.bool (t2284.1 == t2293.1.f0)) KR KR ?_; intro ax hax; exact HK _ _ _ hax rfl (Below.refl _ _)
                · skip
                  intro a wr hn hd HW hs; have ha := hasNil hn hd
                  have ha := ha.add (seeE hs 7 (.int .i64 t2284.2.1) KR KR)
                  have ha := ha.add (seeF hs 52 16 (.bool (t2284.1 == t2293.1.f0)) KR KR)
                  have ha := ha.bool 52 KR (ieq_t hp2319)
                  refine yStep ha 53 KR ?_; intro l_ ha HK
                  refine stepp ha 53 (.int .i64 t2284.2.1) KR KR ?_; intro ax hax; exact HK _ _ _ hax rfl (Below.refl _ _)
                · skip
                  intro a wr hn hd HW hs; have ha := hasNil hn hd
                  have ha := ha.add (seeE hs 11 (.pointer (some ⟨b2300, 0, none⟩)) KR KR)
                  have ha := ha.add (seeF hs 52 16 (.bool (t2284.1 == t2293.1.f0)) KR KR)
                  have ha := ha.bool 52 KR (ieq_t hp2319)
                  refine yStep ha 54 KR ?_; intro l_ ha HK
                  refine stepp ha 54 (.pointer (some ⟨b2300, 1, none⟩)) KR KR ?_; intro ax hax; exact HK _ _ _ hax rfl (Below.refl _ _)
                · skip
                  intro a wr hn hd HW hs; have ha := hasNil hn hd
                  have ha := ha.add (seeF hs 54 18 (.pointer (some ⟨b2300, 1, none⟩)) KR KR)
                  have ha := ha.add (seeF hs 52 16 (.bool (t2284.1 == t2293.1.f0)) KR KR)
                  have ha := ha.bool 52 KR (ieq_t hp2319)
                  refine yStep ha 55 KR ?_; intro l_ ha HK
                  refine stepl ha 55 (HW.ca (i := 0) (b := b2300) (C := #[.int .u32 t2293.1.f0, .int .i64 t2293.1.f1, .slice A2295 t2293.1.f2.length c2296, .int .i64 t2293.1.f3]) (T := 35) (fr := (0, 0)) KR) 3 1 (.tmp 54) (.int .i64 t2293.1.f1) rfl KR KR KR ?_; intro ax hax; exact HK _ _ _ hax rfl (Below.refl _ _)
                · skip
                  intro a wr hn hd HW hs; have ha := hasNil hn hd
                  have ha := ha.add (seeF hs 53 17 (.int .i64 t2284.2.1) KR KR)
                  have ha := ha.add (seeF hs 55 19 (.int .i64 t2293.1.f1) KR KR)
                  have ha := ha.add (seeF hs 52 16 (.bool (t2284.1 == t2293.1.f0)) KR KR)
                  have ha := ha.bool 52 KR (ieq_t hp2319)
                  refine yStep ha 56 KR ?_; intro l_ ha HK
                  refine stepp ha 56 (.bool (t2284.2.1 == t2293.1.f1)) KR KR ?_; intro ax hax; exact HK _ _ _ hax rfl (Below.refl _ _)
                · skip
                  intro a wr hn hd HW hs; have ha := hasNil hn hd
                  have ha := ha.add (seeF hs 52 16 (.bool (t2284.1 == t2293.1.f0)) KR KR)
                  have ha := ha.bool 52 KR (ieq_t hp2319)
                  have ha := ha.add (seeF hs 56 20 (.bool (t2284.2.1 == t2293.1.f1)) KR KR)
                  refine yStep ha 57 KR ?_; intro l_ ha HK
                  refine stepp ha 57 (.bool (t2284.2.1 == t2293.1.f1)) KR KR ?_; intro ax hax; exact HK _ _ _ hax rfl (Below.refl _ _)
                · skip
                  intro a wr hn hd HW hs; have ha := hasNil hn hd
                  have ha := ha.add (seeF hs 57 21 (.bool (t2284.2.1 == t2293.1.f1)) KR KR)
                  refine yStep ha 58 KR ?_; intro l_ ha HK
                  refine stepp ha 58 (.bool (t2284.2.1 == t2293.1.f1)) KR KR ?_; intro ax hax; exact HK _ _ _ hax rfl (Below.refl _ _)
                · skip
                  intro a wr hn hd HW hs; have ha := hasNil hn hd
                  have ha := ha.add (seeE hs 8 (.slice A2286 t2284.2.2.1.length c2287) KR KR)
                  have ha := ha.add (seeF hs 58 22 (.bool (t2284.2.1 == t2293.1.f1)) KR KR)
                  have ha := ha.bool 58 KR (ieq_f hp2320)
                  exact yo ha KR rfl
                · skip
                  intro a wr hn hd HW hs; have ha := hasNil hn hd
                  have ha := ha.add (seeE hs 11 (.pointer (some ⟨b2300, 0, none⟩)) KR KR)
                  have ha := ha.add (seeF hs 58 22 (.bool (t2284.2.1 == t2293.1.f1)) KR KR)
                  have ha := ha.bool 58 KR (ieq_f hp2320)
                  exact yo ha KR rfl
                · skip
                  intro a wr hn hd HW hs; have ha := hasNil hn hd
                  have ha := ha.add (seeF hs 60 24 (undef) KR KR)
                  have ha := ha.add (seeF hs 58 22 (.bool (t2284.2.1 == t2293.1.f1)) KR KR)
                  have ha := ha.bool 58 KR (ieq_f hp2320)
                  exact yo ha KR rfl
                · skip
                  intro a wr hn hd HW hs; have ha := hasNil hn hd
                  have ha := ha.add (seeF hs 59 23 (undef) KR KR)
                  have ha := ha.add (seeF hs 61 25 (undef) KR KR)
                  have ha := ha.add (seeF hs 58 22 (.bool (t2284.2.1 == t2293.1.f1)) KR KR)
                  have ha := ha.bool 58 KR (ieq_f hp2320)
                  exact yo ha KR rfl
                · skip
                  intro a wr hn hd HW hs; have ha := hasNil hn hd
                  have ha := ha.add (seeF hs 58 22 (.bool (t2284.2.1 == t2293.1.f1)) KR KR)
                  have ha := ha.bool 58 KR (ieq_f hp2320)
                  have ha := ha.add (seeF hs 62 26 (undef) KR KR)
                  refine yStep ha 63 KR ?_; intro l_ ha HK
                  refine stepp ha 63 (.bool false) KR KR ?_; intro ax hax; exact HK _ _ _ hax rfl (Below.refl _ _)
                · skip
                  intro a wr hn hd HW hs; have ha := hasNil hn hd
                  have ha := ha.add (seeF hs 63 27 (.bool false) KR KR)
                  refine yStep ha 64 KR ?_; intro l_ ha HK
                  refine stepp ha 64 (.bool false) KR KR ?_; intro ax hax; exact HK _ _ _ hax rfl (Below.refl _ _)
                · skip
                  intro a wr hn hd HW hs; have ha := hasNil hn hd
                  have ha := ha.add (seeE hs 9 (.int .i64 t2284.2.2.2.1) KR KR)
                  have ha := ha.add (seeF hs 64 28 (.bool false) KR KR)
                  exact yo ha KR rfl
                · skip
                  intro a wr hn hd HW hs; have ha := hasNil hn hd
                  have ha := ha.add (seeE hs 11 (.pointer (some ⟨b2300, 0, none⟩)) KR KR)
                  have ha := ha.add (seeF hs 64 28 (.bool false) KR KR)
                  exact yo ha KR rfl
                · skip
                  intro a wr hn hd HW hs; have ha := hasNil hn hd
                  have ha := ha.add (seeF hs 66 30 (undef) KR KR)
                  have ha := ha.add (seeF hs 64 28 (.bool false) KR KR)
                  exact yo ha KR rfl
                · skip
                  intro a wr hn hd HW hs; have ha := hasNil hn hd
                  have ha := ha.add (seeF hs 65 29 (undef) KR KR)
                  have ha := ha.add (seeF hs 67 31 (undef) KR KR)
                  have ha := ha.add (seeF hs 64 28 (.bool false) KR KR)
                  exact yo ha KR rfl
                · skip
                  intro a wr hn hd HW hs; have ha := hasNil hn hd
                  have ha := ha.add (seeF hs 64 28 (.bool false) KR KR)
                  have ha := ha.add (seeF hs 68 32 (undef) KR KR)
                  refine yStep ha 69 KR ?_; intro l_ ha HK
                  refine stepp ha 69 (.bool false) KR KR ?_; intro ax hax; exact HK _ _ _ hax rfl (Below.refl _ _)
                · skip
                  intro a wr hn hd HW hs; have ha := hasNil hn hd
                  have ha := ha.add (seeF hs 69 33 (.bool false) KR KR)
                  refine yStep ha 70 KR ?_; intro l_ ha HK
                  refine stepp ha 70 (.bool false) KR KR ?_; intro ax hax; exact HK _ _ _ hax rfl (Below.refl _ _)
                · skip
                  intro a wr hn hd HW hs; have ha := hasNil hn hd
                  have ha := ha.add (seeE hs 10 (.int .i64 t2284.2.2.2.2) KR KR)
                  have ha := ha.add (seeF hs 70 34 (.bool false) KR KR)
                  exact yo ha KR rfl
                · skip
                  intro a wr hn hd HW hs; have ha := hasNil hn hd
                  have ha := ha.add (seeE hs 12 (.int .i64 t2293.2) KR KR)
                  have ha := ha.add (seeF hs 70 34 (.bool false) KR KR)
                  exact yo ha KR rfl
                · skip
                  intro a wr hn hd HW hs; have ha := hasNil hn hd
                  have ha := ha.add (seeF hs 71 35 (undef) KR KR)
                  have ha := ha.add (seeF hs 72 36 (undef) KR KR)
                  have ha := ha.add (seeF hs 70 34 (.bool false) KR KR)
                  exact yo ha KR rfl
                · skip
                  intro a wr hn hd HW hs; have ha := hasNil hn hd
                  have ha := ha.add (seeF hs 70 34 (.bool false) KR KR)
                  have ha := ha.add (seeF hs 73 37 (undef) KR KR)
                  refine yStep ha 74 KR ?_; intro l_ ha HK
                  refine stepp ha 74 (.bool false) KR KR ?_; intro ax hax; exact HK _ _ _ hax rfl (Below.refl _ _)
                · skip
                  intro a wr hn hd HW hs; have ha := hasNil hn hd
                  have ha := ha.add (seeF hs 74 38 (.bool false) KR KR)
                  refine yStep ha 75 KR ?_; intro l_ ha HK
                  refine stepp ha 75 (.bool false) KR KR ?_; intro ax hax; exact HK _ _ _ hax rfl (Below.refl _ _)
                · skip
                  intro a wr hn hd HW hs; have ha := hasNil hn hd
                  have ha := ha.add (seeF hs 75 39 (.bool false) KR KR)
                  exact yo ha KR rfl
                · skip
                  intro a wr hn hd HW hs; have ha := hasNil hn hd
                  have ha := ha.add (seeF hs 75 39 (.bool false) KR KR)
                  have ha := ha.add (seeF hs 76 40 (undef) KR KR)
                  refine yStep ha 77 KR ?_; intro l_ ha HK
                  refine stepp ha 77 (.bool false) KR KR ?_; intro ax hax; exact HK _ _ _ hax rfl (Below.refl _ _)
              · skip
                intro a W2336 ha HW he hf
                replace ha := ha.add (gotF (m := 42) (j := 41) (d := 77) (v := .bool false) hf KR KR KR)
                clear he hf
                refine stepp ha 4 (.bool false) KR KR ?_; clear ha a; intro a ha
                refine endl ?_
                refine thenN (hK2304 _ _ ?_); clear hK2304
                refine wp_ret ?_
                obtain rfl := Option.some.inj h
                exact finv ha _ _ rfl (.tmp (v := .bool false) KR .nil) (.bool false) rfl ⟨rfl, HW.pick [] [] (by decide) (by decide) rfl KR⟩
          · skip
            replace h := ite_neg' h hp2319
            refine regionG 42 KR KR ha HW [.fix (.agg #[.slice A2274 t2272.f0.length c2275, .int .i64 t2272.f1.f0, .string t2272.f1.f1, .int .u32 t2272.f2, .bool t2272.f3]), .fix (.string t2305), .fix (.agg #[.slice A0_0 a0.f0.length c0_0, .int .i64 a0.f1.f0, .string a0.f1.f1, .int .u32 a0.f2, .bool a0.f3]), .fix (.string t2309), .fix (.bool (t2305.toList == t2309.toList)), .fix (.bool (t2305.toList == t2309.toList)), .fix (.agg #[.slice A2274 t2272.f0.length c2275, .int .i64 t2272.f1.f0, .string t2272.f1.f1, .int .u32 t2272.f2, .bool t2272.f3]), .fix (.agg #[.slice A0_0 a0.f0.length c0_0, .int .i64 a0.f1.f0, .string a0.f1.f1, .int .u32 a0.f2, .bool a0.f3]), .fix (.bool t2314), .fix (.bool t2314), .fix (.bool t2314), .fix (.int .u32 t2284.1), .fix (.pointer (some ⟨b2300, 0, none⟩)), .fix (.int .u32 t2293.1.f0), .fix (.bool (t2284.1 == t2293.1.f0)), .fix (.bool (t2284.1 == t2293.1.f0)), .fix (.bool (t2284.1 == t2293.1.f0)), .fix undef, .fix undef, .fix undef, .fix undef, .fix (.bool false), .fix (.bool false), .fix undef, .fix undef, .fix undef, .fix undef, .fix (.bool false), .fix (.bool false), .fix undef, .fix undef, .fix undef, .fix undef, .fix (.bool false), .fix (.bool false), .fix undef, .fix undef, .fix undef, .fix (.bool false), .fix (.bool false), .fix undef, .fix (.bool false)] ?_ ?_
            · skip
              refine ⟨?_, ?_, ?_, ?_, ?_, ?_, ?_, ?_, ?_, ?_, ?_, ?_, ?_, ?_, ?_, ?_, ?_, ?_, ?_, ?_, ?_, ?_, ?_, ?_, ?_, ?_, ?_, ?_, ?_, ?_, ?_, ?_, ?_, ?_, ?_, ?_, ?_, ?_, ?_, ?_, ?_, ?_, trivial⟩
              · skip
                intro a wr hn hd HW hs; have ha := hasNil hn hd
                have ha := ha.add (seeE hs 5 (.pointer (some ⟨b2279, 0, none⟩)) KR KR)
                refine yStep ha 36 KR ?_; intro l_ ha HK
                refine stepl ha 36 (HW.ca (i := 1) (b := b2279) (C := #[.slice A2274 t2272.f0.length c2275, .int .i64 t2272.f1.f0, .string t2272.f1.f1, .int .u32 t2272.f2, .bool t2272.f3]) (T := 27) (fr := (0, 0)) KR) 27 0 (.tmp 5) (.agg #[.slice A2274 t2272.f0.length c2275, .int .i64 t2272.f1.f0, .string t2272.f1.f1, .int .u32 t2272.f2, .bool t2272.f3]) rfl KR KR KR ?_; intro ax hax; exact HK _ _ _ hax rfl (Below.refl _ _)
              · skip
                intro a wr hn hd HW hs; have ha := hasNil hn hd
                have ha := ha.add (seeF hs 36 0 (.agg #[.slice A2274 t2272.f0.length c2275, .int .i64 t2272.f1.f0, .string t2272.f1.f1, .int .u32 t2272.f2, .bool t2272.f3]) KR KR)
                refine yStep ha 37 KR ?_; intro l_ ha HK
                refine stepc ha 37 KR KR (nresv_Report.calls K (⟨t2272.f0, (⟨t2272.f1.f0, t2272.f1.f1⟩ : T_api_Hold), t2272.f2, t2272.f3⟩ : T_api_Table) A2274 c2275 t2305 _ (HW.ca0 hG0) (HW.rdo (i := 2) (q := ⟨44, 2, .slice A2274 t2272.f0.length c2275, t2272.f0.length, encs T_api_Reg.enc t2272.f0⟩) KR) ht2306) ?_; rintro e W2307 ⟨rfl, HX2308⟩
                refine ⟨_, rfl, ?_⟩; intro ax hax; exact HK _ _ _ hax rfl HX2308.below
              · skip
                intro a wr hn hd HW hs; have ha := hasNil hn hd
                have ha := ha.add (seeE hs 2 (.pointer (some ⟨b2250, 0, none⟩)) KR KR)
                refine yStep ha 38 KR ?_; intro l_ ha HK
                refine stepl ha 38 (HW.ca (i := 2) (b := b2250) (C := #[.slice A0_0 a0.f0.length c0_0, .int .i64 a0.f1.f0, .string a0.f1.f1, .int .u32 a0.f2, .bool a0.f3]) (T := 27) (fr := (0, 0)) KR) 27 0 (.tmp 2) (.agg #[.slice A0_0 a0.f0.length c0_0, .int .i64 a0.f1.f0, .string a0.f1.f1, .int .u32 a0.f2, .bool a0.f3]) rfl KR KR KR ?_; intro ax hax; exact HK _ _ _ hax rfl (Below.refl _ _)
              · skip
                intro a wr hn hd HW hs; have ha := hasNil hn hd
                have ha := ha.add (seeF hs 38 2 (.agg #[.slice A0_0 a0.f0.length c0_0, .int .i64 a0.f1.f0, .string a0.f1.f1, .int .u32 a0.f2, .bool a0.f3]) KR KR)
                refine yStep ha 39 KR ?_; intro l_ ha HK
                refine stepc ha 39 KR KR (headgateref27_Report.calls K (⟨a0.f0, (⟨a0.f1.f0, a0.f1.f1⟩ : T_api_Hold), a0.f2, a0.f3⟩ : T_api_Table) A0_0 c0_0 t2309 _ ((HW.rd0 hr0_0)) ht2310) ?_; rintro e W2311 ⟨rfl, HX2312⟩
                refine ⟨_, rfl, ?_⟩; intro ax hax; exact HK _ _ _ hax rfl HX2312.below
              · skip
                intro a wr hn hd HW hs; have ha := hasNil hn hd
                have ha := ha.add (seeF hs 37 1 (.string t2305) KR KR)
                have ha := ha.add (seeF hs 39 3 (.string t2309) KR KR)
                refine yStep ha 40 KR ?_; intro l_ ha HK
                refine stepp ha 40 (.bool (t2305.toList == t2309.toList)) KR KR ?_; intro ax hax; exact HK _ _ _ hax rfl (Below.refl _ _)
              · skip
                intro a wr hn hd HW hs; have ha := hasNil hn hd
                have ha := ha.add (seeF hs 40 4 (.bool (t2305.toList == t2309.toList)) KR KR)
                refine yStep ha 41 KR ?_; intro l_ ha HK
                refine stepp ha 41 (.bool (t2305.toList == t2309.toList)) KR KR ?_; intro ax hax; exact HK _ _ _ hax rfl (Below.refl _ _)
              · skip
                intro a wr hn hd HW hs; have ha := hasNil hn hd
                have ha := ha.add (seeE hs 5 (.pointer (some ⟨b2279, 0, none⟩)) KR KR)
                have ha := ha.add (seeF hs 41 5 (.bool (t2305.toList == t2309.toList)) KR KR)
                have ha := ha.bool 41 KR (str_eq_t hp2313)
                refine yStep ha 42 KR ?_; intro l_ ha HK
                refine stepl ha 42 (HW.ca (i := 1) (b := b2279) (C := #[.slice A2274 t2272.f0.length c2275, .int .i64 t2272.f1.f0, .string t2272.f1.f1, .int .u32 t2272.f2, .bool t2272.f3]) (T := 27) (fr := (0, 0)) KR) 27 0 (.tmp 5) (.agg #[.slice A2274 t2272.f0.length c2275, .int .i64 t2272.f1.f0, .string t2272.f1.f1, .int .u32 t2272.f2, .bool t2272.f3]) rfl KR KR KR ?_; intro ax hax; exact HK _ _ _ hax rfl (Below.refl _ _)
              · skip
                intro a wr hn hd HW hs; have ha := hasNil hn hd
                have ha := ha.add (seeE hs 2 (.pointer (some ⟨b2250, 0, none⟩)) KR KR)
                have ha := ha.add (seeF hs 41 5 (.bool (t2305.toList == t2309.toList)) KR KR)
                have ha := ha.bool 41 KR (str_eq_t hp2313)
                refine yStep ha 43 KR ?_; intro l_ ha HK
                refine stepl ha 43 (HW.ca (i := 2) (b := b2250) (C := #[.slice A0_0 a0.f0.length c0_0, .int .i64 a0.f1.f0, .string a0.f1.f1, .int .u32 a0.f2, .bool a0.f3]) (T := 27) (fr := (0, 0)) KR) 27 0 (.tmp 2) (.agg #[.slice A0_0 a0.f0.length c0_0, .int .i64 a0.f1.f0, .string a0.f1.f1, .int .u32 a0.f2, .bool a0.f3]) rfl KR KR KR ?_; intro ax hax; exact HK _ _ _ hax rfl (Below.refl _ _)
              · skip
                intro a wr hn hd HW hs; have ha := hasNil hn hd
                have ha := ha.add (seeF hs 42 6 (.agg #[.slice A2274 t2272.f0.length c2275, .int .i64 t2272.f1.f0, .string t2272.f1.f1, .int .u32 t2272.f2, .bool t2272.f3]) KR KR)
                have ha := ha.add (seeF hs 43 7 (.agg #[.slice A0_0 a0.f0.length c0_0, .int .i64 a0.f1.f0, .string a0.f1.f1, .int .u32 a0.f2, .bool a0.f3]) KR KR)
                have ha := ha.add (seeF hs 41 5 (.bool (t2305.toList == t2309.toList)) KR KR)
                have ha := ha.bool 41 KR (str_eq_t hp2313)
                refine yStep ha 44 KR ?_; intro l_ ha HK
                refine stepc ha 44 KR KR (headgatekeep_Tables.calls K (⟨t2272.f0, (⟨t2272.f1.f0, t2272.f1.f1⟩ : T_api_Hold), t2272.f2, t2272.f3⟩ : T_api_Table) (⟨a0.f0, (⟨a0.f1.f0, a0.f1.f1⟩ : T_api_Hold), a0.f2, a0.f3⟩ : T_api_Table) A2274 c2275 A0_0 c0_0 t2314 _ (HW.rdo (i := 2) (q := ⟨44, 2, .slice A2274 t2272.f0.length c2275, t2272.f0.length, encs T_api_Reg.enc t2272.f0⟩) KR) ((HW.rd0 hr0_0)) ht2315) ?_; rintro e W2316 ⟨rfl, HX2317⟩
                refine ⟨_, rfl, ?_⟩; intro ax hax; exact HK _ _ _ hax rfl HX2317.below
              · skip
                intro a wr hn hd HW hs; have ha := hasNil hn hd
                have ha := ha.add (seeF hs 41 5 (.bool (t2305.toList == t2309.toList)) KR KR)
                have ha := ha.bool 41 KR (str_eq_t hp2313)
                have ha := ha.add (seeF hs 44 8 (.bool t2314) KR KR)
                refine yStep ha 45 KR ?_; intro l_ ha HK
                refine stepp ha 45 (.bool t2314) KR KR ?_; intro ax hax; exact HK _ _ _ hax rfl (Below.refl _ _)
              · skip
                intro a wr hn hd HW hs; have ha := hasNil hn hd
                have ha := ha.add (seeF hs 45 9 (.bool t2314) KR KR)
                refine yStep ha 46 KR ?_; intro l_ ha HK
                refine stepp ha 46 (.bool t2314) KR KR ?_; intro ax hax; exact HK _ _ _ hax rfl (Below.refl _ _)
              · skip
                intro a wr hn hd HW hs; have ha := hasNil hn hd
                have ha := ha.add (seeE hs 6 (.int .u32 t2284.1) KR KR)
                have ha := ha.add (seeF hs 46 10 (.bool t2314) KR KR)
                have ha := ha.bool 46 KR (hp2318)
                refine yStep ha 47 KR ?_; intro l_ ha HK
                refine stepp ha 47 (.int .u32 t2284.1) KR KR ?_; intro ax hax; exact HK _ _ _ hax rfl (Below.refl _ _)
              · skip
                intro a wr hn hd HW hs; have ha := hasNil hn hd
                have ha := ha.add (seeE hs 11 (.pointer (some ⟨b2300, 0, none⟩)) KR KR)
                have ha := ha.add (seeF hs 46 10 (.bool t2314) KR KR)
                have ha := ha.bool 46 KR (hp2318)
                refine yStep ha 48 KR ?_; intro l_ ha HK
                refine stepp ha 48 (.pointer (some ⟨b2300, 0, none⟩)) KR KR ?_; intro ax hax; exact HK _ _ _ hax rfl (Below.refl _ _)
              · skip
                intro a wr hn hd HW hs; have ha := hasNil hn hd
                have ha := ha.add (seeF hs 48 12 (.pointer (some ⟨b2300, 0, none⟩)) KR KR)
                have ha := ha.add (seeF hs 46 10 (.bool t2314) KR KR)
                have ha := ha.bool 46 KR (hp2318)
                refine yStep ha 49 KR ?_; intro l_ ha HK
                refine stepl ha 49 (HW.ca (i := 0) (b := b2300) (C := #[.int .u32 t2293.1.f0, .int .i64 t2293.1.f1, .slice A2295 t2293.1.f2.length c2296, .int .i64 t2293.1.f3]) (T := 35) (fr := (0, 0)) KR) 25 0 (.tmp 48) (.int .u32 t2293.1.f0) rfl KR KR KR ?_; intro ax hax; exact HK _ _ _ hax rfl (Below.refl _ _)
              · skip
                intro a wr hn hd HW hs; have ha := hasNil hn hd
                have ha := ha.add (seeF hs 47 11 (.int .u32 t2284.1) KR KR)
                have ha := ha.add (seeF hs 49 13 (.int .u32 t2293.1.f0) KR KR)
                have ha := ha.add (seeF hs 46 10 (.bool t2314) KR KR)
                have ha := ha.bool 46 KR (hp2318)
                refine yStep ha 50 KR ?_; intro l_ ha HK
                refine stepp ha 50 (.bool (t2284.1 == t2293.1.f0)) KR KR ?_; intro ax hax; exact HK _ _ _ hax rfl (Below.refl _ _)
              · skip
                intro a wr hn hd HW hs; have ha := hasNil hn hd
                have ha := ha.add (seeF hs 46 10 (.bool t2314) KR KR)
                have ha := ha.bool 46 KR (hp2318)
                have ha := ha.add (seeF hs 50 14 (.bool (t2284.1 == t2293.1.f0)) KR KR)
                refine yStep ha 51 KR ?_; intro l_ ha HK
                refine stepp ha 51 (.bool (t2284.1 == t2293.1.f0)) KR KR ?_; intro ax hax; exact HK _ _ _ hax rfl (Below.refl _ _)
              · skip
                intro a wr hn hd HW hs; have ha := hasNil hn hd
                have ha := ha.add (seeF hs 51 15 (.bool (t2284.1 == t2293.1.f0)) KR KR)
                refine yStep ha 52 KR ?_; intro l_ ha HK
                refine stepp ha 52 (.bool (t2284.1 == t2293.1.f0)) KR KR ?_; intro ax hax; exact HK _ _ _ hax rfl (Below.refl _ _)
              · skip
                intro a wr hn hd HW hs; have ha := hasNil hn hd
                have ha := ha.add (seeE hs 7 (.int .i64 t2284.2.1) KR KR)
                have ha := ha.add (seeF hs 52 16 (.bool (t2284.1 == t2293.1.f0)) KR KR)
                have ha := ha.bool 52 KR (ieq_f hp2319)
                exact yo ha KR rfl
              · skip
                intro a wr hn hd HW hs; have ha := hasNil hn hd
                have ha := ha.add (seeE hs 11 (.pointer (some ⟨b2300, 0, none⟩)) KR KR)
                have ha := ha.add (seeF hs 52 16 (.bool (t2284.1 == t2293.1.f0)) KR KR)
                have ha := ha.bool 52 KR (ieq_f hp2319)
                exact yo ha KR rfl
              · skip
                intro a wr hn hd HW hs; have ha := hasNil hn hd
                have ha := ha.add (seeF hs 54 18 (undef) KR KR)
                have ha := ha.add (seeF hs 52 16 (.bool (t2284.1 == t2293.1.f0)) KR KR)
                have ha := ha.bool 52 KR (ieq_f hp2319)
                exact yo ha KR rfl
              · skip
                intro a wr hn hd HW hs; have ha := hasNil hn hd
                have ha := ha.add (seeF hs 53 17 (undef) KR KR)
                have ha := ha.add (seeF hs 55 19 (undef) KR KR)
                have ha := ha.add (seeF hs 52 16 (.bool (t2284.1 == t2293.1.f0)) KR KR)
                have ha := ha.bool 52 KR (ieq_f hp2319)
                exact yo ha KR rfl
              · skip
                intro a wr hn hd HW hs; have ha := hasNil hn hd
                have ha := ha.add (seeF hs 52 16 (.bool (t2284.1 == t2293.1.f0)) KR KR)
                have ha := ha.bool 52 KR (ieq_f hp2319)
                have ha := ha.add (seeF hs 56 20 (undef) KR KR)
                refine yStep ha 57 KR ?_; intro l_ ha HK
                refine stepp ha 57 (.bool false) KR KR ?_; intro ax hax; exact HK _ _ _ hax rfl (Below.refl _ _)
              · skip
                intro a wr hn hd HW hs; have ha := hasNil hn hd
                have ha := ha.add (seeF hs 57 21 (.bool false) KR KR)
                refine yStep ha 58 KR ?_; intro l_ ha HK
                refine stepp ha 58 (.bool false) KR KR ?_; intro ax hax; exact HK _ _ _ hax rfl (Below.refl _ _)
              · skip
                intro a wr hn hd HW hs; have ha := hasNil hn hd
                have ha := ha.add (seeE hs 8 (.slice A2286 t2284.2.2.1.length c2287) KR KR)
                have ha := ha.add (seeF hs 58 22 (.bool false) KR KR)
                exact yo ha KR rfl
              · skip
                intro a wr hn hd HW hs; have ha := hasNil hn hd
                have ha := ha.add (seeE hs 11 (.pointer (some ⟨b2300, 0, none⟩)) KR KR)
                have ha := ha.add (seeF hs 58 22 (.bool false) KR KR)
                exact yo ha KR rfl
              · skip
                intro a wr hn hd HW hs; have ha := hasNil hn hd
                have ha := ha.add (seeF hs 60 24 (undef) KR KR)
                have ha := ha.add (seeF hs 58 22 (.bool false) KR KR)
                exact yo ha KR rfl
              · skip
                intro a wr hn hd HW hs; have ha := hasNil hn hd
                have ha := ha.add (seeF hs 59 23 (undef) KR KR)
                have ha := ha.add (seeF hs 61 25 (undef) KR KR)
                have ha := ha.add (seeF hs 58 22 (.bool false) KR KR)
                exact yo ha KR rfl
              · skip
                intro a wr hn hd HW hs; have ha := hasNil hn hd
                have ha := ha.add (seeF hs 58 22 (.bool false) KR KR)
                have ha := ha.add (seeF hs 62 26 (undef) KR KR)
                refine yStep ha 63 KR ?_; intro l_ ha HK
                refine stepp ha 63 (.bool false) KR KR ?_; intro ax hax; exact HK _ _ _ hax rfl (Below.refl _ _)
              · skip
                intro a wr hn hd HW hs; have ha := hasNil hn hd
                have ha := ha.add (seeF hs 63 27 (.bool false) KR KR)
                refine yStep ha 64 KR ?_; intro l_ ha HK
                refine stepp ha 64 (.bool false) KR KR ?_; intro ax hax; exact HK _ _ _ hax rfl (Below.refl _ _)
              · skip
                intro a wr hn hd HW hs; have ha := hasNil hn hd
                have ha := ha.add (seeE hs 9 (.int .i64 t2284.2.2.2.1) KR KR)
                have ha := ha.add (seeF hs 64 28 (.bool false) KR KR)
                exact yo ha KR rfl
              · skip
                intro a wr hn hd HW hs; have ha := hasNil hn hd
                have ha := ha.add (seeE hs 11 (.pointer (some ⟨b2300, 0, none⟩)) KR KR)
                have ha := ha.add (seeF hs 64 28 (.bool false) KR KR)
                exact yo ha KR rfl
              · skip
                intro a wr hn hd HW hs; have ha := hasNil hn hd
                have ha := ha.add (seeF hs 66 30 (undef) KR KR)
                have ha := ha.add (seeF hs 64 28 (.bool false) KR KR)
                exact yo ha KR rfl
              · skip
                intro a wr hn hd HW hs; have ha := hasNil hn hd
                have ha := ha.add (seeF hs 65 29 (undef) KR KR)
                have ha := ha.add (seeF hs 67 31 (undef) KR KR)
                have ha := ha.add (seeF hs 64 28 (.bool false) KR KR)
                exact yo ha KR rfl
              · skip
                intro a wr hn hd HW hs; have ha := hasNil hn hd
                have ha := ha.add (seeF hs 64 28 (.bool false) KR KR)
                have ha := ha.add (seeF hs 68 32 (undef) KR KR)
                refine yStep ha 69 KR ?_; intro l_ ha HK
                refine stepp ha 69 (.bool false) KR KR ?_; intro ax hax; exact HK _ _ _ hax rfl (Below.refl _ _)
              · skip
                intro a wr hn hd HW hs; have ha := hasNil hn hd
                have ha := ha.add (seeF hs 69 33 (.bool false) KR KR)
                refine yStep ha 70 KR ?_; intro l_ ha HK
                refine stepp ha 70 (.bool false) KR KR ?_; intro ax hax; exact HK _ _ _ hax rfl (Below.refl _ _)
              · skip
                intro a wr hn hd HW hs; have ha := hasNil hn hd
                have ha := ha.add (seeE hs 10 (.int .i64 t2284.2.2.2.2) KR KR)
                have ha := ha.add (seeF hs 70 34 (.bool false) KR KR)
                exact yo ha KR rfl
              · skip
                intro a wr hn hd HW hs; have ha := hasNil hn hd
                have ha := ha.add (seeE hs 12 (.int .i64 t2293.2) KR KR)
                have ha := ha.add (seeF hs 70 34 (.bool false) KR KR)
                exact yo ha KR rfl
              · skip
                intro a wr hn hd HW hs; have ha := hasNil hn hd
                have ha := ha.add (seeF hs 71 35 (undef) KR KR)
                have ha := ha.add (seeF hs 72 36 (undef) KR KR)
                have ha := ha.add (seeF hs 70 34 (.bool false) KR KR)
                exact yo ha KR rfl
              · skip
                intro a wr hn hd HW hs; have ha := hasNil hn hd
                have ha := ha.add (seeF hs 70 34 (.bool false) KR KR)
                have ha := ha.add (seeF hs 73 37 (undef) KR KR)
                refine yStep ha 74 KR ?_; intro l_ ha HK
                refine stepp ha 74 (.bool false) KR KR ?_; intro ax hax; exact HK _ _ _ hax rfl (Below.refl _ _)
              · skip
                intro a wr hn hd HW hs; have ha := hasNil hn hd
                have ha := ha.add (seeF hs 74 38 (.bool false) KR KR)
                refine yStep ha 75 KR ?_; intro l_ ha HK
                refine stepp ha 75 (.bool false) KR KR ?_; intro ax hax; exact HK _ _ _ hax rfl (Below.refl _ _)
              · skip
                intro a wr hn hd HW hs; have ha := hasNil hn hd
                have ha := ha.add (seeF hs 75 39 (.bool false) KR KR)
                exact yo ha KR rfl
              · skip
                intro a wr hn hd HW hs; have ha := hasNil hn hd
                have ha := ha.add (seeF hs 75 39 (.bool false) KR KR)
                have ha := ha.add (seeF hs 76 40 (undef) KR KR)
                refine yStep ha 77 KR ?_; intro l_ ha HK
                refine stepp ha 77 (.bool false) KR KR ?_; intro ax hax; exact HK _ _ _ hax rfl (Below.refl _ _)
            · skip
              intro a W2337 ha HW he hf
              replace ha := ha.add (gotF (m := 42) (j := 41) (d := 77) (v := .bool false) hf KR KR KR)
              clear he hf
              refine stepp ha 4 (.bool false) KR KR ?_; clear ha a; intro a ha
              refine endl ?_
              refine thenN (hK2304 _ _ ?_); clear hK2304
              refine wp_ret ?_
              obtain rfl := Option.some.inj h
              exact finv ha _ _ rfl (.tmp (v := .bool false) KR .nil) (.bool false) rfl ⟨rfl, HW.pick [] [] (by decide) (by decide) rfl KR⟩
        · skip
          replace h := ite_neg' h hp2318
          refine regionG 42 KR KR ha HW [.fix (.agg #[.slice A2274 t2272.f0.length c2275, .int .i64 t2272.f1.f0, .string t2272.f1.f1, .int .u32 t2272.f2, .bool t2272.f3]), .fix (.string t2305), .fix (.agg #[.slice A0_0 a0.f0.length c0_0, .int .i64 a0.f1.f0, .string a0.f1.f1, .int .u32 a0.f2, .bool a0.f3]), .fix (.string t2309), .fix (.bool (t2305.toList == t2309.toList)), .fix (.bool (t2305.toList == t2309.toList)), .fix (.agg #[.slice A2274 t2272.f0.length c2275, .int .i64 t2272.f1.f0, .string t2272.f1.f1, .int .u32 t2272.f2, .bool t2272.f3]), .fix (.agg #[.slice A0_0 a0.f0.length c0_0, .int .i64 a0.f1.f0, .string a0.f1.f1, .int .u32 a0.f2, .bool a0.f3]), .fix (.bool t2314), .fix (.bool t2314), .fix (.bool t2314), .fix undef, .fix undef, .fix undef, .fix undef, .fix (.bool false), .fix (.bool false), .fix undef, .fix undef, .fix undef, .fix undef, .fix (.bool false), .fix (.bool false), .fix undef, .fix undef, .fix undef, .fix undef, .fix (.bool false), .fix (.bool false), .fix undef, .fix undef, .fix undef, .fix undef, .fix (.bool false), .fix (.bool false), .fix undef, .fix undef, .fix undef, .fix (.bool false), .fix (.bool false), .fix undef, .fix (.bool false)] ?_ ?_
          · skip
            refine ⟨?_, ?_, ?_, ?_, ?_, ?_, ?_, ?_, ?_, ?_, ?_, ?_, ?_, ?_, ?_, ?_, ?_, ?_, ?_, ?_, ?_, ?_, ?_, ?_, ?_, ?_, ?_, ?_, ?_, ?_, ?_, ?_, ?_, ?_, ?_, ?_, ?_, ?_, ?_, ?_, ?_, ?_, trivial⟩
            · skip
              intro a wr hn hd HW hs; have ha := hasNil hn hd
              have ha := ha.add (seeE hs 5 (.pointer (some ⟨b2279, 0, none⟩)) KR KR)
              refine yStep ha 36 KR ?_; intro l_ ha HK
              refine stepl ha 36 (HW.ca (i := 1) (b := b2279) (C := #[.slice A2274 t2272.f0.length c2275, .int .i64 t2272.f1.f0, .string t2272.f1.f1, .int .u32 t2272.f2, .bool t2272.f3]) (T := 27) (fr := (0, 0)) KR) 27 0 (.tmp 5) (.agg #[.slice A2274 t2272.f0.length c2275, .int .i64 t2272.f1.f0, .string t2272.f1.f1, .int .u32 t2272.f2, .bool t2272.f3]) rfl KR KR KR ?_; intro ax hax; exact HK _ _ _ hax rfl (Below.refl _ _)
            · skip
              intro a wr hn hd HW hs; have ha := hasNil hn hd
              have ha := ha.add (seeF hs 36 0 (.agg #[.slice A2274 t2272.f0.length c2275, .int .i64 t2272.f1.f0, .string t2272.f1.f1, .int .u32 t2272.f2, .bool t2272.f3]) KR KR)
              refine yStep ha 37 KR ?_; intro l_ ha HK
              refine stepc ha 37 KR KR (nresv_Report.calls K (⟨t2272.f0, (⟨t2272.f1.f0, t2272.f1.f1⟩ : T_api_Hold), t2272.f2, t2272.f3⟩ : T_api_Table) A2274 c2275 t2305 _ (HW.ca0 hG0) (HW.rdo (i := 2) (q := ⟨44, 2, .slice A2274 t2272.f0.length c2275, t2272.f0.length, encs T_api_Reg.enc t2272.f0⟩) KR) ht2306) ?_; rintro e W2307 ⟨rfl, HX2308⟩
              refine ⟨_, rfl, ?_⟩; intro ax hax; exact HK _ _ _ hax rfl HX2308.below
            · skip
              intro a wr hn hd HW hs; have ha := hasNil hn hd
              have ha := ha.add (seeE hs 2 (.pointer (some ⟨b2250, 0, none⟩)) KR KR)
              refine yStep ha 38 KR ?_; intro l_ ha HK
              refine stepl ha 38 (HW.ca (i := 2) (b := b2250) (C := #[.slice A0_0 a0.f0.length c0_0, .int .i64 a0.f1.f0, .string a0.f1.f1, .int .u32 a0.f2, .bool a0.f3]) (T := 27) (fr := (0, 0)) KR) 27 0 (.tmp 2) (.agg #[.slice A0_0 a0.f0.length c0_0, .int .i64 a0.f1.f0, .string a0.f1.f1, .int .u32 a0.f2, .bool a0.f3]) rfl KR KR KR ?_; intro ax hax; exact HK _ _ _ hax rfl (Below.refl _ _)
            · skip
              intro a wr hn hd HW hs; have ha := hasNil hn hd
              have ha := ha.add (seeF hs 38 2 (.agg #[.slice A0_0 a0.f0.length c0_0, .int .i64 a0.f1.f0, .string a0.f1.f1, .int .u32 a0.f2, .bool a0.f3]) KR KR)
              refine yStep ha 39 KR ?_; intro l_ ha HK
              refine stepc ha 39 KR KR (headgateref27_Report.calls K (⟨a0.f0, (⟨a0.f1.f0, a0.f1.f1⟩ : T_api_Hold), a0.f2, a0.f3⟩ : T_api_Table) A0_0 c0_0 t2309 _ ((HW.rd0 hr0_0)) ht2310) ?_; rintro e W2311 ⟨rfl, HX2312⟩
              refine ⟨_, rfl, ?_⟩; intro ax hax; exact HK _ _ _ hax rfl HX2312.below
            · skip
              intro a wr hn hd HW hs; have ha := hasNil hn hd
              have ha := ha.add (seeF hs 37 1 (.string t2305) KR KR)
              have ha := ha.add (seeF hs 39 3 (.string t2309) KR KR)
              refine yStep ha 40 KR ?_; intro l_ ha HK
              refine stepp ha 40 (.bool (t2305.toList == t2309.toList)) KR KR ?_; intro ax hax; exact HK _ _ _ hax rfl (Below.refl _ _)
            · skip
              intro a wr hn hd HW hs; have ha := hasNil hn hd
              have ha := ha.add (seeF hs 40 4 (.bool (t2305.toList == t2309.toList)) KR KR)
              refine yStep ha 41 KR ?_; intro l_ ha HK
              refine stepp ha 41 (.bool (t2305.toList == t2309.toList)) KR KR ?_; intro ax hax; exact HK _ _ _ hax rfl (Below.refl _ _)
            · skip
              intro a wr hn hd HW hs; have ha := hasNil hn hd
              have ha := ha.add (seeE hs 5 (.pointer (some ⟨b2279, 0, none⟩)) KR KR)
              have ha := ha.add (seeF hs 41 5 (.bool (t2305.toList == t2309.toList)) KR KR)
              have ha := ha.bool 41 KR (str_eq_t hp2313)
              refine yStep ha 42 KR ?_; intro l_ ha HK
              refine stepl ha 42 (HW.ca (i := 1) (b := b2279) (C := #[.slice A2274 t2272.f0.length c2275, .int .i64 t2272.f1.f0, .string t2272.f1.f1, .int .u32 t2272.f2, .bool t2272.f3]) (T := 27) (fr := (0, 0)) KR) 27 0 (.tmp 5) (.agg #[.slice A2274 t2272.f0.length c2275, .int .i64 t2272.f1.f0, .string t2272.f1.f1, .int .u32 t2272.f2, .bool t2272.f3]) rfl KR KR KR ?_; intro ax hax; exact HK _ _ _ hax rfl (Below.refl _ _)
            · skip
              intro a wr hn hd HW hs; have ha := hasNil hn hd
              have ha := ha.add (seeE hs 2 (.pointer (some ⟨b2250, 0, none⟩)) KR KR)
              have ha := ha.add (seeF hs 41 5 (.bool (t2305.toList == t2309.toList)) KR KR)
              have ha := ha.bool 41 KR (str_eq_t hp2313)
              refine yStep ha 43 KR ?_; intro l_ ha HK
              refine stepl ha 43 (HW.ca (i := 2) (b := b2250) (C := #[.slice A0_0 a0.f0.length c0_0, .int .i64 a0.f1.f0, .string a0.f1.f1, .int .u32 a0.f2, .bool a0.f3]) (T := 27) (fr := (0, 0)) KR) 27 0 (.tmp 2) (.agg #[.slice A0_0 a0.f0.length c0_0, .int .i64 a0.f1.f0, .string a0.f1.f1, .int .u32 a0.f2, .bool a0.f3]) rfl KR KR KR ?_; intro ax hax; exact HK _ _ _ hax rfl (Below.refl _ _)
            · skip
              intro a wr hn hd HW hs; have ha := hasNil hn hd
              have ha := ha.add (seeF hs 42 6 (.agg #[.slice A2274 t2272.f0.length c2275, .int .i64 t2272.f1.f0, .string t2272.f1.f1, .int .u32 t2272.f2, .bool t2272.f3]) KR KR)
              have ha := ha.add (seeF hs 43 7 (.agg #[.slice A0_0 a0.f0.length c0_0, .int .i64 a0.f1.f0, .string a0.f1.f1, .int .u32 a0.f2, .bool a0.f3]) KR KR)
              have ha := ha.add (seeF hs 41 5 (.bool (t2305.toList == t2309.toList)) KR KR)
              have ha := ha.bool 41 KR (str_eq_t hp2313)
              refine yStep ha 44 KR ?_; intro l_ ha HK
              refine stepc ha 44 KR KR (headgatekeep_Tables.calls K (⟨t2272.f0, (⟨t2272.f1.f0, t2272.f1.f1⟩ : T_api_Hold), t2272.f2, t2272.f3⟩ : T_api_Table) (⟨a0.f0, (⟨a0.f1.f0, a0.f1.f1⟩ : T_api_Hold), a0.f2, a0.f3⟩ : T_api_Table) A2274 c2275 A0_0 c0_0 t2314 _ (HW.rdo (i := 2) (q := ⟨44, 2, .slice A2274 t2272.f0.length c2275, t2272.f0.length, encs T_api_Reg.enc t2272.f0⟩) KR) ((HW.rd0 hr0_0)) ht2315) ?_; rintro e W2316 ⟨rfl, HX2317⟩
              refine ⟨_, rfl, ?_⟩; intro ax hax; exact HK _ _ _ hax rfl HX2317.below
            · skip
              intro a wr hn hd HW hs; have ha := hasNil hn hd
              have ha := ha.add (seeF hs 41 5 (.bool (t2305.toList == t2309.toList)) KR KR)
              have ha := ha.bool 41 KR (str_eq_t hp2313)
              have ha := ha.add (seeF hs 44 8 (.bool t2314) KR KR)
              refine yStep ha 45 KR ?_; intro l_ ha HK
              refine stepp ha 45 (.bool t2314) KR KR ?_; intro ax hax; exact HK _ _ _ hax rfl (Below.refl _ _)
            · skip
              intro a wr hn hd HW hs; have ha := hasNil hn hd
              have ha := ha.add (seeF hs 45 9 (.bool t2314) KR KR)
              refine yStep ha 46 KR ?_; intro l_ ha HK
              refine stepp ha 46 (.bool t2314) KR KR ?_; intro ax hax; exact HK _ _ _ hax rfl (Below.refl _ _)
            · skip
              intro a wr hn hd HW hs; have ha := hasNil hn hd
              have ha := ha.add (seeE hs 6 (.int .u32 t2284.1) KR KR)
              have ha := ha.add (seeF hs 46 10 (.bool t2314) KR KR)
              have ha := ha.bool 46 KR (bool_f hp2318)
              exact yo ha KR rfl
            · skip
              intro a wr hn hd HW hs; have ha := hasNil hn hd
              have ha := ha.add (seeE hs 11 (.pointer (some ⟨b2300, 0, none⟩)) KR KR)
              have ha := ha.add (seeF hs 46 10 (.bool t2314) KR KR)
              have ha := ha.bool 46 KR (bool_f hp2318)
              exact yo ha KR rfl
            · skip
              intro a wr hn hd HW hs; have ha := hasNil hn hd
              have ha := ha.add (seeF hs 48 12 (undef) KR KR)
              have ha := ha.add (seeF hs 46 10 (.bool t2314) KR KR)
              have ha := ha.bool 46 KR (bool_f hp2318)
              exact yo ha KR rfl
            · skip
              intro a wr hn hd HW hs; have ha := hasNil hn hd
              have ha := ha.add (seeF hs 47 11 (undef) KR KR)
              have ha := ha.add (seeF hs 49 13 (undef) KR KR)
              have ha := ha.add (seeF hs 46 10 (.bool t2314) KR KR)
              have ha := ha.bool 46 KR (bool_f hp2318)
              exact yo ha KR rfl
            · skip
              intro a wr hn hd HW hs; have ha := hasNil hn hd
              have ha := ha.add (seeF hs 46 10 (.bool t2314) KR KR)
              have ha := ha.bool 46 KR (bool_f hp2318)
              have ha := ha.add (seeF hs 50 14 (undef) KR KR)
              refine yStep ha 51 KR ?_; intro l_ ha HK
              refine stepp ha 51 (.bool false) KR KR ?_; intro ax hax; exact HK _ _ _ hax rfl (Below.refl _ _)
            · skip
              intro a wr hn hd HW hs; have ha := hasNil hn hd
              have ha := ha.add (seeF hs 51 15 (.bool false) KR KR)
              refine yStep ha 52 KR ?_; intro l_ ha HK
              refine stepp ha 52 (.bool false) KR KR ?_; intro ax hax; exact HK _ _ _ hax rfl (Below.refl _ _)
            · skip
              intro a wr hn hd HW hs; have ha := hasNil hn hd
              have ha := ha.add (seeE hs 7 (.int .i64 t2284.2.1) KR KR)
              have ha := ha.add (seeF hs 52 16 (.bool false) KR KR)
              exact yo ha KR rfl
            · skip
              intro a wr hn hd HW hs; have ha := hasNil hn hd
              have ha := ha.add (seeE hs 11 (.pointer (some ⟨b2300, 0, none⟩)) KR KR)
              have ha := ha.add (seeF hs 52 16 (.bool false) KR KR)
              exact yo ha KR rfl
            · skip
              intro a wr hn hd HW hs; have ha := hasNil hn hd
              have ha := ha.add (seeF hs 54 18 (undef) KR KR)
              have ha := ha.add (seeF hs 52 16 (.bool false) KR KR)
              exact yo ha KR rfl
            · skip
              intro a wr hn hd HW hs; have ha := hasNil hn hd
              have ha := ha.add (seeF hs 53 17 (undef) KR KR)
              have ha := ha.add (seeF hs 55 19 (undef) KR KR)
              have ha := ha.add (seeF hs 52 16 (.bool false) KR KR)
              exact yo ha KR rfl
            · skip
              intro a wr hn hd HW hs; have ha := hasNil hn hd
              have ha := ha.add (seeF hs 52 16 (.bool false) KR KR)
              have ha := ha.add (seeF hs 56 20 (undef) KR KR)
              refine yStep ha 57 KR ?_; intro l_ ha HK
              refine stepp ha 57 (.bool false) KR KR ?_; intro ax hax; exact HK _ _ _ hax rfl (Below.refl _ _)
            · skip
              intro a wr hn hd HW hs; have ha := hasNil hn hd
              have ha := ha.add (seeF hs 57 21 (.bool false) KR KR)
              refine yStep ha 58 KR ?_; intro l_ ha HK
              refine stepp ha 58 (.bool false) KR KR ?_; intro ax hax; exact HK _ _ _ hax rfl (Below.refl _ _)
            · skip
              intro a wr hn hd HW hs; have ha := hasNil hn hd
              have ha := ha.add (seeE hs 8 (.slice A2286 t2284.2.2.1.length c2287) KR KR)
              have ha := ha.add (seeF hs 58 22 (.bool false) KR KR)
              exact yo ha KR rfl
            · skip
              intro a wr hn hd HW hs; have ha := hasNil hn hd
              have ha := ha.add (seeE hs 11 (.pointer (some ⟨b2300, 0, none⟩)) KR KR)
              have ha := ha.add (seeF hs 58 22 (.bool false) KR KR)
              exact yo ha KR rfl
            · skip
              intro a wr hn hd HW hs; have ha := hasNil hn hd
              have ha := ha.add (seeF hs 60 24 (undef) KR KR)
              have ha := ha.add (seeF hs 58 22 (.bool false) KR KR)
              exact yo ha KR rfl
            · skip
              intro a wr hn hd HW hs; have ha := hasNil hn hd
              have ha := ha.add (seeF hs 59 23 (undef) KR KR)
              have ha := ha.add (seeF hs 61 25 (undef) KR KR)
              have ha := ha.add (seeF hs 58 22 (.bool false) KR KR)
              exact yo ha KR rfl
            · skip
              intro a wr hn hd HW hs; have ha := hasNil hn hd
              have ha := ha.add (seeF hs 58 22 (.bool false) KR KR)
              have ha := ha.add (seeF hs 62 26 (undef) KR KR)
              refine yStep ha 63 KR ?_; intro l_ ha HK
              refine stepp ha 63 (.bool false) KR KR ?_; intro ax hax; exact HK _ _ _ hax rfl (Below.refl _ _)
            · skip
              intro a wr hn hd HW hs; have ha := hasNil hn hd
              have ha := ha.add (seeF hs 63 27 (.bool false) KR KR)
              refine yStep ha 64 KR ?_; intro l_ ha HK
              refine stepp ha 64 (.bool false) KR KR ?_; intro ax hax; exact HK _ _ _ hax rfl (Below.refl _ _)
            · skip
              intro a wr hn hd HW hs; have ha := hasNil hn hd
              have ha := ha.add (seeE hs 9 (.int .i64 t2284.2.2.2.1) KR KR)
              have ha := ha.add (seeF hs 64 28 (.bool false) KR KR)
              exact yo ha KR rfl
            · skip
              intro a wr hn hd HW hs; have ha := hasNil hn hd
              have ha := ha.add (seeE hs 11 (.pointer (some ⟨b2300, 0, none⟩)) KR KR)
              have ha := ha.add (seeF hs 64 28 (.bool false) KR KR)
              exact yo ha KR rfl
            · skip
              intro a wr hn hd HW hs; have ha := hasNil hn hd
              have ha := ha.add (seeF hs 66 30 (undef) KR KR)
              have ha := ha.add (seeF hs 64 28 (.bool false) KR KR)
              exact yo ha KR rfl
            · skip
              intro a wr hn hd HW hs; have ha := hasNil hn hd
              have ha := ha.add (seeF hs 65 29 (undef) KR KR)
              have ha := ha.add (seeF hs 67 31 (undef) KR KR)
              have ha := ha.add (seeF hs 64 28 (.bool false) KR KR)
              exact yo ha KR rfl
            · skip
              intro a wr hn hd HW hs; have ha := hasNil hn hd
              have ha := ha.add (seeF hs 64 28 (.bool false) KR KR)
              have ha := ha.add (seeF hs 68 32 (undef) KR KR)
              refine yStep ha 69 KR ?_; intro l_ ha HK
              refine stepp ha 69 (.bool false) KR KR ?_; intro ax hax; exact HK _ _ _ hax rfl (Below.refl _ _)
            · skip
              intro a wr hn hd HW hs; have ha := hasNil hn hd
              have ha := ha.add (seeF hs 69 33 (.bool false) KR KR)
              refine yStep ha 70 KR ?_; intro l_ ha HK
              refine stepp ha 70 (.bool false) KR KR ?_; intro ax hax; exact HK _ _ _ hax rfl (Below.refl _ _)
            · skip
              intro a wr hn hd HW hs; have ha := hasNil hn hd
              have ha := ha.add (seeE hs 10 (.int .i64 t2284.2.2.2.2) KR KR)
              have ha := ha.add (seeF hs 70 34 (.bool false) KR KR)
              exact yo ha KR rfl
            · skip
              intro a wr hn hd HW hs; have ha := hasNil hn hd
              have ha := ha.add (seeE hs 12 (.int .i64 t2293.2) KR KR)
              have ha := ha.add (seeF hs 70 34 (.bool false) KR KR)
              exact yo ha KR rfl
            · skip
              intro a wr hn hd HW hs; have ha := hasNil hn hd
              have ha := ha.add (seeF hs 71 35 (undef) KR KR)
              have ha := ha.add (seeF hs 72 36 (undef) KR KR)
              have ha := ha.add (seeF hs 70 34 (.bool false) KR KR)
              exact yo ha KR rfl
            · skip
              intro a wr hn hd HW hs; have ha := hasNil hn hd
              have ha := ha.add (seeF hs 70 34 (.bool false) KR KR)
              have ha := ha.add (seeF hs 73 37 (undef) KR KR)
              refine yStep ha 74 KR ?_; intro l_ ha HK
              refine stepp ha 74 (.bool false) KR KR ?_; intro ax hax; exact HK _ _ _ hax rfl (Below.refl _ _)
            · skip
              intro a wr hn hd HW hs; have ha := hasNil hn hd
              have ha := ha.add (seeF hs 74 38 (.bool false) KR KR)
              refine yStep ha 75 KR ?_; intro l_ ha HK
              refine stepp ha 75 (.bool false) KR KR ?_; intro ax hax; exact HK _ _ _ hax rfl (Below.refl _ _)
            · skip
              intro a wr hn hd HW hs; have ha := hasNil hn hd
              have ha := ha.add (seeF hs 75 39 (.bool false) KR KR)
              exact yo ha KR rfl
            · skip
              intro a wr hn hd HW hs; have ha := hasNil hn hd
              have ha := ha.add (seeF hs 75 39 (.bool false) KR KR)
              have ha := ha.add (seeF hs 76 40 (undef) KR KR)
              refine yStep ha 77 KR ?_; intro l_ ha HK
              refine stepp ha 77 (.bool false) KR KR ?_; intro ax hax; exact HK _ _ _ hax rfl (Below.refl _ _)
          · skip
            intro a W2338 ha HW he hf
            replace ha := ha.add (gotF (m := 42) (j := 41) (d := 77) (v := .bool false) hf KR KR KR)
            clear he hf
            refine stepp ha 4 (.bool false) KR KR ?_; clear ha a; intro a ha
            refine endl ?_
            refine thenN (hK2304 _ _ ?_); clear hK2304
            refine wp_ret ?_
            obtain rfl := Option.some.inj h
            exact finv ha _ _ rfl (.tmp (v := .bool false) KR .nil) (.bool false) rfl ⟨rfl, HW.pick [] [] (by decide) (by decide) rfl KR⟩
      · skip
        replace h := ite_neg' h hp2313
        refine regionG 42 KR KR ha HW [.fix (.agg #[.slice A2274 t2272.f0.length c2275, .int .i64 t2272.f1.f0, .string t2272.f1.f1, .int .u32 t2272.f2, .bool t2272.f3]), .fix (.string t2305), .fix (.agg #[.slice A0_0 a0.f0.length c0_0, .int .i64 a0.f1.f0, .string a0.f1.f1, .int .u32 a0.f2, .bool a0.f3]), .fix (.string t2309), .fix (.bool (t2305.toList == t2309.toList)), .fix (.bool (t2305.toList == t2309.toList)), .fix undef, .fix undef, .fix undef, .fix (.bool false), .fix (.bool false), .fix undef, .fix undef, .fix undef, .fix undef, .fix (.bool false), .fix (.bool false), .fix undef, .fix undef, .fix undef, .fix undef, .fix (.bool false), .fix (.bool false), .fix undef, .fix undef, .fix undef, .fix undef, .fix (.bool false), .fix (.bool false), .fix undef, .fix undef, .fix undef, .fix undef, .fix (.bool false), .fix (.bool false), .fix undef, .fix undef, .fix undef, .fix (.bool false), .fix (.bool false), .fix undef, .fix (.bool false)] ?_ ?_
        · skip
          refine ⟨?_, ?_, ?_, ?_, ?_, ?_, ?_, ?_, ?_, ?_, ?_, ?_, ?_, ?_, ?_, ?_, ?_, ?_, ?_, ?_, ?_, ?_, ?_, ?_, ?_, ?_, ?_, ?_, ?_, ?_, ?_, ?_, ?_, ?_, ?_, ?_, ?_, ?_, ?_, ?_, ?_, ?_, trivial⟩
          · skip
            intro a wr hn hd HW hs; have ha := hasNil hn hd
            have ha := ha.add (seeE hs 5 (.pointer (some ⟨b2279, 0, none⟩)) KR KR)
            refine yStep ha 36 KR ?_; intro l_ ha HK
            refine stepl ha 36 (HW.ca (i := 1) (b := b2279) (C := #[.slice A2274 t2272.f0.length c2275, .int .i64 t2272.f1.f0, .string t2272.f1.f1, .int .u32 t2272.f2, .bool t2272.f3]) (T := 27) (fr := (0, 0)) KR) 27 0 (.tmp 5) (.agg #[.slice A2274 t2272.f0.length c2275, .int .i64 t2272.f1.f0, .string t2272.f1.f1, .int .u32 t2272.f2, .bool t2272.f3]) rfl KR KR KR ?_; intro ax hax; exact HK _ _ _ hax rfl (Below.refl _ _)
          · skip
            intro a wr hn hd HW hs; have ha := hasNil hn hd
            have ha := ha.add (seeF hs 36 0 (.agg #[.slice A2274 t2272.f0.length c2275, .int .i64 t2272.f1.f0, .string t2272.f1.f1, .int .u32 t2272.f2, .bool t2272.f3]) KR KR)
            refine yStep ha 37 KR ?_; intro l_ ha HK
            refine stepc ha 37 KR KR (nresv_Report.calls K (⟨t2272.f0, (⟨t2272.f1.f0, t2272.f1.f1⟩ : T_api_Hold), t2272.f2, t2272.f3⟩ : T_api_Table) A2274 c2275 t2305 _ (HW.ca0 hG0) (HW.rdo (i := 2) (q := ⟨44, 2, .slice A2274 t2272.f0.length c2275, t2272.f0.length, encs T_api_Reg.enc t2272.f0⟩) KR) ht2306) ?_; rintro e W2307 ⟨rfl, HX2308⟩
            refine ⟨_, rfl, ?_⟩; intro ax hax; exact HK _ _ _ hax rfl HX2308.below
          · skip
            intro a wr hn hd HW hs; have ha := hasNil hn hd
            have ha := ha.add (seeE hs 2 (.pointer (some ⟨b2250, 0, none⟩)) KR KR)
            refine yStep ha 38 KR ?_; intro l_ ha HK
            refine stepl ha 38 (HW.ca (i := 2) (b := b2250) (C := #[.slice A0_0 a0.f0.length c0_0, .int .i64 a0.f1.f0, .string a0.f1.f1, .int .u32 a0.f2, .bool a0.f3]) (T := 27) (fr := (0, 0)) KR) 27 0 (.tmp 2) (.agg #[.slice A0_0 a0.f0.length c0_0, .int .i64 a0.f1.f0, .string a0.f1.f1, .int .u32 a0.f2, .bool a0.f3]) rfl KR KR KR ?_; intro ax hax; exact HK _ _ _ hax rfl (Below.refl _ _)
          · skip
            intro a wr hn hd HW hs; have ha := hasNil hn hd
            have ha := ha.add (seeF hs 38 2 (.agg #[.slice A0_0 a0.f0.length c0_0, .int .i64 a0.f1.f0, .string a0.f1.f1, .int .u32 a0.f2, .bool a0.f3]) KR KR)
            refine yStep ha 39 KR ?_; intro l_ ha HK
            refine stepc ha 39 KR KR (headgateref27_Report.calls K (⟨a0.f0, (⟨a0.f1.f0, a0.f1.f1⟩ : T_api_Hold), a0.f2, a0.f3⟩ : T_api_Table) A0_0 c0_0 t2309 _ ((HW.rd0 hr0_0)) ht2310) ?_; rintro e W2311 ⟨rfl, HX2312⟩
            refine ⟨_, rfl, ?_⟩; intro ax hax; exact HK _ _ _ hax rfl HX2312.below
          · skip
            intro a wr hn hd HW hs; have ha := hasNil hn hd
            have ha := ha.add (seeF hs 37 1 (.string t2305) KR KR)
            have ha := ha.add (seeF hs 39 3 (.string t2309) KR KR)
            refine yStep ha 40 KR ?_; intro l_ ha HK
            refine stepp ha 40 (.bool (t2305.toList == t2309.toList)) KR KR ?_; intro ax hax; exact HK _ _ _ hax rfl (Below.refl _ _)
          · skip
            intro a wr hn hd HW hs; have ha := hasNil hn hd
            have ha := ha.add (seeF hs 40 4 (.bool (t2305.toList == t2309.toList)) KR KR)
            refine yStep ha 41 KR ?_; intro l_ ha HK
            refine stepp ha 41 (.bool (t2305.toList == t2309.toList)) KR KR ?_; intro ax hax; exact HK _ _ _ hax rfl (Below.refl _ _)
          · skip
            intro a wr hn hd HW hs; have ha := hasNil hn hd
            have ha := ha.add (seeE hs 5 (.pointer (some ⟨b2279, 0, none⟩)) KR KR)
            have ha := ha.add (seeF hs 41 5 (.bool (t2305.toList == t2309.toList)) KR KR)
            have ha := ha.bool 41 KR (str_eq_f hp2313)
            exact yo ha KR rfl
          · skip
            intro a wr hn hd HW hs; have ha := hasNil hn hd
            have ha := ha.add (seeE hs 2 (.pointer (some ⟨b2250, 0, none⟩)) KR KR)
            have ha := ha.add (seeF hs 41 5 (.bool (t2305.toList == t2309.toList)) KR KR)
            have ha := ha.bool 41 KR (str_eq_f hp2313)
            exact yo ha KR rfl
          · skip
            intro a wr hn hd HW hs; have ha := hasNil hn hd
            have ha := ha.add (seeF hs 42 6 (undef) KR KR)
            have ha := ha.add (seeF hs 43 7 (undef) KR KR)
            have ha := ha.add (seeF hs 41 5 (.bool (t2305.toList == t2309.toList)) KR KR)
            have ha := ha.bool 41 KR (str_eq_f hp2313)
            exact yo ha KR rfl
          · skip
            intro a wr hn hd HW hs; have ha := hasNil hn hd
            have ha := ha.add (seeF hs 41 5 (.bool (t2305.toList == t2309.toList)) KR KR)
            have ha := ha.bool 41 KR (str_eq_f hp2313)
            have ha := ha.add (seeF hs 44 8 (undef) KR KR)
            refine yStep ha 45 KR ?_; intro l_ ha HK
            refine stepp ha 45 (.bool false) KR KR ?_; intro ax hax; exact HK _ _ _ hax rfl (Below.refl _ _)
          · skip
            intro a wr hn hd HW hs; have ha := hasNil hn hd
            have ha := ha.add (seeF hs 45 9 (.bool false) KR KR)
            refine yStep ha 46 KR ?_; intro l_ ha HK
            refine stepp ha 46 (.bool false) KR KR ?_; intro ax hax; exact HK _ _ _ hax rfl (Below.refl _ _)
          · skip
            intro a wr hn hd HW hs; have ha := hasNil hn hd
            have ha := ha.add (seeE hs 6 (.int .u32 t2284.1) KR KR)
            have ha := ha.add (seeF hs 46 10 (.bool false) KR KR)
            exact yo ha KR rfl
          · skip
            intro a wr hn hd HW hs; have ha := hasNil hn hd
            have ha := ha.add (seeE hs 11 (.pointer (some ⟨b2300, 0, none⟩)) KR KR)
            have ha := ha.add (seeF hs 46 10 (.bool false) KR KR)
            exact yo ha KR rfl
          · skip
            intro a wr hn hd HW hs; have ha := hasNil hn hd
            have ha := ha.add (seeF hs 48 12 (undef) KR KR)
            have ha := ha.add (seeF hs 46 10 (.bool false) KR KR)
            exact yo ha KR rfl
          · skip
            intro a wr hn hd HW hs; have ha := hasNil hn hd
            have ha := ha.add (seeF hs 47 11 (undef) KR KR)
            have ha := ha.add (seeF hs 49 13 (undef) KR KR)
            have ha := ha.add (seeF hs 46 10 (.bool false) KR KR)
            exact yo ha KR rfl
          · skip
            intro a wr hn hd HW hs; have ha := hasNil hn hd
            have ha := ha.add (seeF hs 46 10 (.bool false) KR KR)
            have ha := ha.add (seeF hs 50 14 (undef) KR KR)
            refine yStep ha 51 KR ?_; intro l_ ha HK
            refine stepp ha 51 (.bool false) KR KR ?_; intro ax hax; exact HK _ _ _ hax rfl (Below.refl _ _)
          · skip
            intro a wr hn hd HW hs; have ha := hasNil hn hd
            have ha := ha.add (seeF hs 51 15 (.bool false) KR KR)
            refine yStep ha 52 KR ?_; intro l_ ha HK
            refine stepp ha 52 (.bool false) KR KR ?_; intro ax hax; exact HK _ _ _ hax rfl (Below.refl _ _)
          · skip
            intro a wr hn hd HW hs; have ha := hasNil hn hd
            have ha := ha.add (seeE hs 7 (.int .i64 t2284.2.1) KR KR)
            have ha := ha.add (seeF hs 52 16 (.bool false) KR KR)
            exact yo ha KR rfl
          · skip
            intro a wr hn hd HW hs; have ha := hasNil hn hd
            have ha := ha.add (seeE hs 11 (.pointer (some ⟨b2300, 0, none⟩)) KR KR)
            have ha := ha.add (seeF hs 52 16 (.bool false) KR KR)
            exact yo ha KR rfl
          · skip
            intro a wr hn hd HW hs; have ha := hasNil hn hd
            have ha := ha.add (seeF hs 54 18 (undef) KR KR)
            have ha := ha.add (seeF hs 52 16 (.bool false) KR KR)
            exact yo ha KR rfl
          · skip
            intro a wr hn hd HW hs; have ha := hasNil hn hd
            have ha := ha.add (seeF hs 53 17 (undef) KR KR)
            have ha := ha.add (seeF hs 55 19 (undef) KR KR)
            have ha := ha.add (seeF hs 52 16 (.bool false) KR KR)
            exact yo ha KR rfl
          · skip
            intro a wr hn hd HW hs; have ha := hasNil hn hd
            have ha := ha.add (seeF hs 52 16 (.bool false) KR KR)
            have ha := ha.add (seeF hs 56 20 (undef) KR KR)
            refine yStep ha 57 KR ?_; intro l_ ha HK
            refine stepp ha 57 (.bool false) KR KR ?_; intro ax hax; exact HK _ _ _ hax rfl (Below.refl _ _)
          · skip
            intro a wr hn hd HW hs; have ha := hasNil hn hd
            have ha := ha.add (seeF hs 57 21 (.bool false) KR KR)
            refine yStep ha 58 KR ?_; intro l_ ha HK
            refine stepp ha 58 (.bool false) KR KR ?_; intro ax hax; exact HK _ _ _ hax rfl (Below.refl _ _)
          · skip
            intro a wr hn hd HW hs; have ha := hasNil hn hd
            have ha := ha.add (seeE hs 8 (.slice A2286 t2284.2.2.1.length c2287) KR KR)
            have ha := ha.add (seeF hs 58 22 (.bool false) KR KR)
            exact yo ha KR rfl
          · skip
            intro a wr hn hd HW hs; have ha := hasNil hn hd
            have ha := ha.add (seeE hs 11 (.pointer (some ⟨b2300, 0, none⟩)) KR KR)
            have ha := ha.add (seeF hs 58 22 (.bool false) KR KR)
            exact yo ha KR rfl
          · skip
            intro a wr hn hd HW hs; have ha := hasNil hn hd
            have ha := ha.add (seeF hs 60 24 (undef) KR KR)
            have ha := ha.add (seeF hs 58 22 (.bool false) KR KR)
            exact yo ha KR rfl
          · skip
            intro a wr hn hd HW hs; have ha := hasNil hn hd
            have ha := ha.add (seeF hs 59 23 (undef) KR KR)
            have ha := ha.add (seeF hs 61 25 (undef) KR KR)
            have ha := ha.add (seeF hs 58 22 (.bool false) KR KR)
            exact yo ha KR rfl
          · skip
            intro a wr hn hd HW hs; have ha := hasNil hn hd
            have ha := ha.add (seeF hs 58 22 (.bool false) KR KR)
            have ha := ha.add (seeF hs 62 26 (undef) KR KR)
            refine yStep ha 63 KR ?_; intro l_ ha HK
            refine stepp ha 63 (.bool false) KR KR ?_; intro ax hax; exact HK _ _ _ hax rfl (Below.refl _ _)
          · skip
            intro a wr hn hd HW hs; have ha := hasNil hn hd
            have ha := ha.add (seeF hs 63 27 (.bool false) KR KR)
            refine yStep ha 64 KR ?_; intro l_ ha HK
            refine stepp ha 64 (.bool false) KR KR ?_; intro ax hax; exact HK _ _ _ hax rfl (Below.refl _ _)
          · skip
            intro a wr hn hd HW hs; have ha := hasNil hn hd
            have ha := ha.add (seeE hs 9 (.int .i64 t2284.2.2.2.1) KR KR)
            have ha := ha.add (seeF hs 64 28 (.bool false) KR KR)
            exact yo ha KR rfl
          · skip
            intro a wr hn hd HW hs; have ha := hasNil hn hd
            have ha := ha.add (seeE hs 11 (.pointer (some ⟨b2300, 0, none⟩)) KR KR)
            have ha := ha.add (seeF hs 64 28 (.bool false) KR KR)
            exact yo ha KR rfl
          · skip
            intro a wr hn hd HW hs; have ha := hasNil hn hd
            have ha := ha.add (seeF hs 66 30 (undef) KR KR)
            have ha := ha.add (seeF hs 64 28 (.bool false) KR KR)
            exact yo ha KR rfl
          · skip
            intro a wr hn hd HW hs; have ha := hasNil hn hd
            have ha := ha.add (seeF hs 65 29 (undef) KR KR)
            have ha := ha.add (seeF hs 67 31 (undef) KR KR)
            have ha := ha.add (seeF hs 64 28 (.bool false) KR KR)
            exact yo ha KR rfl
          · skip
            intro a wr hn hd HW hs; have ha := hasNil hn hd
            have ha := ha.add (seeF hs 64 28 (.bool false) KR KR)
            have ha := ha.add (seeF hs 68 32 (undef) KR KR)
            refine yStep ha 69 KR ?_; intro l_ ha HK
            refine stepp ha 69 (.bool false) KR KR ?_; intro ax hax; exact HK _ _ _ hax rfl (Below.refl _ _)
          · skip
            intro a wr hn hd HW hs; have ha := hasNil hn hd
            have ha := ha.add (seeF hs 69 33 (.bool false) KR KR)
            refine yStep ha 70 KR ?_; intro l_ ha HK
            refine stepp ha 70 (.bool false) KR KR ?_; intro ax hax; exact HK _ _ _ hax rfl (Below.refl _ _)
          · skip
            intro a wr hn hd HW hs; have ha := hasNil hn hd
            have ha := ha.add (seeE hs 10 (.int .i64 t2284.2.2.2.2) KR KR)
            have ha := ha.add (seeF hs 70 34 (.bool false) KR KR)
            exact yo ha KR rfl
          · skip
            intro a wr hn hd HW hs; have ha := hasNil hn hd
            have ha := ha.add (seeE hs 12 (.int .i64 t2293.2) KR KR)
            have ha := ha.add (seeF hs 70 34 (.bool false) KR KR)
            exact yo ha KR rfl
          · skip
            intro a wr hn hd HW hs; have ha := hasNil hn hd
            have ha := ha.add (seeF hs 71 35 (undef) KR KR)
            have ha := ha.add (seeF hs 72 36 (undef) KR KR)
            have ha := ha.add (seeF hs 70 34 (.bool false) KR KR)
            exact yo ha KR rfl
          · skip
            intro a wr hn hd HW hs; have ha := hasNil hn hd
            have ha := ha.add (seeF hs 70 34 (.bool false) KR KR)
            have ha := ha.add (seeF hs 73 37 (undef) KR KR)
            refine yStep ha 74 KR ?_; intro l_ ha HK
            refine stepp ha 74 (.bool false) KR KR ?_; intro ax hax; exact HK _ _ _ hax rfl (Below.refl _ _)
          · skip
            intro a wr hn hd HW hs; have ha := hasNil hn hd
            have ha := ha.add (seeF hs 74 38 (.bool false) KR KR)
            refine yStep ha 75 KR ?_; intro l_ ha HK
            refine stepp ha 75 (.bool false) KR KR ?_; intro ax hax; exact HK _ _ _ hax rfl (Below.refl _ _)
          · skip
            intro a wr hn hd HW hs; have ha := hasNil hn hd
            have ha := ha.add (seeF hs 75 39 (.bool false) KR KR)
            exact yo ha KR rfl
          · skip
            intro a wr hn hd HW hs; have ha := hasNil hn hd
            have ha := ha.add (seeF hs 75 39 (.bool false) KR KR)
            have ha := ha.add (seeF hs 76 40 (undef) KR KR)
            refine yStep ha 77 KR ?_; intro l_ ha HK
            refine stepp ha 77 (.bool false) KR KR ?_; intro ax hax; exact HK _ _ _ hax rfl (Below.refl _ _)
        · skip
          intro a W2339 ha HW he hf
          replace ha := ha.add (gotF (m := 42) (j := 41) (d := 77) (v := .bool false) hf KR KR KR)
          clear he hf
          refine stepp ha 4 (.bool false) KR KR ?_; clear ha a; intro a ha
          refine endl ?_
          refine thenN (hK2304 _ _ ?_); clear hK2304
          refine wp_ret ?_
          obtain rfl := Option.some.inj h
          exact finv ha _ _ rfl (.tmp (v := .bool false) KR .nil) (.bool false) rfl ⟨rfl, HW.pick [] [] (by decide) (by decide) rfl KR⟩
end Go.Proofs.YthjjbkgifelooaaDoor.F
