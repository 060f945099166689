/- headgate/frame.Writes, headgate/frame.Split, headgate/headgateref05.Same: plain functions, and that the calls come to what they say. No condition. -/
import Derived.Test.YtdcojinnjpihaaaDoorFT
import Derived.Test.YtdcojinnjpihaaaDoorXWB
import Derived.Test.YtdcojinnjpihaaaDoorF45
namespace Go.Proofs.YtdcojinnjpihaaaDoor.F
open Go Go.RowKit Go.Proofs.YtdcojinnjpihaaaDoor.X
set_option linter.unusedVariables false
set_option linter.unusedSimpArgs false
/-! ### headgate/frame.Writes: function 16 -/
def frame_Writes.b0 (K : Nat) (a0 : List T_api_Write) (again2391 : Int → ByteArray → Option (ByteArray × Int)) (x2392 : Int) (x2394 : ByteArray) : Option (ByteArray × Int) :=
  if x2392 < (a0.length : Int) then (asrt (0 ≤ x2392) (if ((rdL T_api_Write.z a0 x2392).f0) < 0 then (some ((⟨#[]⟩ : ByteArray), 40)) else (if ((rdL T_api_Write.z a0 x2392).f0) ≥ 8192 then (some ((⟨#[]⟩ : ByteArray), 40)) else (if (((rdL T_api_Write.z a0 x2392).f1).size : Int) = 512 then ((fields_PutBig.f K (IntKind.wrap .u64 ((rdL T_api_Write.z a0 x2392).f0)) 4).bind fun t2431 => (asrt (x2394.size + t2431.size ≤ 140737488355328) (asrt ((x2394 ++ t2431).size + ((rdL T_api_Write.z a0 x2392).f1).size ≤ 140737488355328) (again2391 (IntKind.wrap .i64 (x2392 + 1)) ((x2394 ++ t2431) ++ ((rdL T_api_Write.z a0 x2392).f1)))))) else (some ((⟨#[]⟩ : ByteArray), 40)))))) else (some (x2394, 0))
def frame_Writes.l0 (K : Nat) (a0 : List T_api_Write) : Nat → Int → ByteArray → Option (ByteArray × Int)
  | 0, _, _ => none
  | k_ + 1, x2392, x2394 => frame_Writes.b0 K a0 (frame_Writes.l0 K a0 k_) x2392 x2394
def frame_Writes.f (K : Nat) (a0 : List T_api_Write) : Option (ByteArray × Int) :=
  if (a0.length : Int) > 80 then (some ((⟨#[]⟩ : ByteArray), 3)) else ((fields_PutBig.f K (IntKind.wrap .u64 (a0.length : Int)) 4).bind fun t2280 => (asrt ((⟨#[]⟩ : ByteArray).size + t2280.size ≤ 140737488355328) (frame_Writes.l0 K a0 K 0 ((⟨#[]⟩ : ByteArray) ++ t2280))))
set_option maxRecDepth 100000 in
set_option maxHeartbeats 4000000 in
theorem frame_Writes.calls (K : Nat) (a0 : List T_api_Write) (A0_0 : Option Addr) (c0_0 : Nat) (r : ByteArray × Int) (w : World) (hr0_0 : Rd 2 w (.slice A0_0 a0.length c0_0) a0.length (encs T_api_Write.enc a0)) (h : frame_Writes.f K a0 = some r) :
    Calls Tryd.prog 16 #[.slice A0_0 a0.length c0_0] w (fun e W' => e = .returned (.tuple #[.string r.1, .int .i64 r.2]) ∧ Wd w W' [] [] ) := by
  refine sxstart (n := 45) (l := [(0, .slice A0_0 a0.length c0_0)]) Tryd.func16 rfl rfl (Nat.le_of_ble_eq_true KR) (subsA_cons rfl (subsA_nil _)) ?_
  intro a ha
  have HW := Wd.refl w
  unfold frame_Writes.f at h
  refine wp_seq_k (fun K2265 hK2266 => ?_)
  refine wp_region_lit ?_
  refine stepp ha 2 (.string (⟨#[]⟩ : ByteArray)) KR KR ?_; clear ha a; intro a ha
  refine stepp ha 3 (.int .i64 0) KR KR ?_; clear ha a; intro a ha
  refine endl ?_
  refine thenN (hK2266 _ _ ?_); clear hK2266
  refine wp_seq_k (fun K2267 hK2268 => ?_)
  refine wp_seq_k (fun K2269 hK2270 => ?_)
  refine wp_region_lit ?_
  refine stepp ha 7 (.slice A0_0 a0.length c0_0) KR KR ?_; clear ha a; intro a ha
  refine stepp ha 8 (.int .i64 (a0.length : Int)) KR KR ?_; clear ha a; intro a ha
  refine stepp ha 9 (.bool (decide ((a0.length : Int) > 80))) KR KR ?_; clear ha a; intro a ha
  refine endl ?_
  refine thenN (hK2270 _ _ ?_); clear hK2270
  by_cases hp2271 : (a0.length : Int) > 80
  · skip
    replace h := ite_pos' h hp2271
    refine condT ha KR KR (t := decide ((a0.length : Int) > 80)) (decide_eq_true hp2271) ?_
    refine wp_seq_k (fun K2272 hK2273 => ?_)
    refine wp_region_lit ?_
    refine stepp ha 2 (.string (⟨#[]⟩ : ByteArray)) KR KR ?_; clear ha a; intro a ha
    refine stepp ha 3 (.int .i64 3) KR KR ?_; clear ha a; intro a ha
    refine endl ?_
    refine thenN (hK2273 _ _ ?_); clear hK2273
    refine wp_ret ?_
    refine thenR ?_
    obtain rfl := Option.some.inj h
    exact finv ha _ _ rfl (.tmp (v := .string (⟨#[]⟩ : ByteArray)) KR (.tmp (v := .int .i64 3) KR .nil)) (.tuple #[.string (⟨#[]⟩ : ByteArray), .int .i64 3]) rfl ⟨rfl, HW.pick [] [] (by decide) (by decide) rfl KR⟩
  · skip
    replace h := ite_neg' h hp2271
    refine condF ha KR KR (t := decide ((a0.length : Int) > 80)) (decide_eq_false hp2271) ?_
    refine wp_skip ?_
    refine thenN (hK2268 _ _ ?_); clear hK2268
    refine wp_seq_k (fun K2274 hK2275 => ?_)
    refine wp_region_lit ?_
    refine stepnew ha HW 4 #[.pointer none, .slice none 0 0] 68 KR KR ?_; clear ha HW a; intro b2276 a W2277 HW ha
    refine endl ?_
    refine thenN (hK2275 _ _ ?_); clear hK2275
    refine wp_seq_k (fun K2278 hK2279 => ?_)
    refine wp_region_lit ?_
    refine stepp ha 10 (.slice A0_0 a0.length c0_0) KR KR ?_; clear ha a; intro a ha
    refine stepp ha 11 (.int .i64 (a0.length : Int)) KR KR ?_; clear ha a; intro a ha
    refine stepp ha 12 (.int .u64 (IntKind.wrap .u64 (a0.length : Int))) KR KR ?_; clear ha a; intro a ha
    obtain ⟨t2280, ht2281, h_⟩ := bind_some' h; clear h; have h := h_; clear h_
    refine stepc ha 13 KR KR (fields_PutBig.calls K (IntKind.wrap .u64 (a0.length : Int)) 4 t2280 _ ht2281) ?_; clear ha a; rintro e W2282 ⟨rfl, HX2283⟩
    refine ⟨_, rfl, ?_⟩; intro a ha; replace HW := HW.callw HX2283; clear HX2283
    replace HW := HW.nilo 5 1
    replace HW : Wd w W2282 [(b2276, .cells #[.pointer none, .slice none (⟨#[]⟩ : ByteArray).size 0] 68 (0, 0))] [⟨5, 1, .slice none (⟨#[]⟩ : ByteArray).size 0, (⟨#[]⟩ : ByteArray).size, byteCells (⟨#[]⟩ : ByteArray)⟩] := HW
    obtain ⟨hA2287, h_⟩ := asrt_some h; clear h; have h := h_; clear h_
    refine stepc ha 14 KR KR (wb_write HW (i := 0) (j := 0) (b := b2276) (p := .pointer none) (v := .slice none (⟨#[]⟩ : ByteArray).size 0) (s0 := (⟨#[]⟩ : ByteArray)) KR (.inl rfl) KR t2280 (show ((⟨#[]⟩ : ByteArray)).size + (t2280).size ≤ 140737488355328 from hA2287)) ?_; clear ha a; rintro e W2285 ⟨A2288, c2289, rfl, HX2286⟩
    refine ⟨_, rfl, ?_⟩; intro a ha; replace HW : Wd w W2285 [(b2276, .cells #[.pointer (some ⟨b2276, 0, none⟩), .slice A2288 ((⟨#[]⟩ : ByteArray) ++ t2280).size c2289] 68 (0, 0))] [⟨5, 1, .slice A2288 ((⟨#[]⟩ : ByteArray) ++ t2280).size c2289, ((⟨#[]⟩ : ByteArray) ++ t2280).size, byteCells ((⟨#[]⟩ : ByteArray) ++ t2280)⟩] := HX2286; clear HX2286
    refine endl ?_
    refine thenN (hK2279 _ _ ?_); clear hK2279
    refine wp_seq_k (fun K2290 hK2291 => ?_)
    refine wp_seq_k (fun K2292 hK2293 => ?_)
    refine wp_region_lit ?_
    refine stepp ha 15 (.slice A0_0 a0.length c0_0) KR KR ?_; clear ha a; intro a ha
    refine stepp ha 16 (.int .i64 (a0.length : Int)) KR KR ?_; clear ha a; intro a ha
    refine stepp ha 17 (.int .i64 0) KR KR ?_; clear ha a; intro a ha
    refine endl ?_
    refine thenN (hK2293 _ _ ?_); clear hK2293
    refine wp_block ?_
    refine loopk (fun k => fun a W2397 => ∃ (x2392 : Int), ∃ (x2394 : ByteArray), ∃ A2395, ∃ c2396, frame_Writes.l0 K a0 k x2392 x2394 = some r ∧ Has 45 [(4, .pointer (some ⟨b2276, 0, none⟩)), (15, .slice A0_0 a0.length c0_0), (16, .int .i64 (a0.length : Int)), (17, .int .i64 x2392)] a ∧ Wd w W2397 [(b2276, .cells #[.pointer (some ⟨b2276, 0, none⟩), .slice A2395 x2394.size c2396] 68 (0, 0))] [⟨5, 1, .slice A2395 x2394.size c2396, x2394.size, byteCells x2394⟩]) K ?_ ?_
    · skip
      exact ⟨0, (⟨#[]⟩ : ByteArray) ++ t2280, A2288, c2289, h, ha.sub (subs_cons KR (subs_cons KR (subs_cons KR (subs_cons KR (subs_nil _))))), HW.pick [0] [0] (by decide) (by decide) KR KR⟩
    · skip
      intro k a W2397 hI
      obtain ⟨x2392, x2394, A2395, c2396, h, ha, HW⟩ := hI
      cases k with
      | zero => exact (none_some (show none = some r from h)).elim
      | succ k2398 =>
        replace h : frame_Writes.b0 K a0 (frame_Writes.l0 K a0 k2398) x2392 x2394 = some r := h
        obtain ⟨again2391, hag2399⟩ : ∃ g_, g_ = frame_Writes.l0 K a0 k2398 := ⟨_, rfl⟩
        rw [← hag2399] at h
        unfold frame_Writes.b0 at h
        refine wp_seq_k (fun K2400 hK2401 => ?_)
        refine wp_region_lit ?_
        refine stepp ha 18 (.bool (decide (x2392 < (a0.length : Int)))) KR KR ?_; clear ha a; intro a ha
        refine endl ?_
        refine thenN (hK2401 _ _ ?_); clear hK2401
        refine wp_seq_k (fun K2402 hK2403 => ?_)
        by_cases hp2404 : x2392 < (a0.length : Int)
        · skip
          replace h := ite_pos' h hp2404
          refine condT ha KR KR (t := decide (x2392 < (a0.length : Int))) (decide_eq_true hp2404) ?_
          refine wp_skip ?_
          refine thenN (hK2403 _ _ ?_); clear hK2403
          refine wp_seq_k (fun K2405 hK2406 => ?_)
          refine wp_block ?_
          refine wp_seq_k (fun K2407 hK2408 => ?_)
          refine wp_region_lit ?_
          obtain ⟨hA2409, h_⟩ := asrt_some h; clear h; have h := h_; clear h_
          refine stepie T_api_Write.enc T_api_Write.z ha 19 (fun _ => rfl) (v := .slice A0_0 a0.length c0_0) (xs := a0) ((HW.rd0 hr0_0)) 44 46 (.tmp 15) (.tmp 17) .i64 x2392 rfl KR KR KR KR hA2409 (show (x2392 : Int) < ((a0).length : Int) from hp2404) KR ?_; clear ha a; intro b2410 off2411 a hC2412 ha
          refine stepl ha 20 hC2412 46 0 (.tmp 19) (.agg #[.int .i64 ((rdL T_api_Write.z a0 x2392).f0), .string ((rdL T_api_Write.z a0 x2392).f1)]) rfl KR KR KR ?_; clear ha a; intro a ha
          refine stepnew ha HW 6 #[.int .i64 0, .string (⟨#[]⟩ : ByteArray)] 46 KR KR ?_; clear ha HW a; intro b2413 a W2414 HW ha
          refine stepst ha HW 0 (b := b2413) (C := #[.int .i64 0, .string (⟨#[]⟩ : ByteArray)]) (T := 46) KR 46 0 (.tmp 6) (.tmp 20) (.agg #[.int .i64 ((rdL T_api_Write.z a0 x2392).f0), .string ((rdL T_api_Write.z a0 x2392).f1)]) #[.int .i64 ((rdL T_api_Write.z a0 x2392).f0), .string ((rdL T_api_Write.z a0 x2392).f1)] rfl KR KR KR KR KR KR KR ?_; clear ha HW a; intro a W2415 HW ha
          refine endl ?_
          refine thenN (hK2408 _ _ ?_); clear hK2408
          refine wp_seq_k (fun K2416 hK2417 => ?_)
          refine wp_seq_k (fun K2418 hK2419 => ?_)
          refine wp_region_lit ?_
          refine stepp ha 21 (.pointer (some ⟨b2413, 0, none⟩)) KR KR ?_; clear ha a; intro a ha
          refine stepl ha 22 (HW.ca (i := 0) (b := b2413) (C := #[.int .i64 ((rdL T_api_Write.z a0 x2392).f0), .string ((rdL T_api_Write.z a0 x2392).f1)]) (T := 46) (fr := (0, 0)) KR) 3 0 (.tmp 21) (.int .i64 ((rdL T_api_Write.z a0 x2392).f0)) rfl KR KR KR ?_; clear ha a; intro a ha
          refine stepp ha 23 (.bool (decide (((rdL T_api_Write.z a0 x2392).f0) < 0))) KR KR ?_; clear ha a; intro a ha
          refine stepp ha 24 (.bool (decide (((rdL T_api_Write.z a0 x2392).f0) < 0))) KR KR ?_; clear ha a; intro a ha
          by_cases hp2420 : ((rdL T_api_Write.z a0 x2392).f0) < 0
          · skip
            replace h := ite_pos' h hp2420
            replace ha := ha.bool 24 KR (decide_eq_true hp2420)
            refine stepo ha 25 KR ?_; clear ha a; intro a ha
            refine stepo ha 26 KR ?_; clear ha a; intro a ha
            refine stepo ha 27 KR ?_; clear ha a; intro a ha
            refine stepp ha 28 (.bool true) KR KR ?_; clear ha a; intro a ha
            refine stepp ha 29 (.bool true) KR KR ?_; clear ha a; intro a ha
            refine stepo ha 30 KR ?_; clear ha a; intro a ha
            refine stepo ha 31 KR ?_; clear ha a; intro a ha
            refine stepo ha 32 KR ?_; clear ha a; intro a ha
            refine stepo ha 33 KR ?_; clear ha a; intro a ha
            refine stepp ha 34 (.bool true) KR KR ?_; clear ha a; intro a ha
            refine endl ?_
            refine thenN (hK2419 _ _ ?_); clear hK2419
            refine condT ha KR KR (t := true) (rfl) ?_
            refine wp_seq_k (fun K2422 hK2423 => ?_)
            refine wp_region_lit ?_
            refine stepp ha 2 (.string (⟨#[]⟩ : ByteArray)) KR KR ?_; clear ha a; intro a ha
            refine stepp ha 3 (.int .i64 40) KR KR ?_; clear ha a; intro a ha
            refine endl ?_
            refine thenN (hK2423 _ _ ?_); clear hK2423
            refine wp_ret ?_
            refine thenR ?_
            refine blkR ?_
            refine thenR ?_
            refine thenR ?_
            refine blkR ?_
            refine thenR ?_
            obtain rfl := Option.some.inj h
            exact finv ha _ _ rfl (.tmp (v := .string (⟨#[]⟩ : ByteArray)) KR (.tmp (v := .int .i64 40) KR .nil)) (.tuple #[.string (⟨#[]⟩ : ByteArray), .int .i64 40]) rfl ⟨rfl, HW.pick [] [] (by decide) (by decide) rfl KR⟩
          · skip
            replace h := ite_neg' h hp2420
            replace ha := ha.bool 24 KR (decide_eq_false hp2420)
            refine stepp ha 25 (.pointer (some ⟨b2413, 0, none⟩)) KR KR ?_; clear ha a; intro a ha
            refine stepl ha 26 (HW.ca (i := 0) (b := b2413) (C := #[.int .i64 ((rdL T_api_Write.z a0 x2392).f0), .string ((rdL T_api_Write.z a0 x2392).f1)]) (T := 46) (fr := (0, 0)) KR) 3 0 (.tmp 25) (.int .i64 ((rdL T_api_Write.z a0 x2392).f0)) rfl KR KR KR ?_; clear ha a; intro a ha
            refine stepp ha 27 (.bool (decide (((rdL T_api_Write.z a0 x2392).f0) ≥ 8192))) KR KR ?_; clear ha a; intro a ha
            refine stepp ha 28 (.bool (decide (((rdL T_api_Write.z a0 x2392).f0) ≥ 8192))) KR KR ?_; clear ha a; intro a ha
            refine stepp ha 29 (.bool (decide (((rdL T_api_Write.z a0 x2392).f0) ≥ 8192))) KR KR ?_; clear ha a; intro a ha
            by_cases hp2421 : ((rdL T_api_Write.z a0 x2392).f0) ≥ 8192
            · skip
              replace h := ite_pos' h hp2421
              replace ha := ha.bool 29 KR (decide_eq_true hp2421)
              refine stepo ha 30 KR ?_; clear ha a; intro a ha
              refine stepo ha 31 KR ?_; clear ha a; intro a ha
              refine stepo ha 32 KR ?_; clear ha a; intro a ha
              refine stepo ha 33 KR ?_; clear ha a; intro a ha
              refine stepp ha 34 (.bool true) KR KR ?_; clear ha a; intro a ha
              refine endl ?_
              refine thenN (hK2419 _ _ ?_); clear hK2419
              refine condT ha KR KR (t := true) (rfl) ?_
              refine wp_seq_k (fun K2424 hK2425 => ?_)
              refine wp_region_lit ?_
              refine stepp ha 2 (.string (⟨#[]⟩ : ByteArray)) KR KR ?_; clear ha a; intro a ha
              refine stepp ha 3 (.int .i64 40) KR KR ?_; clear ha a; intro a ha
              refine endl ?_
              refine thenN (hK2425 _ _ ?_); clear hK2425
              refine wp_ret ?_
              refine thenR ?_
              refine blkR ?_
              refine thenR ?_
              refine thenR ?_
              refine blkR ?_
              refine thenR ?_
              obtain rfl := Option.some.inj h
              exact finv ha _ _ rfl (.tmp (v := .string (⟨#[]⟩ : ByteArray)) KR (.tmp (v := .int .i64 40) KR .nil)) (.tuple #[.string (⟨#[]⟩ : ByteArray), .int .i64 40]) rfl ⟨rfl, HW.pick [] [] (by decide) (by decide) rfl KR⟩
            · skip
              replace h := ite_neg' h hp2421
              replace ha := ha.bool 29 KR (decide_eq_false hp2421)
              refine stepp ha 30 (.pointer (some ⟨b2413, 1, none⟩)) KR KR ?_; clear ha a; intro a ha
              refine stepl ha 31 (HW.ca (i := 0) (b := b2413) (C := #[.int .i64 ((rdL T_api_Write.z a0 x2392).f0), .string ((rdL T_api_Write.z a0 x2392).f1)]) (T := 46) (fr := (0, 0)) KR) 9 1 (.tmp 30) (.string ((rdL T_api_Write.z a0 x2392).f1)) rfl KR KR KR ?_; clear ha a; intro a ha
              refine stepp ha 32 (.int .i64 (((rdL T_api_Write.z a0 x2392).f1).size : Int)) KR KR ?_; clear ha a; intro a ha
              refine stepp ha 33 (.bool ((((rdL T_api_Write.z a0 x2392).f1).size : Int) != 512)) KR KR ?_; clear ha a; intro a ha
              refine stepp ha 34 (.bool ((((rdL T_api_Write.z a0 x2392).f1).size : Int) != 512)) KR KR ?_; clear ha a; intro a ha
              refine endl ?_
              refine thenN (hK2419 _ _ ?_); clear hK2419
              by_cases hp2426 : (((rdL T_api_Write.z a0 x2392).f1).size : Int) = 512
              · skip
                replace h := ite_pos' h hp2426
                refine condF ha KR KR (t := ((((rdL T_api_Write.z a0 x2392).f1).size : Int) != 512)) (ineq_f hp2426) ?_
                refine wp_skip ?_
                refine thenN (hK2417 _ _ ?_); clear hK2417
                refine wp_seq_k (fun K2429 hK2430 => ?_)
                refine wp_region_lit ?_
                refine stepp ha 35 (.pointer (some ⟨b2413, 0, none⟩)) KR KR ?_; clear ha a; intro a ha
                refine stepl ha 36 (HW.ca (i := 0) (b := b2413) (C := #[.int .i64 ((rdL T_api_Write.z a0 x2392).f0), .string ((rdL T_api_Write.z a0 x2392).f1)]) (T := 46) (fr := (0, 0)) KR) 3 0 (.tmp 35) (.int .i64 ((rdL T_api_Write.z a0 x2392).f0)) rfl KR KR KR ?_; clear ha a; intro a ha
                refine stepp ha 37 (.int .u64 (IntKind.wrap .u64 ((rdL T_api_Write.z a0 x2392).f0))) KR KR ?_; clear ha a; intro a ha
                obtain ⟨t2431, ht2432, h_⟩ := bind_some' h; clear h; have h := h_; clear h_
                refine stepc ha 38 KR KR (fields_PutBig.calls K (IntKind.wrap .u64 ((rdL T_api_Write.z a0 x2392).f0)) 4 t2431 _ ht2432) ?_; clear ha a; rintro e W2433 ⟨rfl, HX2434⟩
                refine ⟨_, rfl, ?_⟩; intro a ha; replace HW := HW.callw HX2434; clear HX2434
                obtain ⟨hA2437, h_⟩ := asrt_some h; clear h; have h := h_; clear h_
                refine stepc ha 39 KR KR (wb_write HW (i := 1) (j := 0) (b := b2276) (p := .pointer (some ⟨b2276, 0, none⟩)) (v := .slice A2395 x2394.size c2396) (s0 := x2394) KR (.inr rfl) KR t2431 (show (x2394).size + (t2431).size ≤ 140737488355328 from hA2437)) ?_; clear ha a; rintro e W2435 ⟨A2438, c2439, rfl, HX2436⟩
                refine ⟨_, rfl, ?_⟩; intro a ha; replace HW : Wd w W2435 [(b2413, .cells #[.int .i64 ((rdL T_api_Write.z a0 x2392).f0), .string ((rdL T_api_Write.z a0 x2392).f1)] 46 (0, 0)), (b2276, .cells #[.pointer (some ⟨b2276, 0, none⟩), .slice A2438 (x2394 ++ t2431).size c2439] 68 (0, 0))] [⟨5, 1, .slice A2438 (x2394 ++ t2431).size c2439, (x2394 ++ t2431).size, byteCells (x2394 ++ t2431)⟩] := HX2436; clear HX2436
                refine endl ?_
                refine thenN (hK2430 _ _ ?_); clear hK2430
                refine wp_region_lit ?_
                refine stepp ha 40 (.pointer (some ⟨b2413, 1, none⟩)) KR KR ?_; clear ha a; intro a ha
                refine stepl ha 41 (HW.ca (i := 0) (b := b2413) (C := #[.int .i64 ((rdL T_api_Write.z a0 x2392).f0), .string ((rdL T_api_Write.z a0 x2392).f1)]) (T := 46) (fr := (0, 0)) KR) 9 1 (.tmp 40) (.string ((rdL T_api_Write.z a0 x2392).f1)) rfl KR KR KR ?_; clear ha a; intro a ha
                obtain ⟨hA2442, h_⟩ := asrt_some h; clear h; have h := h_; clear h_
                refine stepc ha 42 KR KR (wb_write HW (i := 1) (j := 0) (b := b2276) (p := .pointer (some ⟨b2276, 0, none⟩)) (v := .slice A2438 (x2394 ++ t2431).size c2439) (s0 := x2394 ++ t2431) KR (.inr rfl) KR ((rdL T_api_Write.z a0 x2392).f1) (show (x2394 ++ t2431).size + ((rdL T_api_Write.z a0 x2392).f1).size ≤ 140737488355328 from hA2442)) ?_; clear ha a; rintro e W2440 ⟨A2443, c2444, rfl, HX2441⟩
                refine ⟨_, rfl, ?_⟩; intro a ha; replace HW : Wd w W2440 [(b2413, .cells #[.int .i64 ((rdL T_api_Write.z a0 x2392).f0), .string ((rdL T_api_Write.z a0 x2392).f1)] 46 (0, 0)), (b2276, .cells #[.pointer (some ⟨b2276, 0, none⟩), .slice A2443 ((x2394 ++ t2431) ++ ((rdL T_api_Write.z a0 x2392).f1)).size c2444] 68 (0, 0))] [⟨5, 1, .slice A2443 ((x2394 ++ t2431) ++ ((rdL T_api_Write.z a0 x2392).f1)).size c2444, ((x2394 ++ t2431) ++ ((rdL T_api_Write.z a0 x2392).f1)).size, byteCells ((x2394 ++ t2431) ++ ((rdL T_api_Write.z a0 x2392).f1))⟩] := HX2441; clear HX2441
                refine endl ?_
                refine blkN ?_
                refine thenN (hK2406 _ _ ?_); clear hK2406
                refine wp_region_lit ?_
                refine stepp ha 43 (.int .i64 (IntKind.wrap .i64 (x2392 + 1))) KR KR ?_; clear ha a; intro a ha
                refine stepp ha 17 (.int .i64 (IntKind.wrap .i64 (x2392 + 1))) KR KR ?_; clear ha a; intro a ha
                refine endl ?_
                exact thenN ⟨k2398, Nat.lt_succ_self k2398, IntKind.wrap .i64 (x2392 + 1), (x2394 ++ t2431) ++ ((rdL T_api_Write.z a0 x2392).f1), A2443, c2444, (by rw [← hag2399]; exact h), ha.sub (subs_cons KR (subs_cons KR (subs_cons KR (subs_cons KR (subs_nil _))))), HW.pick [1] [0] (by decide) (by decide) KR KR⟩
              · skip
                replace h := ite_neg' h hp2426
                refine condT ha KR KR (t := ((((rdL T_api_Write.z a0 x2392).f1).size : Int) != 512)) (ineq_t hp2426) ?_
                refine wp_seq_k (fun K2427 hK2428 => ?_)
                refine wp_region_lit ?_
                refine stepp ha 2 (.string (⟨#[]⟩ : ByteArray)) KR KR ?_; clear ha a; intro a ha
                refine stepp ha 3 (.int .i64 40) KR KR ?_; clear ha a; intro a ha
                refine endl ?_
                refine thenN (hK2428 _ _ ?_); clear hK2428
                refine wp_ret ?_
                refine thenR ?_
                refine blkR ?_
                refine thenR ?_
                refine thenR ?_
                refine blkR ?_
                refine thenR ?_
                obtain rfl := Option.some.inj h
                exact finv ha _ _ rfl (.tmp (v := .string (⟨#[]⟩ : ByteArray)) KR (.tmp (v := .int .i64 40) KR .nil)) (.tuple #[.string (⟨#[]⟩ : ByteArray), .int .i64 40]) rfl ⟨rfl, HW.pick [] [] (by decide) (by decide) rfl KR⟩
        · skip
          replace h := ite_neg' h hp2404
          refine condF ha KR KR (t := decide (x2392 < (a0.length : Int))) (decide_eq_false hp2404) ?_
          refine wp_exit ?_
          refine thenE ?_
          refine thenE ?_
          refine inBlk ?_
          refine thenN (hK2291 _ _ ?_); clear hK2291
          refine wp_seq_k (fun K2445 hK2446 => ?_)
          refine wp_region_lit ?_
          refine stepc ha 44 KR KR (wb_string HW (i := 0) (j := 0) (b := b2276) (p := .pointer (some ⟨b2276, 0, none⟩)) (v := .slice A2395 x2394.size c2396) (s0 := x2394) KR KR) ?_; clear ha a; rintro e W2447 ⟨rfl, HX2448⟩
          refine ⟨_, rfl, ?_⟩; intro a ha; replace HW : Wd w W2447 [] [] := HX2448; clear HX2448
          refine stepp ha 2 (.string x2394) KR KR ?_; clear ha a; intro a ha
          refine stepp ha 3 (.int .i64 0) KR KR ?_; clear ha a; intro a ha
          refine endl ?_
          refine thenN (hK2446 _ _ ?_); clear hK2446
          refine wp_ret ?_
          obtain rfl := Option.some.inj h
          exact finv ha _ _ rfl (.tmp (v := .string x2394) KR (.tmp (v := .int .i64 0) KR .nil)) (.tuple #[.string x2394, .int .i64 0]) rfl ⟨rfl, HW.pick [] [] (by decide) (by decide) rfl KR⟩
/-! ### headgate/frame.Split: function 18 -/
def frame_Split.b0 (K : Nat) (a0 : ByteArray) (t2681 : Int × Bool) (again2783 : (List T_api_Write) → Int → Option ((List T_api_Write) × Int)) (x2784 : List T_api_Write) (x2788 : Int) : Option ((List T_api_Write) × Int) :=
  if x2788 < (IntKind.wrap .i64 t2681.1) then ((fields_Big.f K a0 (IntKind.wrap .i64 (4 + (IntKind.wrap .i64 (x2788 * 516)))) 4).bind fun t2803 => (if t2803.1 ≥ 8192 then (some (([] : List T_api_Write), 50)) else (asrt (0 ≤ (IntKind.wrap .i64 (8 + (IntKind.wrap .i64 (x2788 * 516))))) (asrt ((IntKind.wrap .i64 (8 + (IntKind.wrap .i64 (x2788 * 516)))) ≤ (IntKind.wrap .i64 (4 + (IntKind.wrap .i64 ((IntKind.wrap .i64 (x2788 + 1)) * 516))))) (asrt ((IntKind.wrap .i64 (4 + (IntKind.wrap .i64 ((IntKind.wrap .i64 (x2788 + 1)) * 516)))) ≤ (a0.size : Int)) (asrt (x2784.length + ([(⟨IntKind.wrap .i64 t2803.1, a0.extract (IntKind.wrap .i64 (8 + (IntKind.wrap .i64 (x2788 * 516))) : Int).toNat (IntKind.wrap .i64 (4 + (IntKind.wrap .i64 ((IntKind.wrap .i64 (x2788 + 1)) * 516))) : Int).toNat⟩ : T_api_Write)] : List T_api_Write).length ≤ 5864062014805) (again2783 (x2784 ++ ([(⟨IntKind.wrap .i64 t2803.1, a0.extract (IntKind.wrap .i64 (8 + (IntKind.wrap .i64 (x2788 * 516))) : Int).toNat (IntKind.wrap .i64 (4 + (IntKind.wrap .i64 ((IntKind.wrap .i64 (x2788 + 1)) * 516))) : Int).toNat⟩ : T_api_Write)] : List T_api_Write)) (IntKind.wrap .i64 (x2788 + 1))))))))) else (some (x2784, 0))
def frame_Split.l0 (K : Nat) (a0 : ByteArray) (t2681 : Int × Bool) : Nat → (List T_api_Write) → Int → Option ((List T_api_Write) × Int)
  | 0, _, _ => none
  | k_ + 1, x2784, x2788 => frame_Split.b0 K a0 t2681 (frame_Split.l0 K a0 t2681 k_) x2784 x2788
def frame_Split.f (K : Nat) (a0 : ByteArray) : Option ((List T_api_Write) × Int) :=
  (fields_Big.f K a0 0 4).bind fun t2681 => (if t2681.2 = true then (if t2681.1 > 80 then (some (([] : List T_api_Write), 50)) else (if (a0.size : Int) = (IntKind.wrap .i64 (4 + (IntKind.wrap .i64 ((IntKind.wrap .i64 t2681.1) * 516)))) then (frame_Split.l0 K a0 t2681 K ([] : List T_api_Write) 0) else (some (([] : List T_api_Write), 50)))) else (some (([] : List T_api_Write), 50)))
set_option maxRecDepth 100000 in
set_option maxHeartbeats 4000000 in
theorem frame_Split.calls (K : Nat) (a0 : ByteArray)  (r : (List T_api_Write) × Int) (w : World)  (h : frame_Split.f K a0 = some r) :
    Calls Tryd.prog 18 #[.string a0] w (fun e W' => ∃ A_0 c_0, e = .returned (.tuple #[.slice A_0 r.1.length c_0, .int .i64 r.2]) ∧ Wd w W' [] [⟨46, 2, .slice A_0 r.1.length c_0, r.1.length, encs T_api_Write.enc r.1⟩] ) := by
  refine sxstart (n := 62) (l := [(0, .string a0)]) Tryd.func18 rfl rfl (Nat.le_of_ble_eq_true KR) (subsA_cons rfl (subsA_nil _)) ?_
  intro a ha
  have HW := Wd.refl w
  unfold frame_Split.f at h
  refine wp_seq_k (fun K2677 hK2678 => ?_)
  refine wp_region_lit ?_
  refine stepp ha 2 (.slice none 0 0) KR KR ?_; clear ha a; intro a ha
  refine stepp ha 3 (.int .i64 0) KR KR ?_; clear ha a; intro a ha
  refine endl ?_
  refine thenN (hK2678 _ _ ?_); clear hK2678
  refine wp_seq_k (fun K2679 hK2680 => ?_)
  refine wp_region_lit ?_
  refine stepp ha 11 (.string a0) KR KR ?_; clear ha a; intro a ha
  obtain ⟨t2681, ht2682, h_⟩ := bind_some' h; clear h; have h := h_; clear h_
  refine stepc ha 12 KR KR (fields_Big.calls K a0 0 4 t2681 _ ht2682) ?_; clear ha a; rintro e W2683 ⟨rfl, HX2684⟩
  refine ⟨_, rfl, ?_⟩; intro a ha; replace HW := HW.callw HX2684; clear HX2684
  refine stepp ha 10 (.tuple #[.int .u64 t2681.1, .bool t2681.2]) KR KR ?_; clear ha a; intro a ha
  refine stepp ha 13 (.int .u64 t2681.1) KR KR ?_; clear ha a; intro a ha
  refine stepp ha 14 (.bool t2681.2) KR KR ?_; clear ha a; intro a ha
  refine stepp ha 4 (.int .u64 t2681.1) KR KR ?_; clear ha a; intro a ha
  refine stepp ha 5 (.bool t2681.2) KR KR ?_; clear ha a; intro a ha
  refine endl ?_
  refine thenN (hK2680 _ _ ?_); clear hK2680
  refine wp_seq_k (fun K2685 hK2686 => ?_)
  refine wp_seq_k (fun K2687 hK2688 => ?_)
  refine wp_region_lit ?_
  refine stepp ha 15 (.bool t2681.2) KR KR ?_; clear ha a; intro a ha
  refine stepp ha 16 (.bool (!t2681.2)) KR KR ?_; clear ha a; intro a ha
  refine stepp ha 17 (.bool (!t2681.2)) KR KR ?_; clear ha a; intro a ha
  by_cases hp2689 : t2681.2 = true
  · skip
    replace h := ite_pos' h hp2689
    replace ha := ha.bool 17 KR (not_f (hp2689))
    refine stepp ha 18 (.int .u64 t2681.1) KR KR ?_; clear ha a; intro a ha
    refine stepp ha 19 (.bool (decide (t2681.1 > 80))) KR KR ?_; clear ha a; intro a ha
    refine stepp ha 20 (.bool (decide (t2681.1 > 80))) KR KR ?_; clear ha a; intro a ha
    refine stepp ha 21 (.bool (decide (t2681.1 > 80))) KR KR ?_; clear ha a; intro a ha
    by_cases hp2690 : t2681.1 > 80
    · skip
      replace h := ite_pos' h hp2690
      replace ha := ha.bool 21 KR (decide_eq_true hp2690)
      refine stepo ha 22 KR ?_; clear ha a; intro a ha
      refine stepo ha 23 KR ?_; clear ha a; intro a ha
      refine stepo ha 24 KR ?_; clear ha a; intro a ha
      refine stepo ha 25 KR ?_; clear ha a; intro a ha
      refine stepo ha 26 KR ?_; clear ha a; intro a ha
      refine stepo ha 27 KR ?_; clear ha a; intro a ha
      refine stepo ha 28 KR ?_; clear ha a; intro a ha
      refine stepp ha 29 (.bool true) KR KR ?_; clear ha a; intro a ha
      refine endl ?_
      refine thenN (hK2688 _ _ ?_); clear hK2688
      refine condT ha KR KR (t := true) (rfl) ?_
      refine wp_seq_k (fun K2691 hK2692 => ?_)
      refine wp_region_lit ?_
      refine stepp ha 2 (.slice none 0 0) KR KR ?_; clear ha a; intro a ha
      refine stepp ha 3 (.int .i64 50) KR KR ?_; clear ha a; intro a ha
      refine endl ?_
      refine thenN (hK2692 _ _ ?_); clear hK2692
      refine wp_ret ?_
      refine thenR ?_
      obtain rfl := Option.some.inj h
      replace HW := HW.nilo 46 2
      exact finv ha _ _ rfl (.tmp (v := .slice none 0 0) KR (.tmp (v := .int .i64 50) KR .nil)) (.tuple #[.slice none 0 0, .int .i64 50]) rfl ⟨none, 0, rfl, HW.pick [] [0] (by decide) (by decide) rfl KR⟩
    · skip
      replace h := ite_neg' h hp2690
      replace ha := ha.bool 21 KR (decide_eq_false hp2690)
      refine stepp ha 22 (.string a0) KR KR ?_; clear ha a; intro a ha
      refine stepp ha 23 (.int .i64 (a0.size : Int)) KR KR ?_; clear ha a; intro a ha
      refine stepp ha 24 (.int .u64 t2681.1) KR KR ?_; clear ha a; intro a ha
      refine stepp ha 25 (.int .i64 (IntKind.wrap .i64 t2681.1)) KR KR ?_; clear ha a; intro a ha
      refine stepp ha 26 (.int .i64 (IntKind.wrap .i64 ((IntKind.wrap .i64 t2681.1) * 516))) KR KR ?_; clear ha a; intro a ha
      refine stepp ha 27 (.int .i64 (IntKind.wrap .i64 (4 + (IntKind.wrap .i64 ((IntKind.wrap .i64 t2681.1) * 516))))) KR KR ?_; clear ha a; intro a ha
      refine stepp ha 28 (.bool ((a0.size : Int) != (IntKind.wrap .i64 (4 + (IntKind.wrap .i64 ((IntKind.wrap .i64 t2681.1) * 516)))))) KR KR ?_; clear ha a; intro a ha
      refine stepp ha 29 (.bool ((a0.size : Int) != (IntKind.wrap .i64 (4 + (IntKind.wrap .i64 ((IntKind.wrap .i64 t2681.1) * 516)))))) KR KR ?_; clear ha a; intro a ha
      refine endl ?_
      refine thenN (hK2688 _ _ ?_); clear hK2688
      by_cases hp2694 : (a0.size : Int) = (IntKind.wrap .i64 (4 + (IntKind.wrap .i64 ((IntKind.wrap .i64 t2681.1) * 516))))
      · skip
        replace h := ite_pos' h hp2694
        refine condF ha KR KR (t := ((a0.size : Int) != (IntKind.wrap .i64 (4 + (IntKind.wrap .i64 ((IntKind.wrap .i64 t2681.1) * 516)))))) (ineq_f hp2694) ?_
        refine wp_skip ?_
        refine thenN (hK2686 _ _ ?_); clear hK2686
        refine wp_seq_k (fun K2701 hK2702 => ?_)
        refine wp_region_lit ?_
        refine stepp ha 6 (.slice none 0 0) KR KR ?_; clear ha a; intro a ha
        refine endl ?_
        refine thenN (hK2702 _ _ ?_); clear hK2702
        refine wp_seq_k (fun K2703 hK2704 => ?_)
        refine wp_seq_k (fun K2705 hK2706 => ?_)
        refine wp_region_lit ?_
        refine stepp ha 30 (.int .u64 t2681.1) KR KR ?_; clear ha a; intro a ha
        refine stepp ha 31 (.int .i64 (IntKind.wrap .i64 t2681.1)) KR KR ?_; clear ha a; intro a ha
        refine stepp ha 32 (.int .i64 0) KR KR ?_; clear ha a; intro a ha
        refine endl ?_
        refine thenN (hK2706 _ _ ?_); clear hK2706
        refine wp_block ?_
        refine loopk (fun k => fun a W2789 => ∃ (x2784 : List T_api_Write), ∃ A2785, ∃ c2786, ∃ (x2788 : Int), frame_Split.l0 K a0 t2681 k x2784 x2788 = some r ∧ Has 62 [(0, .string a0), (6, .slice A2785 x2784.length c2786), (31, .int .i64 (IntKind.wrap .i64 t2681.1)), (32, .int .i64 x2788)] a ∧ Wd w W2789 [] [⟨46, 2, .slice A2785 x2784.length c2786, x2784.length, encs T_api_Write.enc x2784⟩]) K ?_ ?_
        · skip
          replace HW := HW.nilo 46 2
          exact ⟨([] : List T_api_Write), none, 0, 0, h, ha.sub (subs_cons KR (subs_cons KR (subs_cons KR (subs_cons KR (subs_nil _))))), HW.pick [] [0] (by decide) (by decide) KR KR⟩
        · skip
          intro k a W2789 hI
          obtain ⟨x2784, A2785, c2786, x2788, h, ha, HW⟩ := hI
          cases k with
          | zero => exact (none_some (show none = some r from h)).elim
          | succ k2790 =>
            replace h : frame_Split.b0 K a0 t2681 (frame_Split.l0 K a0 t2681 k2790) x2784 x2788 = some r := h
            obtain ⟨again2783, hag2791⟩ : ∃ g_, g_ = frame_Split.l0 K a0 t2681 k2790 := ⟨_, rfl⟩
            rw [← hag2791] at h
            unfold frame_Split.b0 at h
            refine wp_seq_k (fun K2792 hK2793 => ?_)
            refine wp_region_lit ?_
            refine stepp ha 33 (.bool (decide (x2788 < (IntKind.wrap .i64 t2681.1)))) KR KR ?_; clear ha a; intro a ha
            refine endl ?_
            refine thenN (hK2793 _ _ ?_); clear hK2793
            refine wp_seq_k (fun K2794 hK2795 => ?_)
            by_cases hp2796 : x2788 < (IntKind.wrap .i64 t2681.1)
            · skip
              replace h := ite_pos' h hp2796
              refine condT ha KR KR (t := decide (x2788 < (IntKind.wrap .i64 t2681.1))) (decide_eq_true hp2796) ?_
              refine wp_skip ?_
              refine thenN (hK2795 _ _ ?_); clear hK2795
              refine wp_seq_k (fun K2797 hK2798 => ?_)
              refine wp_block ?_
              refine wp_seq_k (fun K2799 hK2800 => ?_)
              refine wp_region_lit ?_
              refine stepp ha 34 (.int .i64 x2788) KR KR ?_; clear ha a; intro a ha
              refine stepp ha 7 (.int .i64 x2788) KR KR ?_; clear ha a; intro a ha
              refine endl ?_
              refine thenN (hK2800 _ _ ?_); clear hK2800
              refine wp_seq_k (fun K2801 hK2802 => ?_)
              refine wp_region_lit ?_
              refine stepp ha 36 (.string a0) KR KR ?_; clear ha a; intro a ha
              refine stepp ha 37 (.int .i64 x2788) KR KR ?_; clear ha a; intro a ha
              refine stepp ha 38 (.int .i64 (IntKind.wrap .i64 (x2788 * 516))) KR KR ?_; clear ha a; intro a ha
              refine stepp ha 39 (.int .i64 (IntKind.wrap .i64 (4 + (IntKind.wrap .i64 (x2788 * 516))))) KR KR ?_; clear ha a; intro a ha
              obtain ⟨t2803, ht2804, h_⟩ := bind_some' h; clear h; have h := h_; clear h_
              refine stepc ha 40 KR KR (fields_Big.calls K a0 (IntKind.wrap .i64 (4 + (IntKind.wrap .i64 (x2788 * 516)))) 4 t2803 _ ht2804) ?_; clear ha a; rintro e W2805 ⟨rfl, HX2806⟩
              refine ⟨_, rfl, ?_⟩; intro a ha; replace HW := HW.callw HX2806; clear HX2806
              refine stepp ha 35 (.tuple #[.int .u64 t2803.1, .bool t2803.2]) KR KR ?_; clear ha a; intro a ha
              refine stepp ha 41 (.int .u64 t2803.1) KR KR ?_; clear ha a; intro a ha
              refine stepp ha 42 (.bool t2803.2) KR KR ?_; clear ha a; intro a ha
              refine stepp ha 8 (.int .u64 t2803.1) KR KR ?_; clear ha a; intro a ha
              refine stepp ha 9 (.bool t2803.2) KR KR ?_; clear ha a; intro a ha
              refine endl ?_
              refine thenN (hK2802 _ _ ?_); clear hK2802
              refine wp_seq_k (fun K2807 hK2808 => ?_)
              refine wp_seq_k (fun K2809 hK2810 => ?_)
              refine wp_region_lit ?_
              refine stepp ha 43 (.int .u64 t2803.1) KR KR ?_; clear ha a; intro a ha
              refine stepp ha 44 (.bool (decide (t2803.1 ≥ 8192))) KR KR ?_; clear ha a; intro a ha
              refine endl ?_
              refine thenN (hK2810 _ _ ?_); clear hK2810
              by_cases hp2811 : t2803.1 ≥ 8192
              · skip
                replace h := ite_pos' h hp2811
                refine condT ha KR KR (t := decide (t2803.1 ≥ 8192)) (decide_eq_true hp2811) ?_
                refine wp_seq_k (fun K2812 hK2813 => ?_)
                refine wp_region_lit ?_
                refine stepp ha 2 (.slice none 0 0) KR KR ?_; clear ha a; intro a ha
                refine stepp ha 3 (.int .i64 50) KR KR ?_; clear ha a; intro a ha
                refine endl ?_
                refine thenN (hK2813 _ _ ?_); clear hK2813
                refine wp_ret ?_
                refine thenR ?_
                refine blkR ?_
                refine thenR ?_
                refine thenR ?_
                refine blkR ?_
                refine thenR ?_
                obtain rfl := Option.some.inj h
                replace HW := HW.nilo 46 2
                exact finv ha _ _ rfl (.tmp (v := .slice none 0 0) KR (.tmp (v := .int .i64 50) KR .nil)) (.tuple #[.slice none 0 0, .int .i64 50]) rfl ⟨none, 0, rfl, HW.pick [] [0] (by decide) (by decide) rfl KR⟩
              · skip
                replace h := ite_neg' h hp2811
                refine condF ha KR KR (t := decide (t2803.1 ≥ 8192)) (decide_eq_false hp2811) ?_
                refine wp_skip ?_
                refine thenN (hK2808 _ _ ?_); clear hK2808
                refine wp_region_lit ?_
                refine stepp ha 45 (.slice A2785 x2784.length c2786) KR KR ?_; clear ha a; intro a ha
                refine stepp ha 46 (.int .u64 t2803.1) KR KR ?_; clear ha a; intro a ha
                refine stepp ha 47 (.int .i64 (IntKind.wrap .i64 t2803.1)) KR KR ?_; clear ha a; intro a ha
                refine stepp ha 48 (.string a0) KR KR ?_; clear ha a; intro a ha
                refine stepp ha 49 (.int .i64 x2788) KR KR ?_; clear ha a; intro a ha
                refine stepp ha 50 (.int .i64 (IntKind.wrap .i64 (x2788 * 516))) KR KR ?_; clear ha a; intro a ha
                refine stepp ha 51 (.int .i64 (IntKind.wrap .i64 (8 + (IntKind.wrap .i64 (x2788 * 516))))) KR KR ?_; clear ha a; intro a ha
                refine stepp ha 52 (.int .i64 x2788) KR KR ?_; clear ha a; intro a ha
                refine stepp ha 53 (.int .i64 (IntKind.wrap .i64 (x2788 + 1))) KR KR ?_; clear ha a; intro a ha
                refine stepp ha 54 (.int .i64 (IntKind.wrap .i64 ((IntKind.wrap .i64 (x2788 + 1)) * 516))) KR KR ?_; clear ha a; intro a ha
                refine stepp ha 55 (.int .i64 (IntKind.wrap .i64 (4 + (IntKind.wrap .i64 ((IntKind.wrap .i64 (x2788 + 1)) * 516))))) KR KR ?_; clear ha a; intro a ha
                obtain ⟨hA2815, h_⟩ := asrt_some h; clear h; have h := h_; clear h_
                obtain ⟨hA2816, h_⟩ := asrt_some h; clear h; have h := h_; clear h_
                obtain ⟨hA2817, h_⟩ := asrt_some h; clear h; have h := h_; clear h_
                refine stepss ha 56 9 (.tmp 48) (.tmp 51) (.tmp 55) a0 .i64 .i64 (IntKind.wrap .i64 (8 + (IntKind.wrap .i64 (x2788 * 516)))) (IntKind.wrap .i64 (4 + (IntKind.wrap .i64 ((IntKind.wrap .i64 (x2788 + 1)) * 516)))) rfl KR KR KR KR hA2815 hA2816 (show (IntKind.wrap .i64 (4 + (IntKind.wrap .i64 ((IntKind.wrap .i64 (x2788 + 1)) * 516))) : Int) ≤ ((a0).size : Int) from hA2817) KR ?_; clear ha a; intro a ha
                refine stepp ha 57 (.agg #[.int .i64 (IntKind.wrap .i64 t2803.1), .string (a0.extract (IntKind.wrap .i64 (8 + (IntKind.wrap .i64 (x2788 * 516))) : Int).toNat (IntKind.wrap .i64 (4 + (IntKind.wrap .i64 ((IntKind.wrap .i64 (x2788 + 1)) * 516))) : Int).toNat)]) KR KR ?_; clear ha a; intro a ha
                refine stepbs ha HW 58 46 2 1 #[.int .i64 (IntKind.wrap .i64 t2803.1), .string (a0.extract (IntKind.wrap .i64 (8 + (IntKind.wrap .i64 (x2788 * 516))) : Int).toNat (IntKind.wrap .i64 (4 + (IntKind.wrap .i64 ((IntKind.wrap .i64 (x2788 + 1)) * 516))) : Int).toNat)] [.int .i64 (IntKind.wrap .i64 t2803.1), .string (a0.extract (IntKind.wrap .i64 (8 + (IntKind.wrap .i64 (x2788 * 516))) : Int).toNat (IntKind.wrap .i64 (4 + (IntKind.wrap .i64 ((IntKind.wrap .i64 (x2788 + 1)) * 516))) : Int).toNat)] (by decide) KR KR KR KR ?_; clear ha HW a; intro b2818 a W2819 HW ha
                replace HW : Wd w W2819 [] [⟨46, 2, .slice (some ⟨b2818, 0, none⟩) ([(⟨IntKind.wrap .i64 t2803.1, a0.extract (IntKind.wrap .i64 (8 + (IntKind.wrap .i64 (x2788 * 516))) : Int).toNat (IntKind.wrap .i64 (4 + (IntKind.wrap .i64 ((IntKind.wrap .i64 (x2788 + 1)) * 516))) : Int).toNat⟩ : T_api_Write)] : List T_api_Write).length 1, ([(⟨IntKind.wrap .i64 t2803.1, a0.extract (IntKind.wrap .i64 (8 + (IntKind.wrap .i64 (x2788 * 516))) : Int).toNat (IntKind.wrap .i64 (4 + (IntKind.wrap .i64 ((IntKind.wrap .i64 (x2788 + 1)) * 516))) : Int).toNat⟩ : T_api_Write)] : List T_api_Write).length, encs T_api_Write.enc ([(⟨IntKind.wrap .i64 t2803.1, a0.extract (IntKind.wrap .i64 (8 + (IntKind.wrap .i64 (x2788 * 516))) : Int).toNat (IntKind.wrap .i64 (4 + (IntKind.wrap .i64 ((IntKind.wrap .i64 (x2788 + 1)) * 516))) : Int).toNat⟩ : T_api_Write)] : List T_api_Write)⟩, ⟨46, 2, .slice A2785 x2784.length c2786, x2784.length, encs T_api_Write.enc x2784⟩] := HW
                replace ha := ha.turn 58 (v := .slice (some ⟨b2818, 0, none⟩) ([(⟨IntKind.wrap .i64 t2803.1, a0.extract (IntKind.wrap .i64 (8 + (IntKind.wrap .i64 (x2788 * 516))) : Int).toNat (IntKind.wrap .i64 (4 + (IntKind.wrap .i64 ((IntKind.wrap .i64 (x2788 + 1)) * 516))) : Int).toNat⟩ : T_api_Write)] : List T_api_Write).length 1) KR rfl
                obtain ⟨hA2821, h_⟩ := asrt_some h; clear h; have h := h_; clear h_
                refine stepape T_api_Write.enc ha HW 59 1 44 46 (.tmp 45) (.tmp 58) (.agg #[.int .i64 0, .string (⟨#[]⟩ : ByteArray)]) 2 24 (.slice A2785 x2784.length c2786) x2784 (.slice (some ⟨b2818, 0, none⟩) ([(⟨IntKind.wrap .i64 t2803.1, a0.extract (IntKind.wrap .i64 (8 + (IntKind.wrap .i64 (x2788 * 516))) : Int).toNat (IntKind.wrap .i64 (4 + (IntKind.wrap .i64 ((IntKind.wrap .i64 (x2788 + 1)) * 516))) : Int).toNat⟩ : T_api_Write)] : List T_api_Write).length 1) ([(⟨IntKind.wrap .i64 t2803.1, a0.extract (IntKind.wrap .i64 (8 + (IntKind.wrap .i64 (x2788 * 516))) : Int).toNat (IntKind.wrap .i64 (4 + (IntKind.wrap .i64 ((IntKind.wrap .i64 (x2788 + 1)) * 516))) : Int).toNat⟩ : T_api_Write)] : List T_api_Write) KR rfl KR KR (HW.rdo (i := 0) (q := ⟨46, 2, .slice (some ⟨b2818, 0, none⟩) ([(⟨IntKind.wrap .i64 t2803.1, a0.extract (IntKind.wrap .i64 (8 + (IntKind.wrap .i64 (x2788 * 516))) : Int).toNat (IntKind.wrap .i64 (4 + (IntKind.wrap .i64 ((IntKind.wrap .i64 (x2788 + 1)) * 516))) : Int).toNat⟩ : T_api_Write)] : List T_api_Write).length 1, ([(⟨IntKind.wrap .i64 t2803.1, a0.extract (IntKind.wrap .i64 (8 + (IntKind.wrap .i64 (x2788 * 516))) : Int).toNat (IntKind.wrap .i64 (4 + (IntKind.wrap .i64 ((IntKind.wrap .i64 (x2788 + 1)) * 516))) : Int).toNat⟩ : T_api_Write)] : List T_api_Write).length, encs T_api_Write.enc ([(⟨IntKind.wrap .i64 t2803.1, a0.extract (IntKind.wrap .i64 (8 + (IntKind.wrap .i64 (x2788 * 516))) : Int).toNat (IntKind.wrap .i64 (4 + (IntKind.wrap .i64 ((IntKind.wrap .i64 (x2788 + 1)) * 516))) : Int).toNat⟩ : T_api_Write)] : List T_api_Write)⟩) KR) (fun _ => rfl) KR KR KR (by decide) (by have := hA2821; unfold maxLen; omega) (by have := hA2821; omega) KR ?_; clear ha HW a; intro A2822 c2823 a W2824 HW ha
                refine stepp ha 6 (.slice A2822 (x2784 ++ ([(⟨IntKind.wrap .i64 t2803.1, a0.extract (IntKind.wrap .i64 (8 + (IntKind.wrap .i64 (x2788 * 516))) : Int).toNat (IntKind.wrap .i64 (4 + (IntKind.wrap .i64 ((IntKind.wrap .i64 (x2788 + 1)) * 516))) : Int).toNat⟩ : T_api_Write)] : List T_api_Write)).length c2823) KR KR ?_; clear ha a; intro a ha
                refine endl ?_
                refine blkN ?_
                refine thenN (hK2798 _ _ ?_); clear hK2798
                refine wp_region_lit ?_
                refine stepp ha 60 (.int .i64 (IntKind.wrap .i64 (x2788 + 1))) KR KR ?_; clear ha a; intro a ha
                refine stepp ha 32 (.int .i64 (IntKind.wrap .i64 (x2788 + 1))) KR KR ?_; clear ha a; intro a ha
                refine endl ?_
                exact thenN ⟨k2790, Nat.lt_succ_self k2790, x2784 ++ ([(⟨IntKind.wrap .i64 t2803.1, a0.extract (IntKind.wrap .i64 (8 + (IntKind.wrap .i64 (x2788 * 516))) : Int).toNat (IntKind.wrap .i64 (4 + (IntKind.wrap .i64 ((IntKind.wrap .i64 (x2788 + 1)) * 516))) : Int).toNat⟩ : T_api_Write)] : List T_api_Write), A2822, c2823, IntKind.wrap .i64 (x2788 + 1), (by rw [← hag2791]; exact h), ha.sub (subs_cons KR (subs_cons KR (subs_cons KR (subs_cons KR (subs_nil _))))), HW.pick [] [1] (by decide) (by decide) KR KR⟩
            · skip
              replace h := ite_neg' h hp2796
              refine condF ha KR KR (t := decide (x2788 < (IntKind.wrap .i64 t2681.1))) (decide_eq_false hp2796) ?_
              refine wp_exit ?_
              refine thenE ?_
              refine thenE ?_
              refine inBlk ?_
              refine thenN (hK2704 _ _ ?_); clear hK2704
              refine wp_seq_k (fun K2827 hK2828 => ?_)
              refine wp_region_lit ?_
              refine stepp ha 61 (.slice A2785 x2784.length c2786) KR KR ?_; clear ha a; intro a ha
              refine stepp ha 2 (.slice A2785 x2784.length c2786) KR KR ?_; clear ha a; intro a ha
              refine stepp ha 3 (.int .i64 0) KR KR ?_; clear ha a; intro a ha
              refine endl ?_
              refine thenN (hK2828 _ _ ?_); clear hK2828
              refine wp_ret ?_
              obtain rfl := Option.some.inj h
              exact finv ha _ _ rfl (.tmp (v := .slice A2785 x2784.length c2786) KR (.tmp (v := .int .i64 0) KR .nil)) (.tuple #[.slice A2785 x2784.length c2786, .int .i64 0]) rfl ⟨A2785, c2786, rfl, HW.pick [] [0] (by decide) (by decide) rfl KR⟩
      · skip
        replace h := ite_neg' h hp2694
        refine condT ha KR KR (t := ((a0.size : Int) != (IntKind.wrap .i64 (4 + (IntKind.wrap .i64 ((IntKind.wrap .i64 t2681.1) * 516)))))) (ineq_t hp2694) ?_
        refine wp_seq_k (fun K2695 hK2696 => ?_)
        refine wp_region_lit ?_
        refine stepp ha 2 (.slice none 0 0) KR KR ?_; clear ha a; intro a ha
        refine stepp ha 3 (.int .i64 50) KR KR ?_; clear ha a; intro a ha
        refine endl ?_
        refine thenN (hK2696 _ _ ?_); clear hK2696
        refine wp_ret ?_
        refine thenR ?_
        obtain rfl := Option.some.inj h
        replace HW := HW.nilo 46 2
        exact finv ha _ _ rfl (.tmp (v := .slice none 0 0) KR (.tmp (v := .int .i64 50) KR .nil)) (.tuple #[.slice none 0 0, .int .i64 50]) rfl ⟨none, 0, rfl, HW.pick [] [0] (by decide) (by decide) rfl KR⟩
  · skip
    replace h := ite_neg' h hp2689
    replace ha := ha.bool 17 KR (not_t (bool_f hp2689))
    refine stepo ha 18 KR ?_; clear ha a; intro a ha
    refine stepo ha 19 KR ?_; clear ha a; intro a ha
    refine stepp ha 20 (.bool true) KR KR ?_; clear ha a; intro a ha
    refine stepp ha 21 (.bool true) KR KR ?_; clear ha a; intro a ha
    refine stepo ha 22 KR ?_; clear ha a; intro a ha
    refine stepo ha 23 KR ?_; clear ha a; intro a ha
    refine stepo ha 24 KR ?_; clear ha a; intro a ha
    refine stepo ha 25 KR ?_; clear ha a; intro a ha
    refine stepo ha 26 KR ?_; clear ha a; intro a ha
    refine stepo ha 27 KR ?_; clear ha a; intro a ha
    refine stepo ha 28 KR ?_; clear ha a; intro a ha
    refine stepp ha 29 (.bool true) KR KR ?_; clear ha a; intro a ha
    refine endl ?_
    refine thenN (hK2688 _ _ ?_); clear hK2688
    refine condT ha KR KR (t := true) (rfl) ?_
    refine wp_seq_k (fun K2698 hK2699 => ?_)
    refine wp_region_lit ?_
    refine stepp ha 2 (.slice none 0 0) KR KR ?_; clear ha a; intro a ha
    refine stepp ha 3 (.int .i64 50) KR KR ?_; clear ha a; intro a ha
    refine endl ?_
    refine thenN (hK2699 _ _ ?_); clear hK2699
    refine wp_ret ?_
    refine thenR ?_
    obtain rfl := Option.some.inj h
    replace HW := HW.nilo 46 2
    exact finv ha _ _ rfl (.tmp (v := .slice none 0 0) KR (.tmp (v := .int .i64 50) KR .nil)) (.tuple #[.slice none 0 0, .int .i64 50]) rfl ⟨none, 0, rfl, HW.pick [] [0] (by decide) (by decide) rfl KR⟩
/-! ### headgate/headgateref05.Same: function 20 -/
def headgateref05_Same.b0 (K : Nat) (a0 : List T_api_Write) (a1 : List T_api_Write) (again3049 : Int → Option Bool) (x3050 : Int) : Option Bool :=
  if x3050 < (a0.length : Int) then (asrt (0 ≤ x3050) (asrt (x3050 < (a1.length : Int)) (if ((rdL T_api_Write.z a0 x3050).f0) = ((rdL T_api_Write.z a1 x3050).f0) then (if ((rdL T_api_Write.z a0 x3050).f1) = ((rdL T_api_Write.z a1 x3050).f1) then (again3049 (IntKind.wrap .i64 (x3050 + 1))) else (some false)) else (some false)))) else (some true)
def headgateref05_Same.l0 (K : Nat) (a0 : List T_api_Write) (a1 : List T_api_Write) : Nat → Int → Option Bool
  | 0, _ => none
  | k_ + 1, x3050 => headgateref05_Same.b0 K a0 a1 (headgateref05_Same.l0 K a0 a1 k_) x3050
def headgateref05_Same.f (K : Nat) (a0 : List T_api_Write) (a1 : List T_api_Write) : Option Bool :=
  if (a0.length : Int) = (a1.length : Int) then (headgateref05_Same.l0 K a0 a1 K 0) else (some false)
set_option maxRecDepth 100000 in
set_option maxHeartbeats 4000000 in
theorem headgateref05_Same.calls (K : Nat) (a0 : List T_api_Write) (a1 : List T_api_Write) (A0_0 : Option Addr) (c0_0 : Nat) (A1_1 : Option Addr) (c1_1 : Nat) (r : Bool) (w : World) (hr0_0 : Rd 2 w (.slice A0_0 a0.length c0_0) a0.length (encs T_api_Write.enc a0)) (hr1_1 : Rd 2 w (.slice A1_1 a1.length c1_1) a1.length (encs T_api_Write.enc a1)) (h : headgateref05_Same.f K a0 a1 = some r) :
    Calls Tryd.prog 20 #[.slice A0_0 a0.length c0_0, .slice A1_1 a1.length c1_1] w (fun e W' => e = .returned (.bool r) ∧ Wd w W' [] [] ) := by
  refine sxstart (n := 41) (l := [(0, .slice A0_0 a0.length c0_0), (1, .slice A1_1 a1.length c1_1)]) Tryd.func20 rfl rfl (Nat.le_of_ble_eq_true KR) (subsA_cons rfl (subsA_cons rfl (subsA_nil _))) ?_
  intro a ha
  have HW := Wd.refl w
  unfold headgateref05_Same.f at h
  refine wp_seq_k (fun K2975 hK2976 => ?_)
  refine wp_region_lit ?_
  refine stepp ha 4 (.bool false) KR KR ?_; clear ha a; intro a ha
  refine endl ?_
  refine thenN (hK2976 _ _ ?_); clear hK2976
  refine wp_seq_k (fun K2977 hK2978 => ?_)
  refine wp_seq_k (fun K2979 hK2980 => ?_)
  refine wp_region_lit ?_
  refine stepp ha 6 (.slice A0_0 a0.length c0_0) KR KR ?_; clear ha a; intro a ha
  refine stepp ha 7 (.int .i64 (a0.length : Int)) KR KR ?_; clear ha a; intro a ha
  refine stepp ha 8 (.slice A1_1 a1.length c1_1) KR KR ?_; clear ha a; intro a ha
  refine stepp ha 9 (.int .i64 (a1.length : Int)) KR KR ?_; clear ha a; intro a ha
  refine stepp ha 10 (.bool ((a0.length : Int) != (a1.length : Int))) KR KR ?_; clear ha a; intro a ha
  refine endl ?_
  refine thenN (hK2980 _ _ ?_); clear hK2980
  by_cases hp2981 : (a0.length : Int) = (a1.length : Int)
  · skip
    replace h := ite_pos' h hp2981
    refine condF ha KR KR (t := ((a0.length : Int) != (a1.length : Int))) (ineq_f hp2981) ?_
    refine wp_skip ?_
    refine thenN (hK2978 _ _ ?_); clear hK2978
    refine wp_seq_k (fun K2984 hK2985 => ?_)
    refine wp_seq_k (fun K2986 hK2987 => ?_)
    refine wp_region_lit ?_
    refine stepp ha 5 (.int .i64 0) KR KR ?_; clear ha a; intro a ha
    refine endl ?_
    refine thenN (hK2987 _ _ ?_); clear hK2987
    refine wp_block ?_
    refine loopk (fun k => fun a W3051 => ∃ (x3050 : Int), headgateref05_Same.l0 K a0 a1 k x3050 = some r ∧ Has 41 [(0, .slice A0_0 a0.length c0_0), (1, .slice A1_1 a1.length c1_1), (5, .int .i64 x3050)] a ∧ Wd w W3051 [] []) K ?_ ?_
    · skip
      exact ⟨0, h, ha.sub (subs_cons KR (subs_cons KR (subs_cons KR (subs_nil _)))), HW.pick [] [] (by decide) (by decide) KR KR⟩
    · skip
      intro k a W3051 hI
      obtain ⟨x3050, h, ha, HW⟩ := hI
      cases k with
      | zero => exact (none_some (show none = some r from h)).elim
      | succ k3052 =>
        replace h : headgateref05_Same.b0 K a0 a1 (headgateref05_Same.l0 K a0 a1 k3052) x3050 = some r := h
        obtain ⟨again3049, hag3053⟩ : ∃ g_, g_ = headgateref05_Same.l0 K a0 a1 k3052 := ⟨_, rfl⟩
        rw [← hag3053] at h
        unfold headgateref05_Same.b0 at h
        refine wp_seq_k (fun K3054 hK3055 => ?_)
        refine wp_seq_k (fun K3056 hK3057 => ?_)
        refine wp_region_lit ?_
        refine stepp ha 11 (.int .i64 x3050) KR KR ?_; clear ha a; intro a ha
        refine stepp ha 12 (.slice A0_0 a0.length c0_0) KR KR ?_; clear ha a; intro a ha
        refine stepp ha 13 (.int .i64 (a0.length : Int)) KR KR ?_; clear ha a; intro a ha
        refine stepp ha 14 (.bool (decide (x3050 < (a0.length : Int)))) KR KR ?_; clear ha a; intro a ha
        refine endl ?_
        refine thenN (hK3057 _ _ ?_); clear hK3057
        by_cases hp3058 : x3050 < (a0.length : Int)
        · skip
          replace h := ite_pos' h hp3058
          refine condT ha KR KR (t := decide (x3050 < (a0.length : Int))) (decide_eq_true hp3058) ?_
          refine wp_skip ?_
          refine thenN (hK3055 _ _ ?_); clear hK3055
          refine wp_seq_k (fun K3059 hK3060 => ?_)
          refine wp_block ?_
          refine wp_seq_k (fun K3061 hK3062 => ?_)
          obtain ⟨hA3063, h_⟩ := asrt_some h; clear h; have h := h_; clear h_
          obtain ⟨b3065, off3066, hA3067⟩ := Rd.addr ((HW.rd0 hr0_0)) hA3063 (show (x3050 : Int) < ((a0).length : Int) from hp3058)
          obtain ⟨hA3068, h_⟩ := asrt_some h; clear h; have h := h_; clear h_
          obtain ⟨b3070, off3071, hA3072⟩ := Rd.addr ((HW.rd0 hr1_1)) hA3063 (show (x3050 : Int) < ((a1).length : Int) from hA3068)
          by_cases hp3073 : ((rdL T_api_Write.z a0 x3050).f0) = ((rdL T_api_Write.z a1 x3050).f0)
          · skip
            replace h := ite_pos' h hp3073
            refine regionG 24 KR KR ha HW [.fix (.slice A0_0 a0.length c0_0), .fix (.int .i64 x3050), .fix (.pointer (some ⟨b3065, off3066 + (x3050 : Int).toNat * 2, none⟩)), .fix (.pointer (some ⟨b3065, off3066 + (x3050 : Int).toNat * 2, none⟩)), .fix (.int .i64 ((rdL T_api_Write.z a0 x3050).f0)), .fix (.slice A1_1 a1.length c1_1), .fix (.int .i64 x3050), .fix (.pointer (some ⟨b3070, off3071 + (x3050 : Int).toNat * 2, none⟩)), .fix (.pointer (some ⟨b3070, off3071 + (x3050 : Int).toNat * 2, none⟩)), .fix (.int .i64 ((rdL T_api_Write.z a1 x3050).f0)), .fix (.bool (((rdL T_api_Write.z a0 x3050).f0) != ((rdL T_api_Write.z a1 x3050).f0))), .fix (.bool (((rdL T_api_Write.z a0 x3050).f0) != ((rdL T_api_Write.z a1 x3050).f0))), .fix (.slice A0_0 a0.length c0_0), .fix (.int .i64 x3050), .fix (.pointer (some ⟨b3065, off3066 + (x3050 : Int).toNat * 2, none⟩)), .fix (.pointer (some ⟨b3065, off3066 + (x3050 : Int).toNat * 2 + 1, none⟩)), .fix (.string ((rdL T_api_Write.z a0 x3050).f1)), .fix (.slice A1_1 a1.length c1_1), .fix (.int .i64 x3050), .fix (.pointer (some ⟨b3070, off3071 + (x3050 : Int).toNat * 2, none⟩)), .fix (.pointer (some ⟨b3070, off3071 + (x3050 : Int).toNat * 2 + 1, none⟩)), .fix (.string ((rdL T_api_Write.z a1 x3050).f1)), .fix (.bool (!(((rdL T_api_Write.z a0 x3050).f1).toList == ((rdL T_api_Write.z a1 x3050).f1).toList))), .fix (.bool (!(((rdL T_api_Write.z a0 x3050).f1).toList == ((rdL T_api_Write.z a1 x3050).f1).toList)))] ?_ ?_
            · skip
              refine ⟨?_, ?_, ?_, ?_, ?_, ?_, ?_, ?_, ?_, ?_, ?_, ?_, ?_, ?_, ?_, ?_, ?_, ?_, ?_, ?_, ?_, ?_, ?_, ?_, trivial⟩
              · skip
                intro a wr hn hd HW hs; have ha := hasNil hn hd
                have ha := ha.add (seeE hs 0 (.slice A0_0 a0.length c0_0) KR KR)
                refine yStep ha 17 KR ?_; intro l_ ha HK
                refine stepp ha 17 (.slice A0_0 a0.length c0_0) KR KR ?_; intro ax hax; exact HK _ _ _ hax rfl (Below.refl _ _)
              · skip
                intro a wr hn hd HW hs; have ha := hasNil hn hd
                have ha := ha.add (seeE hs 5 (.int .i64 x3050) KR KR)
                refine yStep ha 18 KR ?_; intro l_ ha HK
                refine stepp ha 18 (.int .i64 x3050) KR KR ?_; intro ax hax; exact HK _ _ _ hax rfl (Below.refl _ _)
              · skip
                intro a wr hn hd HW hs; have ha := hasNil hn hd
                have ha := ha.add (seeF hs 17 0 (.slice A0_0 a0.length c0_0) KR KR)
                have ha := ha.add (seeF hs 18 1 (.int .i64 x3050) KR KR)
                replace ha := ha.turn 17 (u := .slice A0_0 a0.length c0_0) (v := .slice (some ⟨b3065, off3066, none⟩) a0.length c0_0) KR (by rw [hA3067])
                refine yStep ha 19 KR ?_; intro l_ ha HK
                refine stepif ha 19 (sz := 2) (len := a0.length) (b := b3065) (off := off3066) (c := c0_0) 44 46 (.tmp 17) (.tmp 18) .i64 x3050 rfl KR KR KR KR hA3063 (show (x3050 : Int) < ((a0).length : Int) from hp3058) KR ?_; intro ax hax; exact HK _ _ _ hax rfl (Below.refl _ _)
              · skip
                intro a wr hn hd HW hs; have ha := hasNil hn hd
                have ha := ha.add (seeF hs 19 2 (.pointer (some ⟨b3065, off3066 + (x3050 : Int).toNat * 2, none⟩)) KR KR)
                refine yStep ha 20 KR ?_; intro l_ ha HK
                refine stepp ha 20 (.pointer (some ⟨b3065, off3066 + (x3050 : Int).toNat * 2, none⟩)) KR KR ?_; intro ax hax; exact HK _ _ _ hax rfl (Below.refl _ _)
              · skip
                intro a wr hn hd HW hs; have ha := hasNil hn hd
                have ha := ha.add (seeF hs 20 3 (.pointer (some ⟨b3065, off3066 + (x3050 : Int).toNat * 2, none⟩)) KR KR)
                refine yStep ha 21 KR ?_; intro l_ ha HK
                refine stepl ha 21 (Rd.ca T_api_Write.enc T_api_Write.z (fun _ => rfl) (by have h_ := ((HW.rd0 hr0_0)); rw [hA3067] at h_; exact h_) hA3063 (show (x3050 : Int) < ((a0).length : Int) from hp3058)) 3 0 (.tmp 20) (.int .i64 ((rdL T_api_Write.z a0 x3050).f0)) rfl KR KR KR ?_; intro ax hax; exact HK _ _ _ hax rfl (Below.refl _ _)
              · skip
                intro a wr hn hd HW hs; have ha := hasNil hn hd
                have ha := ha.add (seeE hs 1 (.slice A1_1 a1.length c1_1) KR KR)
                refine yStep ha 22 KR ?_; intro l_ ha HK
                refine stepp ha 22 (.slice A1_1 a1.length c1_1) KR KR ?_; intro ax hax; exact HK _ _ _ hax rfl (Below.refl _ _)
              · skip
                intro a wr hn hd HW hs; have ha := hasNil hn hd
                have ha := ha.add (seeE hs 5 (.int .i64 x3050) KR KR)
                refine yStep ha 23 KR ?_; intro l_ ha HK
                refine stepp ha 23 (.int .i64 x3050) KR KR ?_; intro ax hax; exact HK _ _ _ hax rfl (Below.refl _ _)
              · skip
                intro a wr hn hd HW hs; have ha := hasNil hn hd
                have ha := ha.add (seeF hs 22 5 (.slice A1_1 a1.length c1_1) KR KR)
                have ha := ha.add (seeF hs 23 6 (.int .i64 x3050) KR KR)
                replace ha := ha.turn 22 (u := .slice A1_1 a1.length c1_1) (v := .slice (some ⟨b3070, off3071, none⟩) a1.length c1_1) KR (by rw [hA3072])
                refine yStep ha 24 KR ?_; intro l_ ha HK
                refine stepif ha 24 (sz := 2) (len := a1.length) (b := b3070) (off := off3071) (c := c1_1) 44 46 (.tmp 22) (.tmp 23) .i64 x3050 rfl KR KR KR KR hA3063 (show (x3050 : Int) < ((a1).length : Int) from hA3068) KR ?_; intro ax hax; exact HK _ _ _ hax rfl (Below.refl _ _)
              · skip
                intro a wr hn hd HW hs; have ha := hasNil hn hd
                have ha := ha.add (seeF hs 24 7 (.pointer (some ⟨b3070, off3071 + (x3050 : Int).toNat * 2, none⟩)) KR KR)
                refine yStep ha 25 KR ?_; intro l_ ha HK
                refine stepp ha 25 (.pointer (some ⟨b3070, off3071 + (x3050 : Int).toNat * 2, none⟩)) KR KR ?_; intro ax hax; exact HK _ _ _ hax rfl (Below.refl _ _)
              · skip
                intro a wr hn hd HW hs; have ha := hasNil hn hd
                have ha := ha.add (seeF hs 25 8 (.pointer (some ⟨b3070, off3071 + (x3050 : Int).toNat * 2, none⟩)) KR KR)
                refine yStep ha 26 KR ?_; intro l_ ha HK
                refine stepl ha 26 (Rd.ca T_api_Write.enc T_api_Write.z (fun _ => rfl) (by have h_ := ((HW.rd0 hr1_1)); rw [hA3072] at h_; exact h_) hA3063 (show (x3050 : Int) < ((a1).length : Int) from hA3068)) 3 0 (.tmp 25) (.int .i64 ((rdL T_api_Write.z a1 x3050).f0)) rfl KR KR KR ?_; intro ax hax; exact HK _ _ _ hax rfl (Below.refl _ _)
              · skip
                intro a wr hn hd HW hs; have ha := hasNil hn hd
                have ha := ha.add (seeF hs 21 4 (.int .i64 ((rdL T_api_Write.z a0 x3050).f0)) KR KR)
                have ha := ha.add (seeF hs 26 9 (.int .i64 ((rdL T_api_Write.z a1 x3050).f0)) KR KR)
                refine yStep ha 27 KR ?_; intro l_ ha HK
                refine stepp ha 27 (.bool (((rdL T_api_Write.z a0 x3050).f0) != ((rdL T_api_Write.z a1 x3050).f0))) KR KR ?_; intro ax hax; exact HK _ _ _ hax rfl (Below.refl _ _)
              · skip
                intro a wr hn hd HW hs; have ha := hasNil hn hd
                have ha := ha.add (seeF hs 27 10 (.bool (((rdL T_api_Write.z a0 x3050).f0) != ((rdL T_api_Write.z a1 x3050).f0))) KR KR)
                refine yStep ha 28 KR ?_; intro l_ ha HK
                refine stepp ha 28 (.bool (((rdL T_api_Write.z a0 x3050).f0) != ((rdL T_api_Write.z a1 x3050).f0))) KR KR ?_; intro ax hax; exact HK _ _ _ hax rfl (Below.refl _ _)
              · skip
                intro a wr hn hd HW hs; have ha := hasNil hn hd
                have ha := ha.add (seeE hs 0 (.slice A0_0 a0.length c0_0) KR KR)
                have ha := ha.add (seeF hs 28 11 (.bool (((rdL T_api_Write.z a0 x3050).f0) != ((rdL T_api_Write.z a1 x3050).f0))) KR KR)
                have ha := ha.bool 28 KR (ineq_f hp3073)
                refine yStep ha 29 KR ?_; intro l_ ha HK
                refine stepp ha 29 (.slice A0_0 a0.length c0_0) KR KR ?_; intro ax hax; exact HK _ _ _ hax rfl (Below.refl _ _)
              · skip
                intro a wr hn hd HW hs; have ha := hasNil hn hd
                have ha := ha.add (seeE hs 5 (.int .i64 x3050) KR KR)
                have ha := ha.add (seeF hs 28 11 (.bool (((rdL T_api_Write.z a0 x3050).f0) != ((rdL T_api_Write.z a1 x3050).f0))) KR KR)
                have ha := ha.bool 28 KR (ineq_f hp3073)
                refine yStep ha 30 KR ?_; intro l_ ha HK
                refine stepp ha 30 (.int .i64 x3050) KR KR ?_; intro ax hax; exact HK _ _ _ hax rfl (Below.refl _ _)
              · skip
                intro a wr hn hd HW hs; have ha := hasNil hn hd
                have ha := ha.add (seeF hs 29 12 (.slice A0_0 a0.length c0_0) KR KR)
                have ha := ha.add (seeF hs 30 13 (.int .i64 x3050) KR KR)
                have ha := ha.add (seeF hs 28 11 (.bool (((rdL T_api_Write.z a0 x3050).f0) != ((rdL T_api_Write.z a1 x3050).f0))) KR KR)
                have ha := ha.bool 28 KR (ineq_f hp3073)
                replace ha := ha.turn 29 (u := .slice A0_0 a0.length c0_0) (v := .slice (some ⟨b3065, off3066, none⟩) a0.length c0_0) KR (by rw [hA3067])
                refine yStep ha 31 KR ?_; intro l_ ha HK
                refine stepif ha 31 (sz := 2) (len := a0.length) (b := b3065) (off := off3066) (c := c0_0) 44 46 (.tmp 29) (.tmp 30) .i64 x3050 rfl KR KR KR KR hA3063 (show (x3050 : Int) < ((a0).length : Int) from hp3058) KR ?_; intro ax hax; exact HK _ _ _ hax rfl (Below.refl _ _)
              · skip
                intro a wr hn hd HW hs; have ha := hasNil hn hd
                have ha := ha.add (seeF hs 31 14 (.pointer (some ⟨b3065, off3066 + (x3050 : Int).toNat * 2, none⟩)) KR KR)
                have ha := ha.add (seeF hs 28 11 (.bool (((rdL T_api_Write.z a0 x3050).f0) != ((rdL T_api_Write.z a1 x3050).f0))) KR KR)
                have ha := ha.bool 28 KR (ineq_f hp3073)
                refine yStep ha 32 KR ?_; intro l_ ha HK
                refine stepp ha 32 (.pointer (some ⟨b3065, off3066 + (x3050 : Int).toNat * 2 + 1, none⟩)) KR KR ?_; intro ax hax; exact HK _ _ _ hax rfl (Below.refl _ _)
              · skip
                intro a wr hn hd HW hs; have ha := hasNil hn hd
                have ha := ha.add (seeF hs 32 15 (.pointer (some ⟨b3065, off3066 + (x3050 : Int).toNat * 2 + 1, none⟩)) KR KR)
                have ha := ha.add (seeF hs 28 11 (.bool (((rdL T_api_Write.z a0 x3050).f0) != ((rdL T_api_Write.z a1 x3050).f0))) KR KR)
                have ha := ha.bool 28 KR (ineq_f hp3073)
                refine yStep ha 33 KR ?_; intro l_ ha HK
                refine stepl ha 33 (Rd.ca T_api_Write.enc T_api_Write.z (fun _ => rfl) (by have h_ := ((HW.rd0 hr0_0)); rw [hA3067] at h_; exact h_) hA3063 (show (x3050 : Int) < ((a0).length : Int) from hp3058)) 9 1 (.tmp 32) (.string ((rdL T_api_Write.z a0 x3050).f1)) rfl KR KR KR ?_; intro ax hax; exact HK _ _ _ hax rfl (Below.refl _ _)
              · skip
                intro a wr hn hd HW hs; have ha := hasNil hn hd
                have ha := ha.add (seeE hs 1 (.slice A1_1 a1.length c1_1) KR KR)
                have ha := ha.add (seeF hs 28 11 (.bool (((rdL T_api_Write.z a0 x3050).f0) != ((rdL T_api_Write.z a1 x3050).f0))) KR KR)
                have ha := ha.bool 28 KR (ineq_f hp3073)
                refine yStep ha 34 KR ?_; intro l_ ha HK
                refine stepp ha 34 (.slice A1_1 a1.length c1_1) KR KR ?_; intro ax hax; exact HK _ _ _ hax rfl (Below.refl _ _)
              · skip
                intro a wr hn hd HW hs; have ha := hasNil hn hd
                have ha := ha.add (seeE hs 5 (.int .i64 x3050) KR KR)
                have ha := ha.add (seeF hs 28 11 (.bool (((rdL T_api_Write.z a0 x3050).f0) != ((rdL T_api_Write.z a1 x3050).f0))) KR KR)
                have ha := ha.bool 28 KR (ineq_f hp3073)
                refine yStep ha 35 KR ?_; intro l_ ha HK
                refine stepp ha 35 (.int .i64 x3050) KR KR ?_; intro ax hax; exact HK _ _ _ hax rfl (Below.refl _ _)
              · skip
                intro a wr hn hd HW hs; have ha := hasNil hn hd
                have ha := ha.add (seeF hs 34 17 (.slice A1_1 a1.length c1_1) KR KR)
                have ha := ha.add (seeF hs 35 18 (.int .i64 x3050) KR KR)
                have ha := ha.add (seeF hs 28 11 (.bool (((rdL T_api_Write.z a0 x3050).f0) != ((rdL T_api_Write.z a1 x3050).f0))) KR KR)
                have ha := ha.bool 28 KR (ineq_f hp3073)
                replace ha := ha.turn 34 (u := .slice A1_1 a1.length c1_1) (v := .slice (some ⟨b3070, off3071, none⟩) a1.length c1_1) KR (by rw [hA3072])
                refine yStep ha 36 KR ?_; intro l_ ha HK
                refine stepif ha 36 (sz := 2) (len := a1.length) (b := b3070) (off := off3071) (c := c1_1) 44 46 (.tmp 34) (.tmp 35) .i64 x3050 rfl KR KR KR KR hA3063 (show (x3050 : Int) < ((a1).length : Int) from hA3068) KR ?_; intro ax hax; exact HK _ _ _ hax rfl (Below.refl _ _)
              · skip
                intro a wr hn hd HW hs; have ha := hasNil hn hd
                have ha := ha.add (seeF hs 36 19 (.pointer (some ⟨b3070, off3071 + (x3050 : Int).toNat * 2, none⟩)) KR KR)
                have ha := ha.add (seeF hs 28 11 (.bool (((rdL T_api_Write.z a0 x3050).f0) != ((rdL T_api_Write.z a1 x3050).f0))) KR KR)
                have ha := ha.bool 28 KR (ineq_f hp3073)
                refine yStep ha 37 KR ?_; intro l_ ha HK
                refine stepp ha 37 (.pointer (some ⟨b3070, off3071 + (x3050 : Int).toNat * 2 + 1, none⟩)) KR KR ?_; intro ax hax; exact HK _ _ _ hax rfl (Below.refl _ _)
              · skip
                intro a wr hn hd HW hs; have ha := hasNil hn hd
                have ha := ha.add (seeF hs 37 20 (.pointer (some ⟨b3070, off3071 + (x3050 : Int).toNat * 2 + 1, none⟩)) KR KR)
                have ha := ha.add (seeF hs 28 11 (.bool (((rdL T_api_Write.z a0 x3050).f0) != ((rdL T_api_Write.z a1 x3050).f0))) KR KR)
                have ha := ha.bool 28 KR (ineq_f hp3073)
                refine yStep ha 38 KR ?_; intro l_ ha HK
                refine stepl ha 38 (Rd.ca T_api_Write.enc T_api_Write.z (fun _ => rfl) (by have h_ := ((HW.rd0 hr1_1)); rw [hA3072] at h_; exact h_) hA3063 (show (x3050 : Int) < ((a1).length : Int) from hA3068)) 9 1 (.tmp 37) (.string ((rdL T_api_Write.z a1 x3050).f1)) rfl KR KR KR ?_; intro ax hax; exact HK _ _ _ hax rfl (Below.refl _ _)
              · skip
                intro a wr hn hd HW hs; have ha := hasNil hn hd
                have ha := ha.add (seeF hs 33 16 (.string ((rdL T_api_Write.z a0 x3050).f1)) KR KR)
                have ha := ha.add (seeF hs 38 21 (.string ((rdL T_api_Write.z a1 x3050).f1)) KR KR)
                have ha := ha.add (seeF hs 28 11 (.bool (((rdL T_api_Write.z a0 x3050).f0) != ((rdL T_api_Write.z a1 x3050).f0))) KR KR)
                have ha := ha.bool 28 KR (ineq_f hp3073)
                refine yStep ha 39 KR ?_; intro l_ ha HK
                refine stepp ha 39 (.bool (!(((rdL T_api_Write.z a0 x3050).f1).toList == ((rdL T_api_Write.z a1 x3050).f1).toList))) KR KR ?_; intro ax hax; exact HK _ _ _ hax rfl (Below.refl _ _)
              · skip
                intro a wr hn hd HW hs; have ha := hasNil hn hd
                have ha := ha.add (seeF hs 28 11 (.bool (((rdL T_api_Write.z a0 x3050).f0) != ((rdL T_api_Write.z a1 x3050).f0))) KR KR)
                have ha := ha.bool 28 KR (ineq_f hp3073)
                have ha := ha.add (seeF hs 39 22 (.bool (!(((rdL T_api_Write.z a0 x3050).f1).toList == ((rdL T_api_Write.z a1 x3050).f1).toList))) KR KR)
                refine yStep ha 40 KR ?_; intro l_ ha HK
                refine stepp ha 40 (.bool (!(((rdL T_api_Write.z a0 x3050).f1).toList == ((rdL T_api_Write.z a1 x3050).f1).toList))) KR KR ?_; intro ax hax; exact HK _ _ _ hax rfl (Below.refl _ _)
            · skip
              intro a W3076 ha HW he hf
              replace ha := ha.add (he 0 (.slice A0_0 a0.length c0_0) KR KR)
              replace ha := ha.add (he 1 (.slice A1_1 a1.length c1_1) KR KR)
              replace ha := ha.add (he 5 (.int .i64 x3050) KR KR)
              replace ha := ha.add (gotF (m := 24) (j := 12) (d := 29) (v := .slice A0_0 a0.length c0_0) hf KR KR KR)
              replace ha := ha.add (gotF (m := 24) (j := 13) (d := 30) (v := .int .i64 x3050) hf KR KR KR)
              replace ha := ha.add (gotF (m := 24) (j := 16) (d := 33) (v := .string ((rdL T_api_Write.z a0 x3050).f1)) hf KR KR KR)
              replace ha := ha.add (gotF (m := 24) (j := 17) (d := 34) (v := .slice A1_1 a1.length c1_1) hf KR KR KR)
              replace ha := ha.add (gotF (m := 24) (j := 18) (d := 35) (v := .int .i64 x3050) hf KR KR KR)
              replace ha := ha.add (gotF (m := 24) (j := 21) (d := 38) (v := .string ((rdL T_api_Write.z a1 x3050).f1)) hf KR KR KR)
              replace ha := ha.add (gotF (m := 24) (j := 22) (d := 39) (v := .bool (!(((rdL T_api_Write.z a0 x3050).f1).toList == ((rdL T_api_Write.z a1 x3050).f1).toList))) hf KR KR KR)
              replace ha := ha.add (gotF (m := 24) (j := 23) (d := 40) (v := .bool (!(((rdL T_api_Write.z a0 x3050).f1).toList == ((rdL T_api_Write.z a1 x3050).f1).toList))) hf KR KR KR)
              clear he hf
              refine endl ?_
              refine thenN (hK3062 _ _ ?_); clear hK3062
              by_cases hp3078 : ((rdL T_api_Write.z a0 x3050).f1) = ((rdL T_api_Write.z a1 x3050).f1)
              · skip
                replace h := ite_pos' h hp3078
                refine condF ha KR KR (t := (!(((rdL T_api_Write.z a0 x3050).f1).toList == ((rdL T_api_Write.z a1 x3050).f1).toList))) (str_ne_f hp3078) ?_
                refine wp_skip ?_
                refine blkN ?_
                refine thenN (hK3060 _ _ ?_); clear hK3060
                refine wp_region_lit ?_
                refine stepp ha 15 (.int .i64 x3050) KR KR ?_; clear ha a; intro a ha
                refine stepp ha 16 (.int .i64 (IntKind.wrap .i64 (x3050 + 1))) KR KR ?_; clear ha a; intro a ha
                refine stepp ha 5 (.int .i64 (IntKind.wrap .i64 (x3050 + 1))) KR KR ?_; clear ha a; intro a ha
                refine endl ?_
                exact thenN ⟨k3052, Nat.lt_succ_self k3052, IntKind.wrap .i64 (x3050 + 1), (by rw [← hag3053]; exact h), ha.sub (subs_cons KR (subs_cons KR (subs_cons KR (subs_nil _)))), HW.pick [] [] (by decide) (by decide) KR KR⟩
              · skip
                replace h := ite_neg' h hp3078
                refine condT ha KR KR (t := (!(((rdL T_api_Write.z a0 x3050).f1).toList == ((rdL T_api_Write.z a1 x3050).f1).toList))) (str_ne_t hp3078) ?_
                refine wp_seq_k (fun K3079 hK3080 => ?_)
                refine wp_region_lit ?_
                refine stepp ha 4 (.bool false) KR KR ?_; clear ha a; intro a ha
                refine endl ?_
                refine thenN (hK3080 _ _ ?_); clear hK3080
                refine wp_ret ?_
                refine blkR ?_
                refine thenR ?_
                refine thenR ?_
                refine blkR ?_
                refine thenR ?_
                obtain rfl := Option.some.inj h
                exact finv ha _ _ rfl (.tmp (v := .bool false) KR .nil) (.bool false) rfl ⟨rfl, HW.pick [] [] (by decide) (by decide) rfl KR⟩
          · skip
            replace h := ite_neg' h hp3073
            refine regionG 24 KR KR ha HW [.fix (.slice A0_0 a0.length c0_0), .fix (.int .i64 x3050), .fix (.pointer (some ⟨b3065, off3066 + (x3050 : Int).toNat * 2, none⟩)), .fix (.pointer (some ⟨b3065, off3066 + (x3050 : Int).toNat * 2, none⟩)), .fix (.int .i64 ((rdL T_api_Write.z a0 x3050).f0)), .fix (.slice A1_1 a1.length c1_1), .fix (.int .i64 x3050), .fix (.pointer (some ⟨b3070, off3071 + (x3050 : Int).toNat * 2, none⟩)), .fix (.pointer (some ⟨b3070, off3071 + (x3050 : Int).toNat * 2, none⟩)), .fix (.int .i64 ((rdL T_api_Write.z a1 x3050).f0)), .fix (.bool (((rdL T_api_Write.z a0 x3050).f0) != ((rdL T_api_Write.z a1 x3050).f0))), .fix (.bool (((rdL T_api_Write.z a0 x3050).f0) != ((rdL T_api_Write.z a1 x3050).f0))), .fix undef, .fix undef, .fix undef, .fix undef, .fix undef, .fix undef, .fix undef, .fix undef, .fix undef, .fix undef, .fix undef, .fix (.bool true)] ?_ ?_
            · skip
              refine ⟨?_, ?_, ?_, ?_, ?_, ?_, ?_, ?_, ?_, ?_, ?_, ?_, ?_, ?_, ?_, ?_, ?_, ?_, ?_, ?_, ?_, ?_, ?_, ?_, trivial⟩
              · skip
                intro a wr hn hd HW hs; have ha := hasNil hn hd
                have ha := ha.add (seeE hs 0 (.slice A0_0 a0.length c0_0) KR KR)
                refine yStep ha 17 KR ?_; intro l_ ha HK
                refine stepp ha 17 (.slice A0_0 a0.length c0_0) KR KR ?_; intro ax hax; exact HK _ _ _ hax rfl (Below.refl _ _)
              · skip
                intro a wr hn hd HW hs; have ha := hasNil hn hd
                have ha := ha.add (seeE hs 5 (.int .i64 x3050) KR KR)
                refine yStep ha 18 KR ?_; intro l_ ha HK
                refine stepp ha 18 (.int .i64 x3050) KR KR ?_; intro ax hax; exact HK _ _ _ hax rfl (Below.refl _ _)
              · skip
                intro a wr hn hd HW hs; have ha := hasNil hn hd
                have ha := ha.add (seeF hs 17 0 (.slice A0_0 a0.length c0_0) KR KR)
                have ha := ha.add (seeF hs 18 1 (.int .i64 x3050) KR KR)
                replace ha := ha.turn 17 (u := .slice A0_0 a0.length c0_0) (v := .slice (some ⟨b3065, off3066, none⟩) a0.length c0_0) KR (by rw [hA3067])
                refine yStep ha 19 KR ?_; intro l_ ha HK
                refine stepif ha 19 (sz := 2) (len := a0.length) (b := b3065) (off := off3066) (c := c0_0) 44 46 (.tmp 17) (.tmp 18) .i64 x3050 rfl KR KR KR KR hA3063 (show (x3050 : Int) < ((a0).length : Int) from hp3058) KR ?_; intro ax hax; exact HK _ _ _ hax rfl (Below.refl _ _)
              · skip
                intro a wr hn hd HW hs; have ha := hasNil hn hd
                have ha := ha.add (seeF hs 19 2 (.pointer (some ⟨b3065, off3066 + (x3050 : Int).toNat * 2, none⟩)) KR KR)
                refine yStep ha 20 KR ?_; intro l_ ha HK
                refine stepp ha 20 (.pointer (some ⟨b3065, off3066 + (x3050 : Int).toNat * 2, none⟩)) KR KR ?_; intro ax hax; exact HK _ _ _ hax rfl (Below.refl _ _)
              · skip
                intro a wr hn hd HW hs; have ha := hasNil hn hd
                have ha := ha.add (seeF hs 20 3 (.pointer (some ⟨b3065, off3066 + (x3050 : Int).toNat * 2, none⟩)) KR KR)
                refine yStep ha 21 KR ?_; intro l_ ha HK
                refine stepl ha 21 (Rd.ca T_api_Write.enc T_api_Write.z (fun _ => rfl) (by have h_ := ((HW.rd0 hr0_0)); rw [hA3067] at h_; exact h_) hA3063 (show (x3050 : Int) < ((a0).length : Int) from hp3058)) 3 0 (.tmp 20) (.int .i64 ((rdL T_api_Write.z a0 x3050).f0)) rfl KR KR KR ?_; intro ax hax; exact HK _ _ _ hax rfl (Below.refl _ _)
              · skip
                intro a wr hn hd HW hs; have ha := hasNil hn hd
                have ha := ha.add (seeE hs 1 (.slice A1_1 a1.length c1_1) KR KR)
                refine yStep ha 22 KR ?_; intro l_ ha HK
                refine stepp ha 22 (.slice A1_1 a1.length c1_1) KR KR ?_; intro ax hax; exact HK _ _ _ hax rfl (Below.refl _ _)
              · skip
                intro a wr hn hd HW hs; have ha := hasNil hn hd
                have ha := ha.add (seeE hs 5 (.int .i64 x3050) KR KR)
                refine yStep ha 23 KR ?_; intro l_ ha HK
                refine stepp ha 23 (.int .i64 x3050) KR KR ?_; intro ax hax; exact HK _ _ _ hax rfl (Below.refl _ _)
              · skip
                intro a wr hn hd HW hs; have ha := hasNil hn hd
                have ha := ha.add (seeF hs 22 5 (.slice A1_1 a1.length c1_1) KR KR)
                have ha := ha.add (seeF hs 23 6 (.int .i64 x3050) KR KR)
                replace ha := ha.turn 22 (u := .slice A1_1 a1.length c1_1) (v := .slice (some ⟨b3070, off3071, none⟩) a1.length c1_1) KR (by rw [hA3072])
                refine yStep ha 24 KR ?_; intro l_ ha HK
                refine stepif ha 24 (sz := 2) (len := a1.length) (b := b3070) (off := off3071) (c := c1_1) 44 46 (.tmp 22) (.tmp 23) .i64 x3050 rfl KR KR KR KR hA3063 (show (x3050 : Int) < ((a1).length : Int) from hA3068) KR ?_; intro ax hax; exact HK _ _ _ hax rfl (Below.refl _ _)
              · skip
                intro a wr hn hd HW hs; have ha := hasNil hn hd
                have ha := ha.add (seeF hs 24 7 (.pointer (some ⟨b3070, off3071 + (x3050 : Int).toNat * 2, none⟩)) KR KR)
                refine yStep ha 25 KR ?_; intro l_ ha HK
                refine stepp ha 25 (.pointer (some ⟨b3070, off3071 + (x3050 : Int).toNat * 2, none⟩)) KR KR ?_; intro ax hax; exact HK _ _ _ hax rfl (Below.refl _ _)
              · skip
                intro a wr hn hd HW hs; have ha := hasNil hn hd
                have ha := ha.add (seeF hs 25 8 (.pointer (some ⟨b3070, off3071 + (x3050 : Int).toNat * 2, none⟩)) KR KR)
                refine yStep ha 26 KR ?_; intro l_ ha HK
                refine stepl ha 26 (Rd.ca T_api_Write.enc T_api_Write.z (fun _ => rfl) (by have h_ := ((HW.rd0 hr1_1)); rw [hA3072] at h_; exact h_) hA3063 (show (x3050 : Int) < ((a1).length : Int) from hA3068)) 3 0 (.tmp 25) (.int .i64 ((rdL T_api_Write.z a1 x3050).f0)) rfl KR KR KR ?_; intro ax hax; exact HK _ _ _ hax rfl (Below.refl _ _)
              · skip
                intro a wr hn hd HW hs; have ha := hasNil hn hd
                have ha := ha.add (seeF hs 21 4 (.int .i64 ((rdL T_api_Write.z a0 x3050).f0)) KR KR)
                have ha := ha.add (seeF hs 26 9 (.int .i64 ((rdL T_api_Write.z a1 x3050).f0)) KR KR)
                refine yStep ha 27 KR ?_; intro l_ ha HK
                refine stepp ha 27 (.bool (((rdL T_api_Write.z a0 x3050).f0) != ((rdL T_api_Write.z a1 x3050).f0))) KR KR ?_; intro ax hax; exact HK _ _ _ hax rfl (Below.refl _ _)
              · skip
                intro a wr hn hd HW hs; have ha := hasNil hn hd
                have ha := ha.add (seeF hs 27 10 (.bool (((rdL T_api_Write.z a0 x3050).f0) != ((rdL T_api_Write.z a1 x3050).f0))) KR KR)
                refine yStep ha 28 KR ?_; intro l_ ha HK
                refine stepp ha 28 (.bool (((rdL T_api_Write.z a0 x3050).f0) != ((rdL T_api_Write.z a1 x3050).f0))) KR KR ?_; intro ax hax; exact HK _ _ _ hax rfl (Below.refl _ _)
              · skip
                intro a wr hn hd HW hs; have ha := hasNil hn hd
                have ha := ha.add (seeE hs 0 (.slice A0_0 a0.length c0_0) KR KR)
                have ha := ha.add (seeF hs 28 11 (.bool (((rdL T_api_Write.z a0 x3050).f0) != ((rdL T_api_Write.z a1 x3050).f0))) KR KR)
                have ha := ha.bool 28 KR (ineq_t hp3073)
                exact yo ha KR rfl
              · skip
                intro a wr hn hd HW hs; have ha := hasNil hn hd
                have ha := ha.add (seeE hs 5 (.int .i64 x3050) KR KR)
                have ha := ha.add (seeF hs 28 11 (.bool (((rdL T_api_Write.z a0 x3050).f0) != ((rdL T_api_Write.z a1 x3050).f0))) KR KR)
                have ha := ha.bool 28 KR (ineq_t hp3073)
                exact yo ha KR rfl
              · skip
                intro a wr hn hd HW hs; have ha := hasNil hn hd
                have ha := ha.add (seeF hs 29 12 (undef) KR KR)
                have ha := ha.add (seeF hs 30 13 (undef) KR KR)
                have ha := ha.add (seeF hs 28 11 (.bool (((rdL T_api_Write.z a0 x3050).f0) != ((rdL T_api_Write.z a1 x3050).f0))) KR KR)
                have ha := ha.bool 28 KR (ineq_t hp3073)
                exact yo ha KR rfl
              · skip
                intro a wr hn hd HW hs; have ha := hasNil hn hd
                have ha := ha.add (seeF hs 31 14 (undef) KR KR)
                have ha := ha.add (seeF hs 28 11 (.bool (((rdL T_api_Write.z a0 x3050).f0) != ((rdL T_api_Write.z a1 x3050).f0))) KR KR)
                have ha := ha.bool 28 KR (ineq_t hp3073)
                exact yo ha KR rfl
              · skip
                intro a wr hn hd HW hs; have ha := hasNil hn hd
                have ha := ha.add (seeF hs 32 15 (undef) KR KR)
                have ha := ha.add (seeF hs 28 11 (.bool (((rdL T_api_Write.z a0 x3050).f0) != ((rdL T_api_Write.z a1 x3050).f0))) KR KR)
                have ha := ha.bool 28 KR (ineq_t hp3073)
                exact yo ha KR rfl
              · skip
                intro a wr hn hd HW hs; have ha := hasNil hn hd
                have ha := ha.add (seeE hs 1 (.slice A1_1 a1.length c1_1) KR KR)
                have ha := ha.add (seeF hs 28 11 (.bool (((rdL T_api_Write.z a0 x3050).f0) != ((rdL T_api_Write.z a1 x3050).f0))) KR KR)
                have ha := ha.bool 28 KR (ineq_t hp3073)
                exact yo ha KR rfl
              · skip
                intro a wr hn hd HW hs; have ha := hasNil hn hd
                have ha := ha.add (seeE hs 5 (.int .i64 x3050) KR KR)
                have ha := ha.add (seeF hs 28 11 (.bool (((rdL T_api_Write.z a0 x3050).f0) != ((rdL T_api_Write.z a1 x3050).f0))) KR KR)
                have ha := ha.bool 28 KR (ineq_t hp3073)
                exact yo ha KR rfl
              · skip
                intro a wr hn hd HW hs; have ha := hasNil hn hd
                have ha := ha.add (seeF hs 34 17 (undef) KR KR)
                have ha := ha.add (seeF hs 35 18 (undef) KR KR)
                have ha := ha.add (seeF hs 28 11 (.bool (((rdL T_api_Write.z a0 x3050).f0) != ((rdL T_api_Write.z a1 x3050).f0))) KR KR)
                have ha := ha.bool 28 KR (ineq_t hp3073)
                exact yo ha KR rfl
              · skip
                intro a wr hn hd HW hs; have ha := hasNil hn hd
                have ha := ha.add (seeF hs 36 19 (undef) KR KR)
                have ha := ha.add (seeF hs 28 11 (.bool (((rdL T_api_Write.z a0 x3050).f0) != ((rdL T_api_Write.z a1 x3050).f0))) KR KR)
                have ha := ha.bool 28 KR (ineq_t hp3073)
                exact yo ha KR rfl
              · skip
                intro a wr hn hd HW hs; have ha := hasNil hn hd
                have ha := ha.add (seeF hs 37 20 (undef) KR KR)
                have ha := ha.add (seeF hs 28 11 (.bool (((rdL T_api_Write.z a0 x3050).f0) != ((rdL T_api_Write.z a1 x3050).f0))) KR KR)
                have ha := ha.bool 28 KR (ineq_t hp3073)
                exact yo ha KR rfl
              · skip
                intro a wr hn hd HW hs; have ha := hasNil hn hd
                have ha := ha.add (seeF hs 33 16 (undef) KR KR)
                have ha := ha.add (seeF hs 38 21 (undef) KR KR)
                have ha := ha.add (seeF hs 28 11 (.bool (((rdL T_api_Write.z a0 x3050).f0) != ((rdL T_api_Write.z a1 x3050).f0))) KR KR)
                have ha := ha.bool 28 KR (ineq_t hp3073)
                exact yo ha KR rfl
              · skip
                intro a wr hn hd HW hs; have ha := hasNil hn hd
                have ha := ha.add (seeF hs 28 11 (.bool (((rdL T_api_Write.z a0 x3050).f0) != ((rdL T_api_Write.z a1 x3050).f0))) KR KR)
                have ha := ha.bool 28 KR (ineq_t hp3073)
                have ha := ha.add (seeF hs 39 22 (undef) KR KR)
                refine yStep ha 40 KR ?_; intro l_ ha HK
                refine stepp ha 40 (.bool true) KR KR ?_; intro ax hax; exact HK _ _ _ hax rfl (Below.refl _ _)
            · skip
              intro a W3077 ha HW he hf
              replace ha := ha.add (he 0 (.slice A0_0 a0.length c0_0) KR KR)
              replace ha := ha.add (he 1 (.slice A1_1 a1.length c1_1) KR KR)
              replace ha := ha.add (he 5 (.int .i64 x3050) KR KR)
              replace ha := ha.add (gotF (m := 24) (j := 23) (d := 40) (v := .bool true) hf KR KR KR)
              clear he hf
              refine endl ?_
              refine thenN (hK3062 _ _ ?_); clear hK3062
              refine condT ha KR KR (t := true) (rfl) ?_
              refine wp_seq_k (fun K3081 hK3082 => ?_)
              refine wp_region_lit ?_
              refine stepp ha 4 (.bool false) KR KR ?_; clear ha a; intro a ha
              refine endl ?_
              refine thenN (hK3082 _ _ ?_); clear hK3082
              refine wp_ret ?_
              refine blkR ?_
              refine thenR ?_
              refine thenR ?_
              refine blkR ?_
              refine thenR ?_
              obtain rfl := Option.some.inj h
              exact finv ha _ _ rfl (.tmp (v := .bool false) KR .nil) (.bool false) rfl ⟨rfl, HW.pick [] [] (by decide) (by decide) rfl KR⟩
        · skip
          replace h := ite_neg' h hp3058
          refine condF ha KR KR (t := decide (x3050 < (a0.length : Int))) (decide_eq_false hp3058) ?_
          refine wp_exit ?_
          refine thenE ?_
          refine thenE ?_
          refine inBlk ?_
          refine thenN (hK2985 _ _ ?_); clear hK2985
          refine wp_seq_k (fun K3083 hK3084 => ?_)
          refine wp_region_lit ?_
          refine stepp ha 4 (.bool true) KR KR ?_; clear ha a; intro a ha
          refine endl ?_
          refine thenN (hK3084 _ _ ?_); clear hK3084
          refine wp_ret ?_
          obtain rfl := Option.some.inj h
          exact finv ha _ _ rfl (.tmp (v := .bool true) KR .nil) (.bool true) rfl ⟨rfl, HW.pick [] [] (by decide) (by decide) rfl KR⟩
  · skip
    replace h := ite_neg' h hp2981
    refine condT ha KR KR (t := ((a0.length : Int) != (a1.length : Int))) (ineq_t hp2981) ?_
    refine wp_seq_k (fun K2982 hK2983 => ?_)
    refine wp_region_lit ?_
    refine stepp ha 4 (.bool false) KR KR ?_; clear ha a; intro a ha
    refine endl ?_
    refine thenN (hK2983 _ _ ?_); clear hK2983
    refine wp_ret ?_
    refine thenR ?_
    obtain rfl := Option.some.inj h
    exact finv ha _ _ rfl (.tmp (v := .bool false) KR .nil) (.bool false) rfl ⟨rfl, HW.pick [] [] (by decide) (by decide) rfl KR⟩
end Go.Proofs.YtdcojinnjpihaaaDoor.F
