/- headgate/headgatelaw16.SenseOf: plain functions, and that the calls come to what they say. No condition. -/
import Derived.Test.YthjjbkgifelooaaDoorFT
import Derived.Test.YthjjbkgifelooaaDoorF33
import Derived.Test.YthjjbkgifelooaaDoorF34
import Derived.Test.YthjjbkgifelooaaDoorF37
import Derived.Test.YthjjbkgifelooaaDoorF64
import Derived.Test.YthjjbkgifelooaaDoorF66
namespace Go.Proofs.YthjjbkgifelooaaDoor.F
open Go Go.RowKit Go.Proofs.YthjjbkgifelooaaDoor.X
set_option linter.unusedVariables false
set_option linter.unusedSimpArgs false
/-! ### headgate/headgatelaw16.SenseOf: function 7 -/
def headgatelaw16_SenseOf.f (K : Nat) (a0 : T_api_Out) (a1 : Int) (a2 : T_api_Sense) : Option Bool :=
  (sense_Of.f K (⟨a0.f0, (⟨#[]⟩ : ByteArray), a0.f2, a0.f3, ([] : List T_api_Reg), 0, (⟨0, (⟨#[]⟩ : ByteArray)⟩ : T_api_Hold), 0⟩ : T_api_Out)).bind fun t5474 => ((headgateref16_Of.f K (⟨a0.f0, a0.f1, a0.f2, a0.f3, a0.f4, a0.f5, (⟨a0.f6.f0, a0.f6.f1⟩ : T_api_Hold), a0.f7⟩ : T_api_Out)).bind fun t5483 => ((sense_Code.f K a1 a2).bind fun t5492 => ((headgateref16_Code.f K a1 a2).bind fun t5498 => (if t5474.1 = t5483.f0 then ((headgatekeep_Senses.f (⟨t5474.2.f0, t5474.2.f1, t5474.2.f2, t5474.2.f3⟩ : T_api_Sense) (⟨t5483.f1.f0, t5483.f1.f1, t5483.f1.f2, t5483.f1.f3⟩ : T_api_Sense)).bind fun t5511 => (if t5511 = true then (if t5492.1 = t5498.1.f0 then (if t5492.2.1 = t5498.1.f2 then (if t5492.2.2.1 = t5498.1.f3 then (if t5492.2.2.2 = t5498.2 then ((headgatelaw16_wakes.f K).bind fun t5520 => (some t5520)) else (some false)) else (some false)) else (some false)) else (some false)) else (some false))) else (some false)))))
set_option maxRecDepth 100000 in
set_option maxHeartbeats 4000000 in
theorem headgatelaw16_SenseOf.calls (K : Nat) (a0 : T_api_Out) (a1 : Int) (a2 : T_api_Sense) (A0_0 : Option Addr) (c0_0 : Nat) (r : Bool) (w : World) (hG3 : CA w 3 0 (encs T_sense_row.enc G_sense_rows).toArray) (hr0_0 : Rd 2 w (.slice A0_0 a0.f4.length c0_0) a0.f4.length (encs T_api_Reg.enc a0.f4)) (h : headgatelaw16_SenseOf.f K a0 a1 a2 = some r) :
    Calls Tryd.prog 7 #[.agg #[.int .i64 a0.f0, .string a0.f1, .int .i64 a0.f2, .int .i64 a0.f3, .slice A0_0 a0.f4.length c0_0, .int .u32 a0.f5, .int .i64 a0.f6.f0, .string a0.f6.f1, .int .i64 a0.f7], .int .i64 a1, .agg #[.int .i64 a2.f0, .int .i64 a2.f1, .int .i64 a2.f2, .int .i64 a2.f3]] w (fun e W' => e = .returned (.bool r) ∧ Wd w W' [] [] ) := by
  refine sxstart (n := 79) (l := [(0, .agg #[.int .i64 a0.f0, .string a0.f1, .int .i64 a0.f2, .int .i64 a0.f3, .slice A0_0 a0.f4.length c0_0, .int .u32 a0.f5, .int .i64 a0.f6.f0, .string a0.f6.f1, .int .i64 a0.f7]), (1, .int .i64 a1), (2, .agg #[.int .i64 a2.f0, .int .i64 a2.f1, .int .i64 a2.f2, .int .i64 a2.f3])]) Tryd.func7 rfl rfl (Nat.le_of_ble_eq_true KR) (subsA_cons rfl (subsA_cons rfl (subsA_cons rfl (subsA_nil _)))) ?_
  intro a ha
  have HW := Wd.refl w
  unfold headgatelaw16_SenseOf.f at h
  refine wp_seq_k (fun K5466 hK5467 => ?_)
  refine wp_region_lit ?_
  refine stepnew ha HW 3 #[.int .i64 a0.f0, .string a0.f1, .int .i64 a0.f2, .int .i64 a0.f3, .slice A0_0 a0.f4.length c0_0, .int .u32 a0.f5, .int .i64 a0.f6.f0, .string a0.f6.f1, .int .i64 a0.f7] 64 KR KR ?_; clear ha HW a; intro b5468 a W5469 HW ha
  refine stepnew ha HW 5 #[.int .i64 a2.f0, .int .i64 a2.f1, .int .i64 a2.f2, .int .i64 a2.f3] 66 KR KR ?_; clear ha HW a; intro b5470 a W5471 HW ha
  refine stepp ha 6 (.bool false) KR KR ?_; clear ha a; intro a ha
  refine endl ?_
  refine thenN (hK5467 _ _ ?_); clear hK5467
  refine wp_seq_k (fun K5472 hK5473 => ?_)
  refine wp_region_lit ?_
  refine stepp ha 17 (.pointer (some ⟨b5468, 0, none⟩)) KR KR ?_; clear ha a; intro a ha
  refine stepl ha 18 (HW.ca (i := 1) (b := b5468) (C := #[.int .i64 a0.f0, .string a0.f1, .int .i64 a0.f2, .int .i64 a0.f3, .slice A0_0 a0.f4.length c0_0, .int .u32 a0.f5, .int .i64 a0.f6.f0, .string a0.f6.f1, .int .i64 a0.f7]) (T := 64) (fr := (0, 0)) KR) 3 0 (.tmp 17) (.int .i64 a0.f0) rfl KR KR KR ?_; clear ha a; intro a ha
  refine stepp ha 19 (.pointer (some ⟨b5468, 2, none⟩)) KR KR ?_; clear ha a; intro a ha
  refine stepl ha 20 (HW.ca (i := 1) (b := b5468) (C := #[.int .i64 a0.f0, .string a0.f1, .int .i64 a0.f2, .int .i64 a0.f3, .slice A0_0 a0.f4.length c0_0, .int .u32 a0.f5, .int .i64 a0.f6.f0, .string a0.f6.f1, .int .i64 a0.f7]) (T := 64) (fr := (0, 0)) KR) 3 2 (.tmp 19) (.int .i64 a0.f2) rfl KR KR KR ?_; clear ha a; intro a ha
  refine stepp ha 21 (.pointer (some ⟨b5468, 3, none⟩)) KR KR ?_; clear ha a; intro a ha
  refine stepl ha 22 (HW.ca (i := 1) (b := b5468) (C := #[.int .i64 a0.f0, .string a0.f1, .int .i64 a0.f2, .int .i64 a0.f3, .slice A0_0 a0.f4.length c0_0, .int .u32 a0.f5, .int .i64 a0.f6.f0, .string a0.f6.f1, .int .i64 a0.f7]) (T := 64) (fr := (0, 0)) KR) 3 3 (.tmp 21) (.int .i64 a0.f3) rfl KR KR KR ?_; clear ha a; intro a ha
  refine stepp ha 23 (.agg #[.int .i64 a0.f0, .string (⟨#[]⟩ : ByteArray), .int .i64 a0.f2, .int .i64 a0.f3, .slice none 0 0, .int .u32 0, .int .i64 0, .string (⟨#[]⟩ : ByteArray), .int .i64 0]) KR KR ?_; clear ha a; intro a ha
  obtain ⟨t5474, ht5475, h_⟩ := bind_some' h; clear h; have h := h_; clear h_
  refine stepc ha 24 KR KR (sense_Of.calls K (⟨a0.f0, (⟨#[]⟩ : ByteArray), a0.f2, a0.f3, ([] : List T_api_Reg), 0, (⟨0, (⟨#[]⟩ : ByteArray)⟩ : T_api_Hold), 0⟩ : T_api_Out) none 0 t5474 _ (HW.ca0 hG3) (Rd.nil _ _) ht5475) ?_; clear ha a; rintro e W5476 ⟨rfl, HX5477⟩
  refine ⟨_, rfl, ?_⟩; intro a ha; replace HW := HW.callw HX5477; clear HX5477
  refine stepp ha 16 (.tuple #[.int .i64 t5474.1, .agg #[.int .i64 t5474.2.f0, .int .i64 t5474.2.f1, .int .i64 t5474.2.f2, .int .i64 t5474.2.f3]]) KR KR ?_; clear ha a; intro a ha
  refine stepp ha 25 (.int .i64 t5474.1) KR KR ?_; clear ha a; intro a ha
  refine stepp ha 26 (.agg #[.int .i64 t5474.2.f0, .int .i64 t5474.2.f1, .int .i64 t5474.2.f2, .int .i64 t5474.2.f3]) KR KR ?_; clear ha a; intro a ha
  refine stepnew ha HW 8 #[.int .i64 0, .int .i64 0, .int .i64 0, .int .i64 0] 66 KR KR ?_; clear ha HW a; intro b5478 a W5479 HW ha
  refine stepp ha 7 (.int .i64 t5474.1) KR KR ?_; clear ha a; intro a ha
  refine stepst ha HW 0 (b := b5478) (C := #[.int .i64 0, .int .i64 0, .int .i64 0, .int .i64 0]) (T := 66) KR 66 0 (.tmp 8) (.tmp 26) (.agg #[.int .i64 t5474.2.f0, .int .i64 t5474.2.f1, .int .i64 t5474.2.f2, .int .i64 t5474.2.f3]) #[.int .i64 t5474.2.f0, .int .i64 t5474.2.f1, .int .i64 t5474.2.f2, .int .i64 t5474.2.f3] rfl KR KR KR KR KR KR KR ?_; clear ha HW a; intro a W5480 HW ha
  refine endl ?_
  refine thenN (hK5473 _ _ ?_); clear hK5473
  refine wp_seq_k (fun K5481 hK5482 => ?_)
  refine wp_region_lit ?_
  refine stepl ha 27 (HW.ca (i := 2) (b := b5468) (C := #[.int .i64 a0.f0, .string a0.f1, .int .i64 a0.f2, .int .i64 a0.f3, .slice A0_0 a0.f4.length c0_0, .int .u32 a0.f5, .int .i64 a0.f6.f0, .string a0.f6.f1, .int .i64 a0.f7]) (T := 64) (fr := (0, 0)) KR) 64 0 (.tmp 3) (.agg #[.int .i64 a0.f0, .string a0.f1, .int .i64 a0.f2, .int .i64 a0.f3, .slice A0_0 a0.f4.length c0_0, .int .u32 a0.f5, .int .i64 a0.f6.f0, .string a0.f6.f1, .int .i64 a0.f7]) rfl KR KR KR ?_; clear ha a; intro a ha
  obtain ⟨t5483, ht5484, h_⟩ := bind_some' h; clear h; have h := h_; clear h_
  refine stepc ha 28 KR KR (headgateref16_Of.calls K (⟨a0.f0, a0.f1, a0.f2, a0.f3, a0.f4, a0.f5, (⟨a0.f6.f0, a0.f6.f1⟩ : T_api_Hold), a0.f7⟩ : T_api_Out) A0_0 c0_0 t5483 _ ((HW.rd0 hr0_0)) ht5484) ?_; clear ha a; rintro e W5485 ⟨rfl, HX5486⟩
  refine ⟨_, rfl, ?_⟩; intro a ha; replace HW := HW.callw HX5486; clear HX5486
  refine stepnew ha HW 9 #[.int .i64 0, .int .i64 0, .int .i64 0, .int .i64 0, .int .i64 0] 70 KR KR ?_; clear ha HW a; intro b5487 a W5488 HW ha
  refine stepst ha HW 0 (b := b5487) (C := #[.int .i64 0, .int .i64 0, .int .i64 0, .int .i64 0, .int .i64 0]) (T := 70) KR 70 0 (.tmp 9) (.tmp 28) (.agg #[.int .i64 t5483.f0, .int .i64 t5483.f1.f0, .int .i64 t5483.f1.f1, .int .i64 t5483.f1.f2, .int .i64 t5483.f1.f3]) #[.int .i64 t5483.f0, .int .i64 t5483.f1.f0, .int .i64 t5483.f1.f1, .int .i64 t5483.f1.f2, .int .i64 t5483.f1.f3] rfl KR KR KR KR KR KR KR ?_; clear ha HW a; intro a W5489 HW ha
  refine endl ?_
  refine thenN (hK5482 _ _ ?_); clear hK5482
  refine wp_seq_k (fun K5490 hK5491 => ?_)
  refine wp_region_lit ?_
  refine stepp ha 30 (.int .i64 a1) KR KR ?_; clear ha a; intro a ha
  refine stepl ha 31 (HW.ca (i := 2) (b := b5470) (C := #[.int .i64 a2.f0, .int .i64 a2.f1, .int .i64 a2.f2, .int .i64 a2.f3]) (T := 66) (fr := (0, 0)) KR) 66 0 (.tmp 5) (.agg #[.int .i64 a2.f0, .int .i64 a2.f1, .int .i64 a2.f2, .int .i64 a2.f3]) rfl KR KR KR ?_; clear ha a; intro a ha
  obtain ⟨t5492, ht5493, h_⟩ := bind_some' h; clear h; have h := h_; clear h_
  refine stepc ha 32 KR KR (sense_Code.calls K a1 a2 t5492 _ (HW.ca0 hG3) ht5493) ?_; clear ha a; rintro e W5494 ⟨rfl, HX5495⟩
  refine ⟨_, rfl, ?_⟩; intro a ha; replace HW := HW.callw HX5495; clear HX5495
  refine stepp ha 29 (.tuple #[.int .i64 t5492.1, .int .i64 t5492.2.1, .int .i64 t5492.2.2.1, .bool t5492.2.2.2]) KR KR ?_; clear ha a; intro a ha
  refine stepp ha 33 (.int .i64 t5492.1) KR KR ?_; clear ha a; intro a ha
  refine stepp ha 34 (.int .i64 t5492.2.1) KR KR ?_; clear ha a; intro a ha
  refine stepp ha 35 (.int .i64 t5492.2.2.1) KR KR ?_; clear ha a; intro a ha
  refine stepp ha 36 (.bool t5492.2.2.2) KR KR ?_; clear ha a; intro a ha
  refine stepp ha 10 (.int .i64 t5492.1) KR KR ?_; clear ha a; intro a ha
  refine stepp ha 11 (.int .i64 t5492.2.1) KR KR ?_; clear ha a; intro a ha
  refine stepp ha 12 (.int .i64 t5492.2.2.1) KR KR ?_; clear ha a; intro a ha
  refine stepp ha 13 (.bool t5492.2.2.2) KR KR ?_; clear ha a; intro a ha
  refine endl ?_
  refine thenN (hK5491 _ _ ?_); clear hK5491
  refine wp_seq_k (fun K5496 hK5497 => ?_)
  refine wp_region_lit ?_
  refine stepp ha 38 (.int .i64 a1) KR KR ?_; clear ha a; intro a ha
  refine stepl ha 39 (HW.ca (i := 2) (b := b5470) (C := #[.int .i64 a2.f0, .int .i64 a2.f1, .int .i64 a2.f2, .int .i64 a2.f3]) (T := 66) (fr := (0, 0)) KR) 66 0 (.tmp 5) (.agg #[.int .i64 a2.f0, .int .i64 a2.f1, .int .i64 a2.f2, .int .i64 a2.f3]) rfl KR KR KR ?_; clear ha a; intro a ha
  obtain ⟨t5498, ht5499, h_⟩ := bind_some' h; clear h; have h := h_; clear h_
  refine stepc ha 40 KR KR (headgateref16_Code.calls K a1 a2 t5498 _ ht5499) ?_; clear ha a; rintro e W5503 ⟨A5500, c5501, rfl, HX5504⟩
  refine ⟨_, rfl, ?_⟩; intro a ha; replace HW := HW.callw HX5504; clear HX5504
  refine stepp ha 37 (.tuple #[.agg #[.int .i64 t5498.1.f0, .string t5498.1.f1, .int .i64 t5498.1.f2, .int .i64 t5498.1.f3, .slice A5500 t5498.1.f4.length c5501, .int .u32 t5498.1.f5, .int .i64 t5498.1.f6.f0, .string t5498.1.f6.f1, .int .i64 t5498.1.f7], .bool t5498.2]) KR KR ?_; clear ha a; intro a ha
  refine stepp ha 41 (.agg #[.int .i64 t5498.1.f0, .string t5498.1.f1, .int .i64 t5498.1.f2, .int .i64 t5498.1.f3, .slice A5500 t5498.1.f4.length c5501, .int .u32 t5498.1.f5, .int .i64 t5498.1.f6.f0, .string t5498.1.f6.f1, .int .i64 t5498.1.f7]) KR KR ?_; clear ha a; intro a ha
  refine stepp ha 42 (.bool t5498.2) KR KR ?_; clear ha a; intro a ha
  refine stepnew ha HW 14 #[.int .i64 0, .string (⟨#[]⟩ : ByteArray), .int .i64 0, .int .i64 0, .slice none 0 0, .int .u32 0, .int .i64 0, .string (⟨#[]⟩ : ByteArray), .int .i64 0] 64 KR KR ?_; clear ha HW a; intro b5505 a W5506 HW ha
  refine stepst ha HW 0 (b := b5505) (C := #[.int .i64 0, .string (⟨#[]⟩ : ByteArray), .int .i64 0, .int .i64 0, .slice none 0 0, .int .u32 0, .int .i64 0, .string (⟨#[]⟩ : ByteArray), .int .i64 0]) (T := 64) KR 64 0 (.tmp 14) (.tmp 41) (.agg #[.int .i64 t5498.1.f0, .string t5498.1.f1, .int .i64 t5498.1.f2, .int .i64 t5498.1.f3, .slice A5500 t5498.1.f4.length c5501, .int .u32 t5498.1.f5, .int .i64 t5498.1.f6.f0, .string t5498.1.f6.f1, .int .i64 t5498.1.f7]) #[.int .i64 t5498.1.f0, .string t5498.1.f1, .int .i64 t5498.1.f2, .int .i64 t5498.1.f3, .slice A5500 t5498.1.f4.length c5501, .int .u32 t5498.1.f5, .int .i64 t5498.1.f6.f0, .string t5498.1.f6.f1, .int .i64 t5498.1.f7] rfl KR KR KR KR KR KR KR ?_; clear ha HW a; intro a W5507 HW ha
  refine stepp ha 15 (.bool t5498.2) KR KR ?_; clear ha a; intro a ha
  refine endl ?_
  refine thenN (hK5497 _ _ ?_); clear hK5497
  refine wp_seq_k (fun K5508 hK5509 => ?_)
  refine wp_region_lit ?_
  refine stepp ha 43 (.int .i64 t5474.1) KR KR ?_; clear ha a; intro a ha
  refine stepp ha 44 (.pointer (some ⟨b5487, 0, none⟩)) KR KR ?_; clear ha a; intro a ha
  refine stepl ha 45 (HW.ca (i := 1) (b := b5487) (C := #[.int .i64 t5483.f0, .int .i64 t5483.f1.f0, .int .i64 t5483.f1.f1, .int .i64 t5483.f1.f2, .int .i64 t5483.f1.f3]) (T := 70) (fr := (0, 0)) KR) 3 0 (.tmp 44) (.int .i64 t5483.f0) rfl KR KR KR ?_; clear ha a; intro a ha
  refine stepp ha 46 (.bool (t5474.1 == t5483.f0)) KR KR ?_; clear ha a; intro a ha
  refine stepp ha 47 (.bool (t5474.1 == t5483.f0)) KR KR ?_; clear ha a; intro a ha
  by_cases hp5510 : t5474.1 = t5483.f0
  · skip
    replace h := ite_pos' h hp5510
    replace ha := ha.bool 47 KR (ieq_t hp5510)
    refine stepl ha 48 (HW.ca (i := 2) (b := b5478) (C := #[.int .i64 t5474.2.f0, .int .i64 t5474.2.f1, .int .i64 t5474.2.f2, .int .i64 t5474.2.f3]) (T := 66) (fr := (0, 0)) KR) 66 0 (.tmp 8) (.agg #[.int .i64 t5474.2.f0, .int .i64 t5474.2.f1, .int .i64 t5474.2.f2, .int .i64 t5474.2.f3]) rfl KR KR KR ?_; clear ha a; intro a ha
    refine stepp ha 49 (.pointer (some ⟨b5487, 1, none⟩)) KR KR ?_; clear ha a; intro a ha
    refine stepl ha 50 (HW.ca (i := 1) (b := b5487) (C := #[.int .i64 t5483.f0, .int .i64 t5483.f1.f0, .int .i64 t5483.f1.f1, .int .i64 t5483.f1.f2, .int .i64 t5483.f1.f3]) (T := 70) (fr := (0, 0)) KR) 66 1 (.tmp 49) (.agg #[.int .i64 t5483.f1.f0, .int .i64 t5483.f1.f1, .int .i64 t5483.f1.f2, .int .i64 t5483.f1.f3]) rfl KR KR KR ?_; clear ha a; intro a ha
    obtain ⟨t5511, ht5512, h_⟩ := bind_some' h; clear h; have h := h_; clear h_
    refine stepc ha 51 KR KR (headgatekeep_Senses.calls (⟨t5474.2.f0, t5474.2.f1, t5474.2.f2, t5474.2.f3⟩ : T_api_Sense) (⟨t5483.f1.f0, t5483.f1.f1, t5483.f1.f2, t5483.f1.f3⟩ : T_api_Sense) t5511 _ ht5512) ?_; clear ha a; rintro e W5513 ⟨rfl, HX5514⟩
    refine ⟨_, rfl, ?_⟩; intro a ha; replace HW := HW.callw HX5514; clear HX5514
    refine stepp ha 52 (.bool t5511) KR KR ?_; clear ha a; intro a ha
    refine stepp ha 53 (.bool t5511) KR KR ?_; clear ha a; intro a ha
    by_cases hp5515 : t5511 = true
    · skip
      replace h := ite_pos' h hp5515
      replace ha := ha.bool 53 KR (hp5515)
      refine stepp ha 54 (.int .i64 t5492.1) KR KR ?_; clear ha a; intro a ha
      refine stepp ha 55 (.pointer (some ⟨b5505, 0, none⟩)) KR KR ?_; clear ha a; intro a ha
      refine stepl ha 56 (HW.ca (i := 0) (b := b5505) (C := #[.int .i64 t5498.1.f0, .string t5498.1.f1, .int .i64 t5498.1.f2, .int .i64 t5498.1.f3, .slice A5500 t5498.1.f4.length c5501, .int .u32 t5498.1.f5, .int .i64 t5498.1.f6.f0, .string t5498.1.f6.f1, .int .i64 t5498.1.f7]) (T := 64) (fr := (0, 0)) KR) 3 0 (.tmp 55) (.int .i64 t5498.1.f0) rfl KR KR KR ?_; clear ha a; intro a ha
      refine stepp ha 57 (.bool (t5492.1 == t5498.1.f0)) KR KR ?_; clear ha a; intro a ha
      refine stepp ha 58 (.bool (t5492.1 == t5498.1.f0)) KR KR ?_; clear ha a; intro a ha
      refine stepp ha 59 (.bool (t5492.1 == t5498.1.f0)) KR KR ?_; clear ha a; intro a ha
      by_cases hp5516 : t5492.1 = t5498.1.f0
      · skip
        replace h := ite_pos' h hp5516
        replace ha := ha.bool 59 KR (ieq_t hp5516)
        refine stepp ha 60 (.int .i64 t5492.2.1) KR KR ?_; clear ha a; intro a ha
        refine stepp ha 61 (.pointer (some ⟨b5505, 2, none⟩)) KR KR ?_; clear ha a; intro a ha
        refine stepl ha 62 (HW.ca (i := 0) (b := b5505) (C := #[.int .i64 t5498.1.f0, .string t5498.1.f1, .int .i64 t5498.1.f2, .int .i64 t5498.1.f3, .slice A5500 t5498.1.f4.length c5501, .int .u32 t5498.1.f5, .int .i64 t5498.1.f6.f0, .string t5498.1.f6.f1, .int .i64 t5498.1.f7]) (T := 64) (fr := (0, 0)) KR) 3 2 (.tmp 61) (.int .i64 t5498.1.f2) rfl KR KR KR ?_; clear ha a; intro a ha
        refine stepp ha 63 (.bool (t5492.2.1 == t5498.1.f2)) KR KR ?_; clear ha a; intro a ha
        refine stepp ha 64 (.bool (t5492.2.1 == t5498.1.f2)) KR KR ?_; clear ha a; intro a ha
        refine stepp ha 65 (.bool (t5492.2.1 == t5498.1.f2)) KR KR ?_; clear ha a; intro a ha
        by_cases hp5517 : t5492.2.1 = t5498.1.f2
        · skip
          replace h := ite_pos' h hp5517
          replace ha := ha.bool 65 KR (ieq_t hp5517)
          refine stepp ha 66 (.int .i64 t5492.2.2.1) KR KR ?_; clear ha a; intro a ha
          refine stepp ha 67 (.pointer (some ⟨b5505, 3, none⟩)) KR KR ?_; clear ha a; intro a ha
          refine stepl ha 68 (HW.ca (i := 0) (b := b5505) (C := #[.int .i64 t5498.1.f0, .string t5498.1.f1, .int .i64 t5498.1.f2, .int .i64 t5498.1.f3, .slice A5500 t5498.1.f4.length c5501, .int .u32 t5498.1.f5, .int .i64 t5498.1.f6.f0, .string t5498.1.f6.f1, .int .i64 t5498.1.f7]) (T := 64) (fr := (0, 0)) KR) 3 3 (.tmp 67) (.int .i64 t5498.1.f3) rfl KR KR KR ?_; clear ha a; intro a ha
          refine stepp ha 69 (.bool (t5492.2.2.1 == t5498.1.f3)) KR KR ?_; clear ha a; intro a ha
          refine stepp ha 70 (.bool (t5492.2.2.1 == t5498.1.f3)) KR KR ?_; clear ha a; intro a ha
          refine stepp ha 71 (.bool (t5492.2.2.1 == t5498.1.f3)) KR KR ?_; clear ha a; intro a ha
          by_cases hp5518 : t5492.2.2.1 = t5498.1.f3
          · skip
            replace h := ite_pos' h hp5518
            replace ha := ha.bool 71 KR (ieq_t hp5518)
            refine stepp ha 72 (.bool t5492.2.2.2) KR KR ?_; clear ha a; intro a ha
            refine stepp ha 73 (.bool t5498.2) KR KR ?_; clear ha a; intro a ha
            refine stepp ha 74 (.bool (t5492.2.2.2 == t5498.2)) KR KR ?_; clear ha a; intro a ha
            refine stepp ha 75 (.bool (t5492.2.2.2 == t5498.2)) KR KR ?_; clear ha a; intro a ha
            refine stepp ha 76 (.bool (t5492.2.2.2 == t5498.2)) KR KR ?_; clear ha a; intro a ha
            by_cases hp5519 : t5492.2.2.2 = t5498.2
            · skip
              replace h := ite_pos' h hp5519
              replace ha := ha.bool 76 KR (beq_t hp5519)
              obtain ⟨t5520, ht5521, h_⟩ := bind_some' h; clear h; have h := h_; clear h_
              refine stepc ha 77 KR KR (headgatelaw16_wakes.calls K t5520 _ (HW.ca0 hG3) ht5521) ?_; clear ha a; rintro e W5522 ⟨rfl, HX5523⟩
              refine ⟨_, rfl, ?_⟩; intro a ha; replace HW := HW.callw HX5523; clear HX5523
              refine stepp ha 78 (.bool t5520) KR KR ?_; clear ha a; intro a ha
              refine stepp ha 6 (.bool t5520) KR KR ?_; clear ha a; intro a ha
              refine endl ?_
              refine thenN (hK5509 _ _ ?_); clear hK5509
              refine wp_ret ?_
              obtain rfl := Option.some.inj h
              exact finv ha _ _ rfl (.tmp (v := .bool t5520) KR .nil) (.bool t5520) rfl ⟨rfl, HW.pick [] [] (by decide) (by decide) rfl KR⟩
            · skip
              replace h := ite_neg' h hp5519
              replace ha := ha.bool 76 KR (beq_f hp5519)
              refine stepo ha 77 KR ?_; clear ha a; intro a ha
              refine stepp ha 78 (.bool false) KR KR ?_; clear ha a; intro a ha
              refine stepp ha 6 (.bool false) KR KR ?_; clear ha a; intro a ha
              refine endl ?_
              refine thenN (hK5509 _ _ ?_); clear hK5509
              refine wp_ret ?_
              obtain rfl := Option.some.inj h
              exact finv ha _ _ rfl (.tmp (v := .bool false) KR .nil) (.bool false) rfl ⟨rfl, HW.pick [] [] (by decide) (by decide) rfl KR⟩
          · skip
            replace h := ite_neg' h hp5518
            replace ha := ha.bool 71 KR (ieq_f hp5518)
            refine stepo ha 72 KR ?_; clear ha a; intro a ha
            refine stepo ha 73 KR ?_; clear ha a; intro a ha
            refine stepo ha 74 KR ?_; clear ha a; intro a ha
            refine stepp ha 75 (.bool false) KR KR ?_; clear ha a; intro a ha
            refine stepp ha 76 (.bool false) KR KR ?_; clear ha a; intro a ha
            refine stepo ha 77 KR ?_; clear ha a; intro a ha
            refine stepp ha 78 (.bool false) KR KR ?_; clear ha a; intro a ha
            refine stepp ha 6 (.bool false) KR KR ?_; clear ha a; intro a ha
            refine endl ?_
            refine thenN (hK5509 _ _ ?_); clear hK5509
            refine wp_ret ?_
            obtain rfl := Option.some.inj h
            exact finv ha _ _ rfl (.tmp (v := .bool false) KR .nil) (.bool false) rfl ⟨rfl, HW.pick [] [] (by decide) (by decide) rfl KR⟩
        · skip
          replace h := ite_neg' h hp5517
          replace ha := ha.bool 65 KR (ieq_f hp5517)
          refine stepo ha 66 KR ?_; clear ha a; intro a ha
          refine stepo ha 67 KR ?_; clear ha a; intro a ha
          refine stepo ha 68 KR ?_; clear ha a; intro a ha
          refine stepo ha 69 KR ?_; clear ha a; intro a ha
          refine stepp ha 70 (.bool false) KR KR ?_; clear ha a; intro a ha
          refine stepp ha 71 (.bool false) KR KR ?_; clear ha a; intro a ha
          refine stepo ha 72 KR ?_; clear ha a; intro a ha
          refine stepo ha 73 KR ?_; clear ha a; intro a ha
          refine stepo ha 74 KR ?_; clear ha a; intro a ha
          refine stepp ha 75 (.bool false) KR KR ?_; clear ha a; intro a ha
          refine stepp ha 76 (.bool false) KR KR ?_; clear ha a; intro a ha
          refine stepo ha 77 KR ?_; clear ha a; intro a ha
          refine stepp ha 78 (.bool false) KR KR ?_; clear ha a; intro a ha
          refine stepp ha 6 (.bool false) KR KR ?_; clear ha a; intro a ha
          refine endl ?_
          refine thenN (hK5509 _ _ ?_); clear hK5509
          refine wp_ret ?_
          obtain rfl := Option.some.inj h
          exact finv ha _ _ rfl (.tmp (v := .bool false) KR .nil) (.bool false) rfl ⟨rfl, HW.pick [] [] (by decide) (by decide) rfl KR⟩
      · skip
        replace h := ite_neg' h hp5516
        replace ha := ha.bool 59 KR (ieq_f hp5516)
        refine stepo ha 60 KR ?_; clear ha a; intro a ha
        refine stepo ha 61 KR ?_; clear ha a; intro a ha
        refine stepo ha 62 KR ?_; clear ha a; intro a ha
        refine stepo ha 63 KR ?_; clear ha a; intro a ha
        refine stepp ha 64 (.bool false) KR KR ?_; clear ha a; intro a ha
        refine stepp ha 65 (.bool false) KR KR ?_; clear ha a; intro a ha
        refine stepo ha 66 KR ?_; clear ha a; intro a ha
        refine stepo ha 67 KR ?_; clear ha a; intro a ha
        refine stepo ha 68 KR ?_; clear ha a; intro a ha
        refine stepo ha 69 KR ?_; clear ha a; intro a ha
        refine stepp ha 70 (.bool false) KR KR ?_; clear ha a; intro a ha
        refine stepp ha 71 (.bool false) KR KR ?_; clear ha a; intro a ha
        refine stepo ha 72 KR ?_; clear ha a; intro a ha
        refine stepo ha 73 KR ?_; clear ha a; intro a ha
        refine stepo ha 74 KR ?_; clear ha a; intro a ha
        refine stepp ha 75 (.bool false) KR KR ?_; clear ha a; intro a ha
        refine stepp ha 76 (.bool false) KR KR ?_; clear ha a; intro a ha
        refine stepo ha 77 KR ?_; clear ha a; intro a ha
        refine stepp ha 78 (.bool false) KR KR ?_; clear ha a; intro a ha
        refine stepp ha 6 (.bool false) KR KR ?_; clear ha a; intro a ha
        refine endl ?_
        refine thenN (hK5509 _ _ ?_); clear hK5509
        refine wp_ret ?_
        obtain rfl := Option.some.inj h
        exact finv ha _ _ rfl (.tmp (v := .bool false) KR .nil) (.bool false) rfl ⟨rfl, HW.pick [] [] (by decide) (by decide) rfl KR⟩
    · skip
      replace h := ite_neg' h hp5515
      replace ha := ha.bool 53 KR (bool_f hp5515)
      refine stepo ha 54 KR ?_; clear ha a; intro a ha
      refine stepo ha 55 KR ?_; clear ha a; intro a ha
      refine stepo ha 56 KR ?_; clear ha a; intro a ha
      refine stepo ha 57 KR ?_; clear ha a; intro a ha
      refine stepp ha 58 (.bool false) KR KR ?_; clear ha a; intro a ha
      refine stepp ha 59 (.bool false) KR KR ?_; clear ha a; intro a ha
      refine stepo ha 60 KR ?_; clear ha a; intro a ha
      refine stepo ha 61 KR ?_; clear ha a; intro a ha
      refine stepo ha 62 KR ?_; clear ha a; intro a ha
      refine stepo ha 63 KR ?_; clear ha a; intro a ha
      refine stepp ha 64 (.bool false) KR KR ?_; clear ha a; intro a ha
      refine stepp ha 65 (.bool false) KR KR ?_; clear ha a; intro a ha
      refine stepo ha 66 KR ?_; clear ha a; intro a ha
      refine stepo ha 67 KR ?_; clear ha a; intro a ha
      refine stepo ha 68 KR ?_; clear ha a; intro a ha
      refine stepo ha 69 KR ?_; clear ha a; intro a ha
      refine stepp ha 70 (.bool false) KR KR ?_; clear ha a; intro a ha
      refine stepp ha 71 (.bool false) KR KR ?_; clear ha a; intro a ha
      refine stepo ha 72 KR ?_; clear ha a; intro a ha
      refine stepo ha 73 KR ?_; clear ha a; intro a ha
      refine stepo ha 74 KR ?_; clear ha a; intro a ha
      refine stepp ha 75 (.bool false) KR KR ?_; clear ha a; intro a ha
      refine stepp ha 76 (.bool false) KR KR ?_; clear ha a; intro a ha
      refine stepo ha 77 KR ?_; clear ha a; intro a ha
      refine stepp ha 78 (.bool false) KR KR ?_; clear ha a; intro a ha
      refine stepp ha 6 (.bool false) KR KR ?_; clear ha a; intro a ha
      refine endl ?_
      refine thenN (hK5509 _ _ ?_); clear hK5509
      refine wp_ret ?_
      obtain rfl := Option.some.inj h
      exact finv ha _ _ rfl (.tmp (v := .bool false) KR .nil) (.bool false) rfl ⟨rfl, HW.pick [] [] (by decide) (by decide) rfl KR⟩
  · skip
    replace h := ite_neg' h hp5510
    replace ha := ha.bool 47 KR (ieq_f hp5510)
    refine stepo ha 48 KR ?_; clear ha a; intro a ha
    refine stepo ha 49 KR ?_; clear ha a; intro a ha
    refine stepo ha 50 KR ?_; clear ha a; intro a ha
    refine stepo ha 51 KR ?_; clear ha a; intro a ha
    refine stepp ha 52 (.bool false) KR KR ?_; clear ha a; intro a ha
    refine stepp ha 53 (.bool false) KR KR ?_; clear ha a; intro a ha
    refine stepo ha 54 KR ?_; clear ha a; intro a ha
    refine stepo ha 55 KR ?_; clear ha a; intro a ha
    refine stepo ha 56 KR ?_; clear ha a; intro a ha
    refine stepo ha 57 KR ?_; clear ha a; intro a ha
    refine stepp ha 58 (.bool false) KR KR ?_; clear ha a; intro a ha
    refine stepp ha 59 (.bool false) KR KR ?_; clear ha a; intro a ha
    refine stepo ha 60 KR ?_; clear ha a; intro a ha
    refine stepo ha 61 KR ?_; clear ha a; intro a ha
    refine stepo ha 62 KR ?_; clear ha a; intro a ha
    refine stepo ha 63 KR ?_; clear ha a; intro a ha
    refine stepp ha 64 (.bool false) KR KR ?_; clear ha a; intro a ha
    refine stepp ha 65 (.bool false) KR KR ?_; clear ha a; intro a ha
    refine stepo ha 66 KR ?_; clear ha a; intro a ha
    refine stepo ha 67 KR ?_; clear ha a; intro a ha
    refine stepo ha 68 KR ?_; clear ha a; intro a ha
    refine stepo ha 69 KR ?_; clear ha a; intro a ha
    refine stepp ha 70 (.bool false) KR KR ?_; clear ha a; intro a ha
    refine stepp ha 71 (.bool false) KR KR ?_; clear ha a; intro a ha
    refine stepo ha 72 KR ?_; clear ha a; intro a ha
    refine stepo ha 73 KR ?_; clear ha a; intro a ha
    refine stepo ha 74 KR ?_; clear ha a; intro a ha
    refine stepp ha 75 (.bool false) KR KR ?_; clear ha a; intro a ha
    refine stepp ha 76 (.bool false) KR KR ?_; clear ha a; intro a ha
    refine stepo ha 77 KR ?_; clear ha a; intro a ha
    refine stepp ha 78 (.bool false) KR KR ?_; clear ha a; intro a ha
    refine stepp ha 6 (.bool false) KR KR ?_; clear ha a; intro a ha
    refine endl ?_
    refine thenN (hK5509 _ _ ?_); clear hK5509
    refine wp_ret ?_
    obtain rfl := Option.some.inj h
    exact finv ha _ _ rfl (.tmp (v := .bool false) KR .nil) (.bool false) rfl ⟨rfl, HW.pick [] [] (by decide) (by decide) rfl KR⟩
end Go.Proofs.YthjjbkgifelooaaDoor.F
