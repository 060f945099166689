/- headgate/headgatelaw16.SenseCodes: plain functions, and that the calls come to what they say. No condition. -/
import Derived.Test.YthjjbkgifelooaaDoorFT
import Derived.Test.YthjjbkgifelooaaDoorF33
import Derived.Test.YthjjbkgifelooaaDoorF37
import Derived.Test.YthjjbkgifelooaaDoorF64
namespace Go.Proofs.YthjjbkgifelooaaDoor.F
open Go Go.RowKit Go.Proofs.YthjjbkgifelooaaDoor.X
set_option linter.unusedVariables false
set_option linter.unusedSimpArgs false
/-! ### headgate/headgatelaw16.SenseCodes: function 8 -/
def headgatelaw16_SenseCodes.j1 (K : Nat) (a1 : T_api_Out) (t5532 : Int × T_api_Sense) (t5541 : Int × Int × Int × Bool) : Option Bool :=
  (sense_Of.f K (⟨a1.f0, (⟨#[]⟩ : ByteArray), a1.f2, a1.f3, ([] : List T_api_Reg), 0, (⟨0, (⟨#[]⟩ : ByteArray)⟩ : T_api_Hold), 0⟩ : T_api_Out)).bind fun t5580 => ((sense_Code.f K t5580.1 (⟨t5580.2.f0, t5580.2.f1, t5580.2.f2, t5580.2.f3⟩ : T_api_Sense)).bind fun t5589 => (if t5532.1 = t5580.1 then ((headgatekeep_Senses.f (⟨t5532.2.f0, t5532.2.f1, t5532.2.f2, t5532.2.f3⟩ : T_api_Sense) (⟨t5580.2.f0, t5580.2.f1, t5580.2.f2, t5580.2.f3⟩ : T_api_Sense)).bind fun t5596 => (if t5541.1 = t5589.1 then (if t5541.2.1 = t5589.2.1 then (if t5596 = (t5541.2.2.1 == t5589.2.2.1) then ((headgatelaw16_wakes.f K).bind fun t5603 => (some t5603)) else (some false)) else (if t5596 = false then ((headgatelaw16_wakes.f K).bind fun t5608 => (some t5608)) else (some false))) else (if t5596 = false then ((headgatelaw16_wakes.f K).bind fun t5613 => (some t5613)) else (some false)))) else (if t5541.1 = t5589.1 then (if t5541.2.1 = t5589.2.1 then (if false = (t5541.2.2.1 == t5589.2.2.1) then ((headgatelaw16_wakes.f K).bind fun t5620 => (some t5620)) else (some false)) else ((headgatelaw16_wakes.f K).bind fun t5624 => (some t5624))) else ((headgatelaw16_wakes.f K).bind fun t5628 => (some t5628)))))
def headgatelaw16_SenseCodes.j0 (K : Nat) (a0 : T_api_Out) (a1 : T_api_Out) (t5532 : Int × T_api_Sense) (t5541 : Int × Int × Int × Bool) : Option Bool :=
  if t5541.1 = 3 then (if t5541.2.1 = a0.f2 then (if t5541.1 = 7 then (if t5541.2.2.1 = a0.f3 then (headgatelaw16_SenseCodes.j1 K a1 t5532 t5541) else (some false)) else (headgatelaw16_SenseCodes.j1 K a1 t5532 t5541)) else (some false)) else (if t5541.1 = 7 then (if t5541.2.2.1 = a0.f3 then (headgatelaw16_SenseCodes.j1 K a1 t5532 t5541) else (some false)) else (headgatelaw16_SenseCodes.j1 K a1 t5532 t5541))
def headgatelaw16_SenseCodes.f (K : Nat) (a0 : T_api_Out) (a1 : T_api_Out) : Option Bool :=
  (sense_Of.f K (⟨a0.f0, (⟨#[]⟩ : ByteArray), a0.f2, a0.f3, ([] : List T_api_Reg), 0, (⟨0, (⟨#[]⟩ : ByteArray)⟩ : T_api_Hold), 0⟩ : T_api_Out)).bind fun t5532 => ((sense_Code.f K t5532.1 (⟨t5532.2.f0, t5532.2.f1, t5532.2.f2, t5532.2.f3⟩ : T_api_Sense)).bind fun t5541 => (if t5541.2.2.2 = true then (if t5541.1 = a0.f0 then (headgatelaw16_SenseCodes.j0 K a0 a1 t5532 t5541) else (if t5541.1 = 8 then (headgatelaw16_SenseCodes.j0 K a0 a1 t5532 t5541) else (some false))) else (some false)))
set_option maxRecDepth 100000 in
set_option maxHeartbeats 4000000 in
theorem headgatelaw16_SenseCodes.calls (K : Nat) (a0 : T_api_Out) (a1 : T_api_Out) (A0_0 : Option Addr) (c0_0 : Nat) (A1_1 : Option Addr) (c1_1 : Nat) (r : Bool) (w : World) (hG3 : CA w 3 0 (encs T_sense_row.enc G_sense_rows).toArray) (hr0_0 : Rd 2 w (.slice A0_0 a0.f4.length c0_0) a0.f4.length (encs T_api_Reg.enc a0.f4)) (hr1_1 : Rd 2 w (.slice A1_1 a1.f4.length c1_1) a1.f4.length (encs T_api_Reg.enc a1.f4)) (h : headgatelaw16_SenseCodes.f K a0 a1 = some r) :
    Calls Tryd.prog 8 #[.agg #[.int .i64 a0.f0, .string a0.f1, .int .i64 a0.f2, .int .i64 a0.f3, .slice A0_0 a0.f4.length c0_0, .int .u32 a0.f5, .int .i64 a0.f6.f0, .string a0.f6.f1, .int .i64 a0.f7], .agg #[.int .i64 a1.f0, .string a1.f1, .int .i64 a1.f2, .int .i64 a1.f3, .slice A1_1 a1.f4.length c1_1, .int .u32 a1.f5, .int .i64 a1.f6.f0, .string a1.f6.f1, .int .i64 a1.f7]] w (fun e W' => e = .returned (.bool r) ∧ Wd w W' [] [] ) := by
  refine sxstart (n := 108) (l := [(0, .agg #[.int .i64 a0.f0, .string a0.f1, .int .i64 a0.f2, .int .i64 a0.f3, .slice A0_0 a0.f4.length c0_0, .int .u32 a0.f5, .int .i64 a0.f6.f0, .string a0.f6.f1, .int .i64 a0.f7]), (1, .agg #[.int .i64 a1.f0, .string a1.f1, .int .i64 a1.f2, .int .i64 a1.f3, .slice A1_1 a1.f4.length c1_1, .int .u32 a1.f5, .int .i64 a1.f6.f0, .string a1.f6.f1, .int .i64 a1.f7])]) Tryd.func8 rfl rfl (Nat.le_of_ble_eq_true KR) (subsA_cons rfl (subsA_cons rfl (subsA_nil _))) ?_
  intro a ha
  have HW := Wd.refl w
  unfold headgatelaw16_SenseCodes.f at h
  refine wp_seq_k (fun K5524 hK5525 => ?_)
  refine wp_region_lit ?_
  refine stepnew ha HW 2 #[.int .i64 a0.f0, .string a0.f1, .int .i64 a0.f2, .int .i64 a0.f3, .slice A0_0 a0.f4.length c0_0, .int .u32 a0.f5, .int .i64 a0.f6.f0, .string a0.f6.f1, .int .i64 a0.f7] 64 KR KR ?_; clear ha HW a; intro b5526 a W5527 HW ha
  refine stepnew ha HW 3 #[.int .i64 a1.f0, .string a1.f1, .int .i64 a1.f2, .int .i64 a1.f3, .slice A1_1 a1.f4.length c1_1, .int .u32 a1.f5, .int .i64 a1.f6.f0, .string a1.f6.f1, .int .i64 a1.f7] 64 KR KR ?_; clear ha HW a; intro b5528 a W5529 HW ha
  refine stepp ha 4 (.bool false) KR KR ?_; clear ha a; intro a ha
  refine endl ?_
  refine thenN (hK5525 _ _ ?_); clear hK5525
  refine wp_seq_k (fun K5530 hK5531 => ?_)
  refine wp_region_lit ?_
  refine stepp ha 18 (.pointer (some ⟨b5526, 0, none⟩)) KR KR ?_; clear ha a; intro a ha
  refine stepl ha 19 (HW.ca (i := 1) (b := b5526) (C := #[.int .i64 a0.f0, .string a0.f1, .int .i64 a0.f2, .int .i64 a0.f3, .slice A0_0 a0.f4.length c0_0, .int .u32 a0.f5, .int .i64 a0.f6.f0, .string a0.f6.f1, .int .i64 a0.f7]) (T := 64) (fr := (0, 0)) KR) 3 0 (.tmp 18) (.int .i64 a0.f0) rfl KR KR KR ?_; clear ha a; intro a ha
  refine stepp ha 20 (.pointer (some ⟨b5526, 2, none⟩)) KR KR ?_; clear ha a; intro a ha
  refine stepl ha 21 (HW.ca (i := 1) (b := b5526) (C := #[.int .i64 a0.f0, .string a0.f1, .int .i64 a0.f2, .int .i64 a0.f3, .slice A0_0 a0.f4.length c0_0, .int .u32 a0.f5, .int .i64 a0.f6.f0, .string a0.f6.f1, .int .i64 a0.f7]) (T := 64) (fr := (0, 0)) KR) 3 2 (.tmp 20) (.int .i64 a0.f2) rfl KR KR KR ?_; clear ha a; intro a ha
  refine stepp ha 22 (.pointer (some ⟨b5526, 3, none⟩)) KR KR ?_; clear ha a; intro a ha
  refine stepl ha 23 (HW.ca (i := 1) (b := b5526) (C := #[.int .i64 a0.f0, .string a0.f1, .int .i64 a0.f2, .int .i64 a0.f3, .slice A0_0 a0.f4.length c0_0, .int .u32 a0.f5, .int .i64 a0.f6.f0, .string a0.f6.f1, .int .i64 a0.f7]) (T := 64) (fr := (0, 0)) KR) 3 3 (.tmp 22) (.int .i64 a0.f3) rfl KR KR KR ?_; clear ha a; intro a ha
  refine stepp ha 24 (.agg #[.int .i64 a0.f0, .string (⟨#[]⟩ : ByteArray), .int .i64 a0.f2, .int .i64 a0.f3, .slice none 0 0, .int .u32 0, .int .i64 0, .string (⟨#[]⟩ : ByteArray), .int .i64 0]) KR KR ?_; clear ha a; intro a ha
  obtain ⟨t5532, ht5533, h_⟩ := bind_some' h; clear h; have h := h_; clear h_
  refine stepc ha 25 KR KR (sense_Of.calls K (⟨a0.f0, (⟨#[]⟩ : ByteArray), a0.f2, a0.f3, ([] : List T_api_Reg), 0, (⟨0, (⟨#[]⟩ : ByteArray)⟩ : T_api_Hold), 0⟩ : T_api_Out) none 0 t5532 _ (HW.ca0 hG3) (Rd.nil _ _) ht5533) ?_; clear ha a; rintro e W5534 ⟨rfl, HX5535⟩
  refine ⟨_, rfl, ?_⟩; intro a ha; replace HW := HW.callw HX5535; clear HX5535
  refine stepp ha 17 (.tuple #[.int .i64 t5532.1, .agg #[.int .i64 t5532.2.f0, .int .i64 t5532.2.f1, .int .i64 t5532.2.f2, .int .i64 t5532.2.f3]]) KR KR ?_; clear ha a; intro a ha
  refine stepp ha 26 (.int .i64 t5532.1) KR KR ?_; clear ha a; intro a ha
  refine stepp ha 27 (.agg #[.int .i64 t5532.2.f0, .int .i64 t5532.2.f1, .int .i64 t5532.2.f2, .int .i64 t5532.2.f3]) KR KR ?_; clear ha a; intro a ha
  refine stepnew ha HW 6 #[.int .i64 0, .int .i64 0, .int .i64 0, .int .i64 0] 66 KR KR ?_; clear ha HW a; intro b5536 a W5537 HW ha
  refine stepp ha 5 (.int .i64 t5532.1) KR KR ?_; clear ha a; intro a ha
  refine stepst ha HW 0 (b := b5536) (C := #[.int .i64 0, .int .i64 0, .int .i64 0, .int .i64 0]) (T := 66) KR 66 0 (.tmp 6) (.tmp 27) (.agg #[.int .i64 t5532.2.f0, .int .i64 t5532.2.f1, .int .i64 t5532.2.f2, .int .i64 t5532.2.f3]) #[.int .i64 t5532.2.f0, .int .i64 t5532.2.f1, .int .i64 t5532.2.f2, .int .i64 t5532.2.f3] rfl KR KR KR KR KR KR KR ?_; clear ha HW a; intro a W5538 HW ha
  refine endl ?_
  refine thenN (hK5531 _ _ ?_); clear hK5531
  refine wp_seq_k (fun K5539 hK5540 => ?_)
  refine wp_region_lit ?_
  refine stepp ha 29 (.int .i64 t5532.1) KR KR ?_; clear ha a; intro a ha
  refine stepl ha 30 (HW.ca (i := 0) (b := b5536) (C := #[.int .i64 t5532.2.f0, .int .i64 t5532.2.f1, .int .i64 t5532.2.f2, .int .i64 t5532.2.f3]) (T := 66) (fr := (0, 0)) KR) 66 0 (.tmp 6) (.agg #[.int .i64 t5532.2.f0, .int .i64 t5532.2.f1, .int .i64 t5532.2.f2, .int .i64 t5532.2.f3]) rfl KR KR KR ?_; clear ha a; intro a ha
  obtain ⟨t5541, ht5542, h_⟩ := bind_some' h; clear h; have h := h_; clear h_
  refine stepc ha 31 KR KR (sense_Code.calls K t5532.1 (⟨t5532.2.f0, t5532.2.f1, t5532.2.f2, t5532.2.f3⟩ : T_api_Sense) t5541 _ (HW.ca0 hG3) ht5542) ?_; clear ha a; rintro e W5543 ⟨rfl, HX5544⟩
  refine ⟨_, rfl, ?_⟩; intro a ha; replace HW := HW.callw HX5544; clear HX5544
  refine stepp ha 28 (.tuple #[.int .i64 t5541.1, .int .i64 t5541.2.1, .int .i64 t5541.2.2.1, .bool t5541.2.2.2]) KR KR ?_; clear ha a; intro a ha
  refine stepp ha 32 (.int .i64 t5541.1) KR KR ?_; clear ha a; intro a ha
  refine stepp ha 33 (.int .i64 t5541.2.1) KR KR ?_; clear ha a; intro a ha
  refine stepp ha 34 (.int .i64 t5541.2.2.1) KR KR ?_; clear ha a; intro a ha
  refine stepp ha 35 (.bool t5541.2.2.2) KR KR ?_; clear ha a; intro a ha
  refine stepp ha 7 (.int .i64 t5541.1) KR KR ?_; clear ha a; intro a ha
  refine stepp ha 8 (.int .i64 t5541.2.1) KR KR ?_; clear ha a; intro a ha
  refine stepp ha 9 (.int .i64 t5541.2.2.1) KR KR ?_; clear ha a; intro a ha
  refine stepp ha 10 (.bool t5541.2.2.2) KR KR ?_; clear ha a; intro a ha
  refine endl ?_
  refine thenN (hK5540 _ _ ?_); clear hK5540
  refine wp_seq_k (fun K5545 hK5546 => ?_)
  refine wp_seq_k (fun K5547 hK5548 => ?_)
  refine wp_region_lit ?_
  refine stepp ha 36 (.bool t5541.2.2.2) KR KR ?_; clear ha a; intro a ha
  refine stepp ha 37 (.bool (!t5541.2.2.2)) KR KR ?_; clear ha a; intro a ha
  refine endl ?_
  refine thenN (hK5548 _ _ ?_); clear hK5548
  by_cases hp5549 : t5541.2.2.2 = true
  · skip
    replace h := ite_pos' h hp5549
    refine condF ha KR KR (t := (!t5541.2.2.2)) (not_f (hp5549)) ?_
    refine wp_skip ?_
    refine thenN (hK5546 _ _ ?_); clear hK5546
    refine wp_seq_k (fun K5552 hK5553 => ?_)
    refine cutn (fun a W5560 => headgatelaw16_SenseCodes.j0 K a0 a1 t5532 t5541 = some r ∧ Has 108 [(2, .pointer (some ⟨b5526, 0, none⟩)), (3, .pointer (some ⟨b5528, 0, none⟩)), (5, .int .i64 t5532.1), (6, .pointer (some ⟨b5536, 0, none⟩)), (7, .int .i64 t5541.1), (8, .int .i64 t5541.2.1), (9, .int .i64 t5541.2.2.1)] a ∧ Wd w W5560 [(b5526, .cells #[.int .i64 a0.f0, .string a0.f1, .int .i64 a0.f2, .int .i64 a0.f3, .slice A0_0 a0.f4.length c0_0, .int .u32 a0.f5, .int .i64 a0.f6.f0, .string a0.f6.f1, .int .i64 a0.f7] 64 (0, 0)), (b5528, .cells #[.int .i64 a1.f0, .string a1.f1, .int .i64 a1.f2, .int .i64 a1.f3, .slice A1_1 a1.f4.length c1_1, .int .u32 a1.f5, .int .i64 a1.f6.f0, .string a1.f6.f1, .int .i64 a1.f7] 64 (0, 0)), (b5536, .cells #[.int .i64 t5532.2.f0, .int .i64 t5532.2.f1, .int .i64 t5532.2.f2, .int .i64 t5532.2.f3] 66 (0, 0))] []) ?_ ?_
    · skip
      refine wp_seq_k (fun K5554 hK5555 => ?_)
      refine wp_region_lit ?_
      refine stepp ha 38 (.int .i64 t5541.1) KR KR ?_; clear ha a; intro a ha
      refine stepp ha 39 (.pointer (some ⟨b5526, 0, none⟩)) KR KR ?_; clear ha a; intro a ha
      refine stepl ha 40 (HW.ca (i := 2) (b := b5526) (C := #[.int .i64 a0.f0, .string a0.f1, .int .i64 a0.f2, .int .i64 a0.f3, .slice A0_0 a0.f4.length c0_0, .int .u32 a0.f5, .int .i64 a0.f6.f0, .string a0.f6.f1, .int .i64 a0.f7]) (T := 64) (fr := (0, 0)) KR) 3 0 (.tmp 39) (.int .i64 a0.f0) rfl KR KR KR ?_; clear ha a; intro a ha
      refine stepp ha 41 (.bool (t5541.1 != a0.f0)) KR KR ?_; clear ha a; intro a ha
      refine stepp ha 42 (.bool (t5541.1 != a0.f0)) KR KR ?_; clear ha a; intro a ha
      by_cases hp5556 : t5541.1 = a0.f0
      · skip
        replace h := ite_pos' h hp5556
        replace ha := ha.bool 42 KR (ineq_f hp5556)
        refine stepo ha 43 KR ?_; clear ha a; intro a ha
        refine stepo ha 44 KR ?_; clear ha a; intro a ha
        refine stepp ha 45 (.bool false) KR KR ?_; clear ha a; intro a ha
        refine endl ?_
        refine thenN (hK5555 _ _ ?_); clear hK5555
        refine condF ha KR KR (t := false) (rfl) ?_
        refine wp_skip ?_
        exact thenN ⟨h, ha.sub (subs_cons KR (subs_cons KR (subs_cons KR (subs_cons KR (subs_cons KR (subs_cons KR (subs_cons KR (subs_nil _)))))))), HW.pick [2, 1, 0] [] (by decide) (by decide) KR KR⟩
      · skip
        replace h := ite_neg' h hp5556
        replace ha := ha.bool 42 KR (ineq_t hp5556)
        refine stepp ha 43 (.int .i64 t5541.1) KR KR ?_; clear ha a; intro a ha
        refine stepp ha 44 (.bool (t5541.1 != 8)) KR KR ?_; clear ha a; intro a ha
        refine stepp ha 45 (.bool (t5541.1 != 8)) KR KR ?_; clear ha a; intro a ha
        refine endl ?_
        refine thenN (hK5555 _ _ ?_); clear hK5555
        by_cases hp5557 : t5541.1 = 8
        · skip
          replace h := ite_pos' h hp5557
          refine condF ha KR KR (t := (t5541.1 != 8)) (ineq_f hp5557) ?_
          refine wp_skip ?_
          exact thenN ⟨h, ha.sub (subs_cons KR (subs_cons KR (subs_cons KR (subs_cons KR (subs_cons KR (subs_cons KR (subs_cons KR (subs_nil _)))))))), HW.pick [2, 1, 0] [] (by decide) (by decide) KR KR⟩
        · skip
          replace h := ite_neg' h hp5557
          refine condT ha KR KR (t := (t5541.1 != 8)) (ineq_t hp5557) ?_
          refine wp_seq_k (fun K5558 hK5559 => ?_)
          refine wp_region_lit ?_
          refine stepp ha 4 (.bool false) KR KR ?_; clear ha a; intro a ha
          refine endl ?_
          refine thenN (hK5559 _ _ ?_); clear hK5559
          refine wp_ret ?_
          refine thenR ?_
          obtain rfl := Option.some.inj h
          exact finv ha _ _ rfl (.tmp (v := .bool false) KR .nil) (.bool false) rfl ⟨rfl, HW.pick [] [] (by decide) (by decide) rfl KR⟩
    · skip
      intro a W5560 hJ
      obtain ⟨h, ha, HW⟩ := hJ
      replace h : headgatelaw16_SenseCodes.j0 K a0 a1 t5532 t5541 = some r := h
      unfold headgatelaw16_SenseCodes.j0 at h
      refine hK5553 _ _ ?_; clear hK5553
      refine wp_seq_k (fun K5561 hK5562 => ?_)
      refine cutn (fun a W5577 => headgatelaw16_SenseCodes.j1 K a1 t5532 t5541 = some r ∧ Has 108 [(3, .pointer (some ⟨b5528, 0, none⟩)), (5, .int .i64 t5532.1), (6, .pointer (some ⟨b5536, 0, none⟩)), (7, .int .i64 t5541.1), (8, .int .i64 t5541.2.1), (9, .int .i64 t5541.2.2.1)] a ∧ Wd w W5577 [(b5528, .cells #[.int .i64 a1.f0, .string a1.f1, .int .i64 a1.f2, .int .i64 a1.f3, .slice A1_1 a1.f4.length c1_1, .int .u32 a1.f5, .int .i64 a1.f6.f0, .string a1.f6.f1, .int .i64 a1.f7] 64 (0, 0)), (b5536, .cells #[.int .i64 t5532.2.f0, .int .i64 t5532.2.f1, .int .i64 t5532.2.f2, .int .i64 t5532.2.f3] 66 (0, 0))] []) ?_ ?_
      · skip
        refine wp_seq_k (fun K5563 hK5564 => ?_)
        refine wp_region_lit ?_
        refine stepp ha 46 (.int .i64 t5541.1) KR KR ?_; clear ha a; intro a ha
        refine stepp ha 47 (.bool (t5541.1 == 3)) KR KR ?_; clear ha a; intro a ha
        refine stepp ha 48 (.bool (t5541.1 == 3)) KR KR ?_; clear ha a; intro a ha
        by_cases hp5565 : t5541.1 = 3
        · skip
          replace h := ite_pos' h hp5565
          replace ha := ha.bool 48 KR (ieq_t hp5565)
          refine stepp ha 49 (.int .i64 t5541.2.1) KR KR ?_; clear ha a; intro a ha
          refine stepp ha 50 (.pointer (some ⟨b5526, 2, none⟩)) KR KR ?_; clear ha a; intro a ha
          refine stepl ha 51 (HW.ca (i := 0) (b := b5526) (C := #[.int .i64 a0.f0, .string a0.f1, .int .i64 a0.f2, .int .i64 a0.f3, .slice A0_0 a0.f4.length c0_0, .int .u32 a0.f5, .int .i64 a0.f6.f0, .string a0.f6.f1, .int .i64 a0.f7]) (T := 64) (fr := (0, 0)) KR) 3 2 (.tmp 50) (.int .i64 a0.f2) rfl KR KR KR ?_; clear ha a; intro a ha
          refine stepp ha 52 (.bool (t5541.2.1 != a0.f2)) KR KR ?_; clear ha a; intro a ha
          refine stepp ha 53 (.bool (t5541.2.1 != a0.f2)) KR KR ?_; clear ha a; intro a ha
          refine stepp ha 54 (.bool (t5541.2.1 != a0.f2)) KR KR ?_; clear ha a; intro a ha
          by_cases hp5566 : t5541.2.1 = a0.f2
          · skip
            replace h := ite_pos' h hp5566
            replace ha := ha.bool 54 KR (ineq_f hp5566)
            refine stepp ha 55 (.int .i64 t5541.1) KR KR ?_; clear ha a; intro a ha
            refine stepp ha 56 (.bool (t5541.1 == 7)) KR KR ?_; clear ha a; intro a ha
            refine stepp ha 57 (.bool (t5541.1 == 7)) KR KR ?_; clear ha a; intro a ha
            by_cases hp5567 : t5541.1 = 7
            · skip
              replace h := ite_pos' h hp5567
              replace ha := ha.bool 57 KR (ieq_t hp5567)
              refine stepp ha 58 (.int .i64 t5541.2.2.1) KR KR ?_; clear ha a; intro a ha
              refine stepp ha 59 (.pointer (some ⟨b5526, 3, none⟩)) KR KR ?_; clear ha a; intro a ha
              refine stepl ha 60 (HW.ca (i := 0) (b := b5526) (C := #[.int .i64 a0.f0, .string a0.f1, .int .i64 a0.f2, .int .i64 a0.f3, .slice A0_0 a0.f4.length c0_0, .int .u32 a0.f5, .int .i64 a0.f6.f0, .string a0.f6.f1, .int .i64 a0.f7]) (T := 64) (fr := (0, 0)) KR) 3 3 (.tmp 59) (.int .i64 a0.f3) rfl KR KR KR ?_; clear ha a; intro a ha
              refine stepp ha 61 (.bool (t5541.2.2.1 != a0.f3)) KR KR ?_; clear ha a; intro a ha
              refine stepp ha 62 (.bool (t5541.2.2.1 != a0.f3)) KR KR ?_; clear ha a; intro a ha
              refine stepp ha 63 (.bool (t5541.2.2.1 != a0.f3)) KR KR ?_; clear ha a; intro a ha
              refine endl ?_
              refine thenN (hK5564 _ _ ?_); clear hK5564
              by_cases hp5569 : t5541.2.2.1 = a0.f3
              · skip
                replace h := ite_pos' h hp5569
                refine condF ha KR KR (t := (t5541.2.2.1 != a0.f3)) (ineq_f hp5569) ?_
                refine wp_skip ?_
                exact thenN ⟨h, ha.sub (subs_cons KR (subs_cons KR (subs_cons KR (subs_cons KR (subs_cons KR (subs_cons KR (subs_nil _))))))), HW.pick [1, 2] [] (by decide) (by decide) KR KR⟩
              · skip
                replace h := ite_neg' h hp5569
                refine condT ha KR KR (t := (t5541.2.2.1 != a0.f3)) (ineq_t hp5569) ?_
                refine wp_seq_k (fun K5570 hK5571 => ?_)
                refine wp_region_lit ?_
                refine stepp ha 4 (.bool false) KR KR ?_; clear ha a; intro a ha
                refine endl ?_
                refine thenN (hK5571 _ _ ?_); clear hK5571
                refine wp_ret ?_
                refine thenR ?_
                obtain rfl := Option.some.inj h
                exact finv ha _ _ rfl (.tmp (v := .bool false) KR .nil) (.bool false) rfl ⟨rfl, HW.pick [] [] (by decide) (by decide) rfl KR⟩
            · skip
              replace h := ite_neg' h hp5567
              replace ha := ha.bool 57 KR (ieq_f hp5567)
              refine stepo ha 58 KR ?_; clear ha a; intro a ha
              refine stepo ha 59 KR ?_; clear ha a; intro a ha
              refine stepo ha 60 KR ?_; clear ha a; intro a ha
              refine stepo ha 61 KR ?_; clear ha a; intro a ha
              refine stepp ha 62 (.bool false) KR KR ?_; clear ha a; intro a ha
              refine stepp ha 63 (.bool false) KR KR ?_; clear ha a; intro a ha
              refine endl ?_
              refine thenN (hK5564 _ _ ?_); clear hK5564
              refine condF ha KR KR (t := false) (rfl) ?_
              refine wp_skip ?_
              exact thenN ⟨h, ha.sub (subs_cons KR (subs_cons KR (subs_cons KR (subs_cons KR (subs_cons KR (subs_cons KR (subs_nil _))))))), HW.pick [1, 2] [] (by decide) (by decide) KR KR⟩
          · skip
            replace h := ite_neg' h hp5566
            replace ha := ha.bool 54 KR (ineq_t hp5566)
            refine stepo ha 55 KR ?_; clear ha a; intro a ha
            refine stepo ha 56 KR ?_; clear ha a; intro a ha
            refine stepo ha 57 KR ?_; clear ha a; intro a ha
            refine stepo ha 58 KR ?_; clear ha a; intro a ha
            refine stepo ha 59 KR ?_; clear ha a; intro a ha
            refine stepo ha 60 KR ?_; clear ha a; intro a ha
            refine stepo ha 61 KR ?_; clear ha a; intro a ha
            refine stepo ha 62 KR ?_; clear ha a; intro a ha
            refine stepp ha 63 (.bool true) KR KR ?_; clear ha a; intro a ha
            refine endl ?_
            refine thenN (hK5564 _ _ ?_); clear hK5564
            refine condT ha KR KR (t := true) (rfl) ?_
            refine wp_seq_k (fun K5572 hK5573 => ?_)
            refine wp_region_lit ?_
            refine stepp ha 4 (.bool false) KR KR ?_; clear ha a; intro a ha
            refine endl ?_
            refine thenN (hK5573 _ _ ?_); clear hK5573
            refine wp_ret ?_
            refine thenR ?_
            obtain rfl := Option.some.inj h
            exact finv ha _ _ rfl (.tmp (v := .bool false) KR .nil) (.bool false) rfl ⟨rfl, HW.pick [] [] (by decide) (by decide) rfl KR⟩
        · skip
          replace h := ite_neg' h hp5565
          replace ha := ha.bool 48 KR (ieq_f hp5565)
          refine stepo ha 49 KR ?_; clear ha a; intro a ha
          refine stepo ha 50 KR ?_; clear ha a; intro a ha
          refine stepo ha 51 KR ?_; clear ha a; intro a ha
          refine stepo ha 52 KR ?_; clear ha a; intro a ha
          refine stepp ha 53 (.bool false) KR KR ?_; clear ha a; intro a ha
          refine stepp ha 54 (.bool false) KR KR ?_; clear ha a; intro a ha
          refine stepp ha 55 (.int .i64 t5541.1) KR KR ?_; clear ha a; intro a ha
          refine stepp ha 56 (.bool (t5541.1 == 7)) KR KR ?_; clear ha a; intro a ha
          refine stepp ha 57 (.bool (t5541.1 == 7)) KR KR ?_; clear ha a; intro a ha
          by_cases hp5568 : t5541.1 = 7
          · skip
            replace h := ite_pos' h hp5568
            replace ha := ha.bool 57 KR (ieq_t hp5568)
            refine stepp ha 58 (.int .i64 t5541.2.2.1) KR KR ?_; clear ha a; intro a ha
            refine stepp ha 59 (.pointer (some ⟨b5526, 3, none⟩)) KR KR ?_; clear ha a; intro a ha
            refine stepl ha 60 (HW.ca (i := 0) (b := b5526) (C := #[.int .i64 a0.f0, .string a0.f1, .int .i64 a0.f2, .int .i64 a0.f3, .slice A0_0 a0.f4.length c0_0, .int .u32 a0.f5, .int .i64 a0.f6.f0, .string a0.f6.f1, .int .i64 a0.f7]) (T := 64) (fr := (0, 0)) KR) 3 3 (.tmp 59) (.int .i64 a0.f3) rfl KR KR KR ?_; clear ha a; intro a ha
            refine stepp ha 61 (.bool (t5541.2.2.1 != a0.f3)) KR KR ?_; clear ha a; intro a ha
            refine stepp ha 62 (.bool (t5541.2.2.1 != a0.f3)) KR KR ?_; clear ha a; intro a ha
            refine stepp ha 63 (.bool (t5541.2.2.1 != a0.f3)) KR KR ?_; clear ha a; intro a ha
            refine endl ?_
            refine thenN (hK5564 _ _ ?_); clear hK5564
            by_cases hp5574 : t5541.2.2.1 = a0.f3
            · skip
              replace h := ite_pos' h hp5574
              refine condF ha KR KR (t := (t5541.2.2.1 != a0.f3)) (ineq_f hp5574) ?_
              refine wp_skip ?_
              exact thenN ⟨h, ha.sub (subs_cons KR (subs_cons KR (subs_cons KR (subs_cons KR (subs_cons KR (subs_cons KR (subs_nil _))))))), HW.pick [1, 2] [] (by decide) (by decide) KR KR⟩
            · skip
              replace h := ite_neg' h hp5574
              refine condT ha KR KR (t := (t5541.2.2.1 != a0.f3)) (ineq_t hp5574) ?_
              refine wp_seq_k (fun K5575 hK5576 => ?_)
              refine wp_region_lit ?_
              refine stepp ha 4 (.bool false) KR KR ?_; clear ha a; intro a ha
              refine endl ?_
              refine thenN (hK5576 _ _ ?_); clear hK5576
              refine wp_ret ?_
              refine thenR ?_
              obtain rfl := Option.some.inj h
              exact finv ha _ _ rfl (.tmp (v := .bool false) KR .nil) (.bool false) rfl ⟨rfl, HW.pick [] [] (by decide) (by decide) rfl KR⟩
          · skip
            replace h := ite_neg' h hp5568
            replace ha := ha.bool 57 KR (ieq_f hp5568)
            refine stepo ha 58 KR ?_; clear ha a; intro a ha
            refine stepo ha 59 KR ?_; clear ha a; intro a ha
            refine stepo ha 60 KR ?_; clear ha a; intro a ha
            refine stepo ha 61 KR ?_; clear ha a; intro a ha
            refine stepp ha 62 (.bool false) KR KR ?_; clear ha a; intro a ha
            refine stepp ha 63 (.bool false) KR KR ?_; clear ha a; intro a ha
            refine endl ?_
            refine thenN (hK5564 _ _ ?_); clear hK5564
            refine condF ha KR KR (t := false) (rfl) ?_
            refine wp_skip ?_
            exact thenN ⟨h, ha.sub (subs_cons KR (subs_cons KR (subs_cons KR (subs_cons KR (subs_cons KR (subs_cons KR (subs_nil _))))))), HW.pick [1, 2] [] (by decide) (by decide) KR KR⟩
      · skip
        intro a W5577 hJ
        obtain ⟨h, ha, HW⟩ := hJ
        replace h : headgatelaw16_SenseCodes.j1 K a1 t5532 t5541 = some r := h
        unfold headgatelaw16_SenseCodes.j1 at h
        refine hK5562 _ _ ?_; clear hK5562
        refine wp_seq_k (fun K5578 hK5579 => ?_)
        refine wp_region_lit ?_
        refine stepp ha 65 (.pointer (some ⟨b5528, 0, none⟩)) KR KR ?_; clear ha a; intro a ha
        refine stepl ha 66 (HW.ca (i := 0) (b := b5528) (C := #[.int .i64 a1.f0, .string a1.f1, .int .i64 a1.f2, .int .i64 a1.f3, .slice A1_1 a1.f4.length c1_1, .int .u32 a1.f5, .int .i64 a1.f6.f0, .string a1.f6.f1, .int .i64 a1.f7]) (T := 64) (fr := (0, 0)) KR) 3 0 (.tmp 65) (.int .i64 a1.f0) rfl KR KR KR ?_; clear ha a; intro a ha
        refine stepp ha 67 (.pointer (some ⟨b5528, 2, none⟩)) KR KR ?_; clear ha a; intro a ha
        refine stepl ha 68 (HW.ca (i := 0) (b := b5528) (C := #[.int .i64 a1.f0, .string a1.f1, .int .i64 a1.f2, .int .i64 a1.f3, .slice A1_1 a1.f4.length c1_1, .int .u32 a1.f5, .int .i64 a1.f6.f0, .string a1.f6.f1, .int .i64 a1.f7]) (T := 64) (fr := (0, 0)) KR) 3 2 (.tmp 67) (.int .i64 a1.f2) rfl KR KR KR ?_; clear ha a; intro a ha
        refine stepp ha 69 (.pointer (some ⟨b5528, 3, none⟩)) KR KR ?_; clear ha a; intro a ha
        refine stepl ha 70 (HW.ca (i := 0) (b := b5528) (C := #[.int .i64 a1.f0, .string a1.f1, .int .i64 a1.f2, .int .i64 a1.f3, .slice A1_1 a1.f4.length c1_1, .int .u32 a1.f5, .int .i64 a1.f6.f0, .string a1.f6.f1, .int .i64 a1.f7]) (T := 64) (fr := (0, 0)) KR) 3 3 (.tmp 69) (.int .i64 a1.f3) rfl KR KR KR ?_; clear ha a; intro a ha
        refine stepp ha 71 (.agg #[.int .i64 a1.f0, .string (⟨#[]⟩ : ByteArray), .int .i64 a1.f2, .int .i64 a1.f3, .slice none 0 0, .int .u32 0, .int .i64 0, .string (⟨#[]⟩ : ByteArray), .int .i64 0]) KR KR ?_; clear ha a; intro a ha
        obtain ⟨t5580, ht5581, h_⟩ := bind_some' h; clear h; have h := h_; clear h_
        refine stepc ha 72 KR KR (sense_Of.calls K (⟨a1.f0, (⟨#[]⟩ : ByteArray), a1.f2, a1.f3, ([] : List T_api_Reg), 0, (⟨0, (⟨#[]⟩ : ByteArray)⟩ : T_api_Hold), 0⟩ : T_api_Out) none 0 t5580 _ (HW.ca0 hG3) (Rd.nil _ _) ht5581) ?_; clear ha a; rintro e W5582 ⟨rfl, HX5583⟩
        refine ⟨_, rfl, ?_⟩; intro a ha; replace HW := HW.callw HX5583; clear HX5583
        refine stepp ha 64 (.tuple #[.int .i64 t5580.1, .agg #[.int .i64 t5580.2.f0, .int .i64 t5580.2.f1, .int .i64 t5580.2.f2, .int .i64 t5580.2.f3]]) KR KR ?_; clear ha a; intro a ha
        refine stepp ha 73 (.int .i64 t5580.1) KR KR ?_; clear ha a; intro a ha
        refine stepp ha 74 (.agg #[.int .i64 t5580.2.f0, .int .i64 t5580.2.f1, .int .i64 t5580.2.f2, .int .i64 t5580.2.f3]) KR KR ?_; clear ha a; intro a ha
        refine stepnew ha HW 12 #[.int .i64 0, .int .i64 0, .int .i64 0, .int .i64 0] 66 KR KR ?_; clear ha HW a; intro b5584 a W5585 HW ha
        refine stepp ha 11 (.int .i64 t5580.1) KR KR ?_; clear ha a; intro a ha
        refine stepst ha HW 0 (b := b5584) (C := #[.int .i64 0, .int .i64 0, .int .i64 0, .int .i64 0]) (T := 66) KR 66 0 (.tmp 12) (.tmp 74) (.agg #[.int .i64 t5580.2.f0, .int .i64 t5580.2.f1, .int .i64 t5580.2.f2, .int .i64 t5580.2.f3]) #[.int .i64 t5580.2.f0, .int .i64 t5580.2.f1, .int .i64 t5580.2.f2, .int .i64 t5580.2.f3] rfl KR KR KR KR KR KR KR ?_; clear ha HW a; intro a W5586 HW ha
        refine endl ?_
        refine thenN (hK5579 _ _ ?_); clear hK5579
        refine wp_seq_k (fun K5587 hK5588 => ?_)
        refine wp_region_lit ?_
        refine stepp ha 76 (.int .i64 t5580.1) KR KR ?_; clear ha a; intro a ha
        refine stepl ha 77 (HW.ca (i := 0) (b := b5584) (C := #[.int .i64 t5580.2.f0, .int .i64 t5580.2.f1, .int .i64 t5580.2.f2, .int .i64 t5580.2.f3]) (T := 66) (fr := (0, 0)) KR) 66 0 (.tmp 12) (.agg #[.int .i64 t5580.2.f0, .int .i64 t5580.2.f1, .int .i64 t5580.2.f2, .int .i64 t5580.2.f3]) rfl KR KR KR ?_; clear ha a; intro a ha
        obtain ⟨t5589, ht5590, h_⟩ := bind_some' h; clear h; have h := h_; clear h_
        refine stepc ha 78 KR KR (sense_Code.calls K t5580.1 (⟨t5580.2.f0, t5580.2.f1, t5580.2.f2, t5580.2.f3⟩ : T_api_Sense) t5589 _ (HW.ca0 hG3) ht5590) ?_; clear ha a; rintro e W5591 ⟨rfl, HX5592⟩
        refine ⟨_, rfl, ?_⟩; intro a ha; replace HW := HW.callw HX5592; clear HX5592
        refine stepp ha 75 (.tuple #[.int .i64 t5589.1, .int .i64 t5589.2.1, .int .i64 t5589.2.2.1, .bool t5589.2.2.2]) KR KR ?_; clear ha a; intro a ha
        refine stepp ha 79 (.int .i64 t5589.1) KR KR ?_; clear ha a; intro a ha
        refine stepp ha 80 (.int .i64 t5589.2.1) KR KR ?_; clear ha a; intro a ha
        refine stepp ha 81 (.int .i64 t5589.2.2.1) KR KR ?_; clear ha a; intro a ha
        refine stepp ha 82 (.bool t5589.2.2.2) KR KR ?_; clear ha a; intro a ha
        refine stepp ha 13 (.int .i64 t5589.1) KR KR ?_; clear ha a; intro a ha
        refine stepp ha 14 (.int .i64 t5589.2.1) KR KR ?_; clear ha a; intro a ha
        refine stepp ha 15 (.int .i64 t5589.2.2.1) KR KR ?_; clear ha a; intro a ha
        refine stepp ha 16 (.bool t5589.2.2.2) KR KR ?_; clear ha a; intro a ha
        refine endl ?_
        refine thenN (hK5588 _ _ ?_); clear hK5588
        refine wp_seq_k (fun K5593 hK5594 => ?_)
        refine wp_region_lit ?_
        refine stepp ha 83 (.int .i64 t5532.1) KR KR ?_; clear ha a; intro a ha
        refine stepp ha 84 (.int .i64 t5580.1) KR KR ?_; clear ha a; intro a ha
        refine stepp ha 85 (.bool (t5532.1 == t5580.1)) KR KR ?_; clear ha a; intro a ha
        refine stepp ha 86 (.bool (t5532.1 == t5580.1)) KR KR ?_; clear ha a; intro a ha
        by_cases hp5595 : t5532.1 = t5580.1
        · skip
          replace h := ite_pos' h hp5595
          replace ha := ha.bool 86 KR (ieq_t hp5595)
          refine stepl ha 87 (HW.ca (i := 2) (b := b5536) (C := #[.int .i64 t5532.2.f0, .int .i64 t5532.2.f1, .int .i64 t5532.2.f2, .int .i64 t5532.2.f3]) (T := 66) (fr := (0, 0)) KR) 66 0 (.tmp 6) (.agg #[.int .i64 t5532.2.f0, .int .i64 t5532.2.f1, .int .i64 t5532.2.f2, .int .i64 t5532.2.f3]) rfl KR KR KR ?_; clear ha a; intro a ha
          refine stepl ha 88 (HW.ca (i := 0) (b := b5584) (C := #[.int .i64 t5580.2.f0, .int .i64 t5580.2.f1, .int .i64 t5580.2.f2, .int .i64 t5580.2.f3]) (T := 66) (fr := (0, 0)) KR) 66 0 (.tmp 12) (.agg #[.int .i64 t5580.2.f0, .int .i64 t5580.2.f1, .int .i64 t5580.2.f2, .int .i64 t5580.2.f3]) rfl KR KR KR ?_; clear ha a; intro a ha
          obtain ⟨t5596, ht5597, h_⟩ := bind_some' h; clear h; have h := h_; clear h_
          refine stepc ha 89 KR KR (headgatekeep_Senses.calls (⟨t5532.2.f0, t5532.2.f1, t5532.2.f2, t5532.2.f3⟩ : T_api_Sense) (⟨t5580.2.f0, t5580.2.f1, t5580.2.f2, t5580.2.f3⟩ : T_api_Sense) t5596 _ ht5597) ?_; clear ha a; rintro e W5598 ⟨rfl, HX5599⟩
          refine ⟨_, rfl, ?_⟩; intro a ha; replace HW := HW.callw HX5599; clear HX5599
          refine stepp ha 90 (.bool t5596) KR KR ?_; clear ha a; intro a ha
          refine stepp ha 91 (.int .i64 t5541.1) KR KR ?_; clear ha a; intro a ha
          refine stepp ha 92 (.int .i64 t5589.1) KR KR ?_; clear ha a; intro a ha
          refine stepp ha 93 (.bool (t5541.1 == t5589.1)) KR KR ?_; clear ha a; intro a ha
          refine stepp ha 94 (.bool (t5541.1 == t5589.1)) KR KR ?_; clear ha a; intro a ha
          by_cases hp5600 : t5541.1 = t5589.1
          · skip
            replace h := ite_pos' h hp5600
            replace ha := ha.bool 94 KR (ieq_t hp5600)
            refine stepp ha 95 (.int .i64 t5541.2.1) KR KR ?_; clear ha a; intro a ha
            refine stepp ha 96 (.int .i64 t5589.2.1) KR KR ?_; clear ha a; intro a ha
            refine stepp ha 97 (.bool (t5541.2.1 == t5589.2.1)) KR KR ?_; clear ha a; intro a ha
            refine stepp ha 98 (.bool (t5541.2.1 == t5589.2.1)) KR KR ?_; clear ha a; intro a ha
            refine stepp ha 99 (.bool (t5541.2.1 == t5589.2.1)) KR KR ?_; clear ha a; intro a ha
            by_cases hp5601 : t5541.2.1 = t5589.2.1
            · skip
              replace h := ite_pos' h hp5601
              replace ha := ha.bool 99 KR (ieq_t hp5601)
              refine stepp ha 100 (.int .i64 t5541.2.2.1) KR KR ?_; clear ha a; intro a ha
              refine stepp ha 101 (.int .i64 t5589.2.2.1) KR KR ?_; clear ha a; intro a ha
              refine stepp ha 102 (.bool (t5541.2.2.1 == t5589.2.2.1)) KR KR ?_; clear ha a; intro a ha
              refine stepp ha 103 (.bool (t5541.2.2.1 == t5589.2.2.1)) KR KR ?_; clear ha a; intro a ha
              refine stepp ha 104 (.bool (t5596 == (t5541.2.2.1 == t5589.2.2.1))) KR KR ?_; clear ha a; intro a ha
              refine stepp ha 105 (.bool (t5596 == (t5541.2.2.1 == t5589.2.2.1))) KR KR ?_; clear ha a; intro a ha
              by_cases hp5602 : t5596 = (t5541.2.2.1 == t5589.2.2.1)
              · skip
                replace h := ite_pos' h hp5602
                replace ha := ha.bool 105 KR (beq_t hp5602)
                obtain ⟨t5603, ht5604, h_⟩ := bind_some' h; clear h; have h := h_; clear h_
                refine stepc ha 106 KR KR (headgatelaw16_wakes.calls K t5603 _ (HW.ca0 hG3) ht5604) ?_; clear ha a; rintro e W5605 ⟨rfl, HX5606⟩
                refine ⟨_, rfl, ?_⟩; intro a ha; replace HW := HW.callw HX5606; clear HX5606
                refine stepp ha 107 (.bool t5603) KR KR ?_; clear ha a; intro a ha
                refine stepp ha 4 (.bool t5603) KR KR ?_; clear ha a; intro a ha
                refine endl ?_
                refine thenN (hK5594 _ _ ?_); clear hK5594
                refine wp_ret ?_
                obtain rfl := Option.some.inj h
                exact finv ha _ _ rfl (.tmp (v := .bool t5603) KR .nil) (.bool t5603) rfl ⟨rfl, HW.pick [] [] (by decide) (by decide) rfl KR⟩
              · skip
                replace h := ite_neg' h hp5602
                replace ha := ha.bool 105 KR (beq_f hp5602)
                refine stepo ha 106 KR ?_; clear ha a; intro a ha
                refine stepp ha 107 (.bool false) KR KR ?_; clear ha a; intro a ha
                refine stepp ha 4 (.bool false) KR KR ?_; clear ha a; intro a ha
                refine endl ?_
                refine thenN (hK5594 _ _ ?_); clear hK5594
                refine wp_ret ?_
                obtain rfl := Option.some.inj h
                exact finv ha _ _ rfl (.tmp (v := .bool false) KR .nil) (.bool false) rfl ⟨rfl, HW.pick [] [] (by decide) (by decide) rfl KR⟩
            · skip
              replace h := ite_neg' h hp5601
              replace ha := ha.bool 99 KR (ieq_f hp5601)
              refine stepo ha 100 KR ?_; clear ha a; intro a ha
              refine stepo ha 101 KR ?_; clear ha a; intro a ha
              refine stepo ha 102 KR ?_; clear ha a; intro a ha
              refine stepp ha 103 (.bool false) KR KR ?_; clear ha a; intro a ha
              refine stepp ha 104 (.bool (t5596 == false)) KR KR ?_; clear ha a; intro a ha
              refine stepp ha 105 (.bool (t5596 == false)) KR KR ?_; clear ha a; intro a ha
              by_cases hp5607 : t5596 = false
              · skip
                replace h := ite_pos' h hp5607
                replace ha := ha.bool 105 KR (beq_t hp5607)
                obtain ⟨t5608, ht5609, h_⟩ := bind_some' h; clear h; have h := h_; clear h_
                refine stepc ha 106 KR KR (headgatelaw16_wakes.calls K t5608 _ (HW.ca0 hG3) ht5609) ?_; clear ha a; rintro e W5610 ⟨rfl, HX5611⟩
                refine ⟨_, rfl, ?_⟩; intro a ha; replace HW := HW.callw HX5611; clear HX5611
                refine stepp ha 107 (.bool t5608) KR KR ?_; clear ha a; intro a ha
                refine stepp ha 4 (.bool t5608) KR KR ?_; clear ha a; intro a ha
                refine endl ?_
                refine thenN (hK5594 _ _ ?_); clear hK5594
                refine wp_ret ?_
                obtain rfl := Option.some.inj h
                exact finv ha _ _ rfl (.tmp (v := .bool t5608) KR .nil) (.bool t5608) rfl ⟨rfl, HW.pick [] [] (by decide) (by decide) rfl KR⟩
              · skip
                replace h := ite_neg' h hp5607
                replace ha := ha.bool 105 KR (beq_f hp5607)
                refine stepo ha 106 KR ?_; clear ha a; intro a ha
                refine stepp ha 107 (.bool false) KR KR ?_; clear ha a; intro a ha
                refine stepp ha 4 (.bool false) KR KR ?_; clear ha a; intro a ha
                refine endl ?_
                refine thenN (hK5594 _ _ ?_); clear hK5594
                refine wp_ret ?_
                obtain rfl := Option.some.inj h
                exact finv ha _ _ rfl (.tmp (v := .bool false) KR .nil) (.bool false) rfl ⟨rfl, HW.pick [] [] (by decide) (by decide) rfl KR⟩
          · skip
            replace h := ite_neg' h hp5600
            replace ha := ha.bool 94 KR (ieq_f hp5600)
            refine stepo ha 95 KR ?_; clear ha a; intro a ha
            refine stepo ha 96 KR ?_; clear ha a; intro a ha
            refine stepo ha 97 KR ?_; clear ha a; intro a ha
            refine stepp ha 98 (.bool false) KR KR ?_; clear ha a; intro a ha
            refine stepp ha 99 (.bool false) KR KR ?_; clear ha a; intro a ha
            refine stepo ha 100 KR ?_; clear ha a; intro a ha
            refine stepo ha 101 KR ?_; clear ha a; intro a ha
            refine stepo ha 102 KR ?_; clear ha a; intro a ha
            refine stepp ha 103 (.bool false) KR KR ?_; clear ha a; intro a ha
            refine stepp ha 104 (.bool (t5596 == false)) KR KR ?_; clear ha a; intro a ha
            refine stepp ha 105 (.bool (t5596 == false)) KR KR ?_; clear ha a; intro a ha
            by_cases hp5612 : t5596 = false
            · skip
              replace h := ite_pos' h hp5612
              replace ha := ha.bool 105 KR (beq_t hp5612)
              obtain ⟨t5613, ht5614, h_⟩ := bind_some' h; clear h; have h := h_; clear h_
              refine stepc ha 106 KR KR (headgatelaw16_wakes.calls K t5613 _ (HW.ca0 hG3) ht5614) ?_; clear ha a; rintro e W5615 ⟨rfl, HX5616⟩
              refine ⟨_, rfl, ?_⟩; intro a ha; replace HW := HW.callw HX5616; clear HX5616
              refine stepp ha 107 (.bool t5613) KR KR ?_; clear ha a; intro a ha
              refine stepp ha 4 (.bool t5613) KR KR ?_; clear ha a; intro a ha
              refine endl ?_
              refine thenN (hK5594 _ _ ?_); clear hK5594
              refine wp_ret ?_
              obtain rfl := Option.some.inj h
              exact finv ha _ _ rfl (.tmp (v := .bool t5613) KR .nil) (.bool t5613) rfl ⟨rfl, HW.pick [] [] (by decide) (by decide) rfl KR⟩
            · skip
              replace h := ite_neg' h hp5612
              replace ha := ha.bool 105 KR (beq_f hp5612)
              refine stepo ha 106 KR ?_; clear ha a; intro a ha
              refine stepp ha 107 (.bool false) KR KR ?_; clear ha a; intro a ha
              refine stepp ha 4 (.bool false) KR KR ?_; clear ha a; intro a ha
              refine endl ?_
              refine thenN (hK5594 _ _ ?_); clear hK5594
              refine wp_ret ?_
              obtain rfl := Option.some.inj h
              exact finv ha _ _ rfl (.tmp (v := .bool false) KR .nil) (.bool false) rfl ⟨rfl, HW.pick [] [] (by decide) (by decide) rfl KR⟩
        · skip
          replace h := ite_neg' h hp5595
          replace ha := ha.bool 86 KR (ieq_f hp5595)
          refine stepo ha 87 KR ?_; clear ha a; intro a ha
          refine stepo ha 88 KR ?_; clear ha a; intro a ha
          refine stepo ha 89 KR ?_; clear ha a; intro a ha
          refine stepp ha 90 (.bool false) KR KR ?_; clear ha a; intro a ha
          refine stepp ha 91 (.int .i64 t5541.1) KR KR ?_; clear ha a; intro a ha
          refine stepp ha 92 (.int .i64 t5589.1) KR KR ?_; clear ha a; intro a ha
          refine stepp ha 93 (.bool (t5541.1 == t5589.1)) KR KR ?_; clear ha a; intro a ha
          refine stepp ha 94 (.bool (t5541.1 == t5589.1)) KR KR ?_; clear ha a; intro a ha
          by_cases hp5617 : t5541.1 = t5589.1
          · skip
            replace h := ite_pos' h hp5617
            replace ha := ha.bool 94 KR (ieq_t hp5617)
            refine stepp ha 95 (.int .i64 t5541.2.1) KR KR ?_; clear ha a; intro a ha
            refine stepp ha 96 (.int .i64 t5589.2.1) KR KR ?_; clear ha a; intro a ha
            refine stepp ha 97 (.bool (t5541.2.1 == t5589.2.1)) KR KR ?_; clear ha a; intro a ha
            refine stepp ha 98 (.bool (t5541.2.1 == t5589.2.1)) KR KR ?_; clear ha a; intro a ha
            refine stepp ha 99 (.bool (t5541.2.1 == t5589.2.1)) KR KR ?_; clear ha a; intro a ha
            by_cases hp5618 : t5541.2.1 = t5589.2.1
            · skip
              replace h := ite_pos' h hp5618
              replace ha := ha.bool 99 KR (ieq_t hp5618)
              refine stepp ha 100 (.int .i64 t5541.2.2.1) KR KR ?_; clear ha a; intro a ha
              refine stepp ha 101 (.int .i64 t5589.2.2.1) KR KR ?_; clear ha a; intro a ha
              refine stepp ha 102 (.bool (t5541.2.2.1 == t5589.2.2.1)) KR KR ?_; clear ha a; intro a ha
              refine stepp ha 103 (.bool (t5541.2.2.1 == t5589.2.2.1)) KR KR ?_; clear ha a; intro a ha
              refine stepp ha 104 (.bool (false == (t5541.2.2.1 == t5589.2.2.1))) KR KR ?_; clear ha a; intro a ha
              refine stepp ha 105 (.bool (false == (t5541.2.2.1 == t5589.2.2.1))) KR KR ?_; clear ha a; intro a ha
              by_cases hp5619 : false = (t5541.2.2.1 == t5589.2.2.1)
              · skip
                replace h := ite_pos' h hp5619
                replace ha := ha.bool 105 KR (beq_t hp5619)
                obtain ⟨t5620, ht5621, h_⟩ := bind_some' h; clear h; have h := h_; clear h_
                refine stepc ha 106 KR KR (headgatelaw16_wakes.calls K t5620 _ (HW.ca0 hG3) ht5621) ?_; clear ha a; rintro e W5622 ⟨rfl, HX5623⟩
                refine ⟨_, rfl, ?_⟩; intro a ha; replace HW := HW.callw HX5623; clear HX5623
                refine stepp ha 107 (.bool t5620) KR KR ?_; clear ha a; intro a ha
                refine stepp ha 4 (.bool t5620) KR KR ?_; clear ha a; intro a ha
                refine endl ?_
                refine thenN (hK5594 _ _ ?_); clear hK5594
                refine wp_ret ?_
                obtain rfl := Option.some.inj h
                exact finv ha _ _ rfl (.tmp (v := .bool t5620) KR .nil) (.bool t5620) rfl ⟨rfl, HW.pick [] [] (by decide) (by decide) rfl KR⟩
              · skip
                replace h := ite_neg' h hp5619
                replace ha := ha.bool 105 KR (beq_f hp5619)
                refine stepo ha 106 KR ?_; clear ha a; intro a ha
                refine stepp ha 107 (.bool false) KR KR ?_; clear ha a; intro a ha
                refine stepp ha 4 (.bool false) KR KR ?_; clear ha a; intro a ha
                refine endl ?_
                refine thenN (hK5594 _ _ ?_); clear hK5594
                refine wp_ret ?_
                obtain rfl := Option.some.inj h
                exact finv ha _ _ rfl (.tmp (v := .bool false) KR .nil) (.bool false) rfl ⟨rfl, HW.pick [] [] (by decide) (by decide) rfl KR⟩
            · skip
              replace h := ite_neg' h hp5618
              replace ha := ha.bool 99 KR (ieq_f hp5618)
              refine stepo ha 100 KR ?_; clear ha a; intro a ha
              refine stepo ha 101 KR ?_; clear ha a; intro a ha
              refine stepo ha 102 KR ?_; clear ha a; intro a ha
              refine stepp ha 103 (.bool false) KR KR ?_; clear ha a; intro a ha
              refine stepp ha 104 (.bool true) KR KR ?_; clear ha a; intro a ha
              refine stepp ha 105 (.bool true) KR KR ?_; clear ha a; intro a ha
              obtain ⟨t5624, ht5625, h_⟩ := bind_some' h; clear h; have h := h_; clear h_
              refine stepc ha 106 KR KR (headgatelaw16_wakes.calls K t5624 _ (HW.ca0 hG3) ht5625) ?_; clear ha a; rintro e W5626 ⟨rfl, HX5627⟩
              refine ⟨_, rfl, ?_⟩; intro a ha; replace HW := HW.callw HX5627; clear HX5627
              refine stepp ha 107 (.bool t5624) KR KR ?_; clear ha a; intro a ha
              refine stepp ha 4 (.bool t5624) KR KR ?_; clear ha a; intro a ha
              refine endl ?_
              refine thenN (hK5594 _ _ ?_); clear hK5594
              refine wp_ret ?_
              obtain rfl := Option.some.inj h
              exact finv ha _ _ rfl (.tmp (v := .bool t5624) KR .nil) (.bool t5624) rfl ⟨rfl, HW.pick [] [] (by decide) (by decide) rfl KR⟩
          · skip
            replace h := ite_neg' h hp5617
            replace ha := ha.bool 94 KR (ieq_f hp5617)
            refine stepo ha 95 KR ?_; clear ha a; intro a ha
            refine stepo ha 96 KR ?_; clear ha a; intro a ha
            refine stepo ha 97 KR ?_; clear ha a; intro a ha
            refine stepp ha 98 (.bool false) KR KR ?_; clear ha a; intro a ha
            refine stepp ha 99 (.bool false) KR KR ?_; clear ha a; intro a ha
            refine stepo ha 100 KR ?_; clear ha a; intro a ha
            refine stepo ha 101 KR ?_; clear ha a; intro a ha
            refine stepo ha 102 KR ?_; clear ha a; intro a ha
            refine stepp ha 103 (.bool false) KR KR ?_; clear ha a; intro a ha
            refine stepp ha 104 (.bool true) KR KR ?_; clear ha a; intro a ha
            refine stepp ha 105 (.bool true) KR KR ?_; clear ha a; intro a ha
            obtain ⟨t5628, ht5629, h_⟩ := bind_some' h; clear h; have h := h_; clear h_
            refine stepc ha 106 KR KR (headgatelaw16_wakes.calls K t5628 _ (HW.ca0 hG3) ht5629) ?_; clear ha a; rintro e W5630 ⟨rfl, HX5631⟩
            refine ⟨_, rfl, ?_⟩; intro a ha; replace HW := HW.callw HX5631; clear HX5631
            refine stepp ha 107 (.bool t5628) KR KR ?_; clear ha a; intro a ha
            refine stepp ha 4 (.bool t5628) KR KR ?_; clear ha a; intro a ha
            refine endl ?_
            refine thenN (hK5594 _ _ ?_); clear hK5594
            refine wp_ret ?_
            obtain rfl := Option.some.inj h
            exact finv ha _ _ rfl (.tmp (v := .bool t5628) KR .nil) (.bool t5628) rfl ⟨rfl, HW.pick [] [] (by decide) (by decide) rfl KR⟩
  · skip
    replace h := ite_neg' h hp5549
    refine condT ha KR KR (t := (!t5541.2.2.2)) (not_t (bool_f hp5549)) ?_
    refine wp_seq_k (fun K5550 hK5551 => ?_)
    refine wp_region_lit ?_
    refine stepp ha 4 (.bool false) KR KR ?_; clear ha a; intro a ha
    refine endl ?_
    refine thenN (hK5551 _ _ ?_); clear hK5551
    refine wp_ret ?_
    refine thenR ?_
    obtain rfl := Option.some.inj h
    exact finv ha _ _ rfl (.tmp (v := .bool false) KR .nil) (.bool false) rfl ⟨rfl, HW.pick [] [] (by decide) (by decide) rfl KR⟩
end Go.Proofs.YthjjbkgifelooaaDoor.F
