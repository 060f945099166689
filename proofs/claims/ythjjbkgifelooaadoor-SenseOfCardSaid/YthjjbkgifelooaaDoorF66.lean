/- headgate/headgateref16.two, headgate/headgateref16.Of: plain functions, and that the calls come to what they say. No condition. -/
import Derived.Test.YthjjbkgifelooaaDoorFT
namespace Go.Proofs.YthjjbkgifelooaaDoor.F
open Go Go.RowKit Go.Proofs.YthjjbkgifelooaaDoor.X
set_option linter.unusedVariables false
set_option linter.unusedSimpArgs false
/-! ### headgate/headgateref16.two: function 66 -/
def headgateref16_two.f (a0 : Int) (a1 : Int) (a2 : Int) (a3 : Int) : Option T_headgateref16_Reply :=
  some (⟨2, (⟨a0, a1, a2, a3⟩ : T_api_Sense)⟩ : T_headgateref16_Reply)
set_option maxRecDepth 100000 in
set_option maxHeartbeats 4000000 in
theorem headgateref16_two.calls (a0 : Int) (a1 : Int) (a2 : Int) (a3 : Int)  (r : T_headgateref16_Reply) (w : World)  (h : headgateref16_two.f a0 a1 a2 a3 = some r) :
    Calls Tryd.prog 66 #[.int .i64 a0, .int .i64 a1, .int .i64 a2, .int .i64 a3] w (fun e W' => e = .returned (.agg #[.int .i64 r.f0, .int .i64 r.f1.f0, .int .i64 r.f1.f1, .int .i64 r.f1.f2, .int .i64 r.f1.f3]) ∧ Wd w W' [] [] ) := by
  refine sxstart (n := 15) (l := [(0, .int .i64 a0), (1, .int .i64 a1), (2, .int .i64 a2), (3, .int .i64 a3)]) Tryd.func66 rfl rfl (Nat.le_of_ble_eq_true KR) (subsA_cons rfl (subsA_cons rfl (subsA_cons rfl (subsA_cons rfl (subsA_nil _))))) ?_
  intro a ha
  have HW := Wd.refl w
  unfold headgateref16_two.f at h
  refine wp_seq_k (fun K4499 hK4500 => ?_)
  refine wp_region_lit ?_
  refine stepnew ha HW 8 #[.int .i64 0, .int .i64 0, .int .i64 0, .int .i64 0, .int .i64 0] 70 KR KR ?_; clear ha HW a; intro b4501 a W4502 HW ha
  refine endl ?_
  refine thenN (hK4500 _ _ ?_); clear hK4500
  refine wp_seq_k (fun K4503 hK4504 => ?_)
  refine wp_region_lit ?_
  refine stepp ha 9 (.int .i64 a0) KR KR ?_; clear ha a; intro a ha
  refine stepp ha 10 (.int .i64 a1) KR KR ?_; clear ha a; intro a ha
  refine stepp ha 11 (.int .i64 a2) KR KR ?_; clear ha a; intro a ha
  refine stepp ha 12 (.int .i64 a3) KR KR ?_; clear ha a; intro a ha
  refine stepp ha 13 (.agg #[.int .i64 a0, .int .i64 a1, .int .i64 a2, .int .i64 a3]) KR KR ?_; clear ha a; intro a ha
  refine stepp ha 14 (.agg #[.int .i64 2, .int .i64 a0, .int .i64 a1, .int .i64 a2, .int .i64 a3]) KR KR ?_; clear ha a; intro a ha
  refine stepst ha HW 0 (b := b4501) (C := #[.int .i64 0, .int .i64 0, .int .i64 0, .int .i64 0, .int .i64 0]) (T := 70) KR 70 0 (.tmp 8) (.tmp 14) (.agg #[.int .i64 2, .int .i64 a0, .int .i64 a1, .int .i64 a2, .int .i64 a3]) #[.int .i64 2, .int .i64 a0, .int .i64 a1, .int .i64 a2, .int .i64 a3] rfl KR KR KR KR KR KR KR ?_; clear ha HW a; intro a W4505 HW ha
  refine endl ?_
  refine thenN (hK4504 _ _ ?_); clear hK4504
  refine wp_ret ?_
  obtain rfl := Option.some.inj h
  exact finv ha _ _ rfl (.cell (ad := ⟨b4501, 0, none⟩) (v := .agg #[.int .i64 2, .int .i64 a0, .int .i64 a1, .int .i64 a2, .int .i64 a3]) KR (run_loadVar_ca0 (HW.ca (i := 0) (b := b4501) (C := #[.int .i64 2, .int .i64 a0, .int .i64 a1, .int .i64 a2, .int .i64 a3]) (T := 70) (fr := (0, 0)) KR) 70 0 (.agg #[.int .i64 2, .int .i64 a0, .int .i64 a1, .int .i64 a2, .int .i64 a3]) KR) .nil) (.agg #[.int .i64 2, .int .i64 a0, .int .i64 a1, .int .i64 a2, .int .i64 a3]) rfl ⟨rfl, HW.pick [] [] (by decide) (by decide) rfl KR⟩
/-! ### headgate/headgateref16.Of: function 32 -/
def headgateref16_Of.j0 (K : Nat) (a0 : T_api_Out) (x4534 : Bool) : Option T_headgateref16_Reply :=
  if x4534 = true then ((headgateref16_two.f 14 29 0 a0.f2).bind fun t4539 => (some (⟨t4539.f0, (⟨t4539.f1.f0, t4539.f1.f1, t4539.f1.f2, t4539.f1.f3⟩ : T_api_Sense)⟩ : T_headgateref16_Reply))) else ((headgateref16_two.f 3 12 0 (-1)).bind fun t4621 => (some (⟨t4621.f0, (⟨t4621.f1.f0, t4621.f1.f1, t4621.f1.f2, t4621.f1.f3⟩ : T_api_Sense)⟩ : T_headgateref16_Reply)))
def headgateref16_Of.f (K : Nat) (a0 : T_api_Out) : Option T_headgateref16_Reply :=
  if a0.f0 = 1 then (some (⟨0, (⟨0, 0, 0, (-1)⟩ : T_api_Sense)⟩ : T_headgateref16_Reply)) else (if a0.f0 = 2 then (some (⟨24, (⟨0, 0, 0, (-1)⟩ : T_api_Sense)⟩ : T_headgateref16_Reply)) else (if a0.f0 = 3 then (if a0.f2 ≥ 0 then (headgateref16_Of.j0 K a0 (decide (a0.f2 < 4294967296))) else (headgateref16_Of.j0 K a0 false)) else (if a0.f0 = 4 then ((headgateref16_two.f 5 33 0 (-1)).bind fun t4549 => (some (⟨t4549.f0, (⟨t4549.f1.f0, t4549.f1.f1, t4549.f1.f2, t4549.f1.f3⟩ : T_api_Sense)⟩ : T_headgateref16_Reply))) else (if a0.f0 = 5 then ((headgateref16_two.f 5 36 0 (-1)).bind fun t4559 => (some (⟨t4559.f0, (⟨t4559.f1.f0, t4559.f1.f1, t4559.f1.f2, t4559.f1.f3⟩ : T_api_Sense)⟩ : T_headgateref16_Reply))) else (if a0.f0 = 6 then ((headgateref16_two.f 5 37 0 (-1)).bind fun t4569 => (some (⟨t4569.f0, (⟨t4569.f1.f0, t4569.f1.f1, t4569.f1.f2, t4569.f1.f3⟩ : T_api_Sense)⟩ : T_headgateref16_Reply))) else (if a0.f0 = 7 then (if a0.f3 = 1 then ((headgateref16_two.f 6 41 0 (-1)).bind fun t4584 => (some (⟨t4584.f0, (⟨t4584.f1.f0, t4584.f1.f1, t4584.f1.f2, t4584.f1.f3⟩ : T_api_Sense)⟩ : T_headgateref16_Reply))) else (if a0.f3 = 2 then ((headgateref16_two.f 6 42 5 (-1)).bind fun t4594 => (some (⟨t4594.f0, (⟨t4594.f1.f0, t4594.f1.f1, t4594.f1.f2, t4594.f1.f3⟩ : T_api_Sense)⟩ : T_headgateref16_Reply))) else (if a0.f3 = 3 then ((headgateref16_two.f 6 42 4 (-1)).bind fun t4604 => (some (⟨t4604.f0, (⟨t4604.f1.f0, t4604.f1.f1, t4604.f1.f2, t4604.f1.f3⟩ : T_api_Sense)⟩ : T_headgateref16_Reply))) else (if a0.f3 = 4 then ((headgateref16_two.f 6 42 3 (-1)).bind fun t4614 => (some (⟨t4614.f0, (⟨t4614.f1.f0, t4614.f1.f1, t4614.f1.f2, t4614.f1.f3⟩ : T_api_Sense)⟩ : T_headgateref16_Reply))) else ((headgateref16_two.f 3 12 0 (-1)).bind fun t4628 => (some (⟨t4628.f0, (⟨t4628.f1.f0, t4628.f1.f1, t4628.f1.f2, t4628.f1.f3⟩ : T_api_Sense)⟩ : T_headgateref16_Reply))))))) else ((headgateref16_two.f 3 12 0 (-1)).bind fun t4635 => (some (⟨t4635.f0, (⟨t4635.f1.f0, t4635.f1.f1, t4635.f1.f2, t4635.f1.f3⟩ : T_api_Sense)⟩ : T_headgateref16_Reply)))))))))
set_option maxRecDepth 100000 in
set_option maxHeartbeats 4000000 in
theorem headgateref16_Of.calls (K : Nat) (a0 : T_api_Out) (A0_0 : Option Addr) (c0_0 : Nat) (r : T_headgateref16_Reply) (w : World) (hr0_0 : Rd 2 w (.slice A0_0 a0.f4.length c0_0) a0.f4.length (encs T_api_Reg.enc a0.f4)) (h : headgateref16_Of.f K a0 = some r) :
    Calls Tryd.prog 32 #[.agg #[.int .i64 a0.f0, .string a0.f1, .int .i64 a0.f2, .int .i64 a0.f3, .slice A0_0 a0.f4.length c0_0, .int .u32 a0.f5, .int .i64 a0.f6.f0, .string a0.f6.f1, .int .i64 a0.f7]] w (fun e W' => e = .returned (.agg #[.int .i64 r.f0, .int .i64 r.f1.f0, .int .i64 r.f1.f1, .int .i64 r.f1.f2, .int .i64 r.f1.f3]) ∧ Wd w W' [] [] ) := by
  refine sxstart (n := 52) (l := [(0, .agg #[.int .i64 a0.f0, .string a0.f1, .int .i64 a0.f2, .int .i64 a0.f3, .slice A0_0 a0.f4.length c0_0, .int .u32 a0.f5, .int .i64 a0.f6.f0, .string a0.f6.f1, .int .i64 a0.f7])]) Tryd.func32 rfl rfl (Nat.le_of_ble_eq_true KR) (subsA_cons rfl (subsA_nil _)) ?_
  intro a ha
  have HW := Wd.refl w
  unfold headgateref16_Of.f at h
  refine wp_seq_k (fun K4506 hK4507 => ?_)
  refine wp_region_lit ?_
  refine stepnew ha HW 1 #[.int .i64 a0.f0, .string a0.f1, .int .i64 a0.f2, .int .i64 a0.f3, .slice A0_0 a0.f4.length c0_0, .int .u32 a0.f5, .int .i64 a0.f6.f0, .string a0.f6.f1, .int .i64 a0.f7] 64 KR KR ?_; clear ha HW a; intro b4508 a W4509 HW ha
  refine stepnew ha HW 2 #[.int .i64 0, .int .i64 0, .int .i64 0, .int .i64 0, .int .i64 0] 70 KR KR ?_; clear ha HW a; intro b4510 a W4511 HW ha
  refine endl ?_
  refine thenN (hK4507 _ _ ?_); clear hK4507
  refine wp_seq_k (fun K4512 hK4513 => ?_)
  refine wp_seq_k (fun K4514 hK4515 => ?_)
  refine wp_region_lit ?_
  refine stepp ha 3 (.pointer (some ⟨b4508, 0, none⟩)) KR KR ?_; clear ha a; intro a ha
  refine stepl ha 4 (HW.ca (i := 1) (b := b4508) (C := #[.int .i64 a0.f0, .string a0.f1, .int .i64 a0.f2, .int .i64 a0.f3, .slice A0_0 a0.f4.length c0_0, .int .u32 a0.f5, .int .i64 a0.f6.f0, .string a0.f6.f1, .int .i64 a0.f7]) (T := 64) (fr := (0, 0)) KR) 3 0 (.tmp 3) (.int .i64 a0.f0) rfl KR KR KR ?_; clear ha a; intro a ha
  refine endl ?_
  refine thenN (hK4515 _ _ ?_); clear hK4515
  refine wp_block ?_
  refine wp_seq_k (fun K4516 hK4517 => ?_)
  refine wp_region_lit ?_
  refine stepp ha 6 (.bool (a0.f0 == 1)) KR KR ?_; clear ha a; intro a ha
  refine stepp ha 5 (.bool (a0.f0 == 1)) KR KR ?_; clear ha a; intro a ha
  refine endl ?_
  refine thenN (hK4517 _ _ ?_); clear hK4517
  by_cases hp4518 : a0.f0 = 1
  · skip
    replace h := ite_pos' h hp4518
    refine condT ha KR KR (t := (a0.f0 == 1)) (ieq_t hp4518) ?_
    refine wp_seq_k (fun K4519 hK4520 => ?_)
    refine wp_region_lit ?_
    refine stepp ha 7 (.agg #[.int .i64 0, .int .i64 0, .int .i64 0, .int .i64 (-1)]) KR KR ?_; clear ha a; intro a ha
    refine stepp ha 8 (.agg #[.int .i64 0, .int .i64 0, .int .i64 0, .int .i64 0, .int .i64 (-1)]) KR KR ?_; clear ha a; intro a ha
    refine stepst ha HW 0 (b := b4510) (C := #[.int .i64 0, .int .i64 0, .int .i64 0, .int .i64 0, .int .i64 0]) (T := 70) KR 70 0 (.tmp 2) (.tmp 8) (.agg #[.int .i64 0, .int .i64 0, .int .i64 0, .int .i64 0, .int .i64 (-1)]) #[.int .i64 0, .int .i64 0, .int .i64 0, .int .i64 0, .int .i64 (-1)] rfl KR KR KR KR KR KR KR ?_; clear ha HW a; intro a W4521 HW ha
    refine endl ?_
    refine thenN (hK4520 _ _ ?_); clear hK4520
    refine wp_ret ?_
    refine blkR ?_
    refine thenR ?_
    obtain rfl := Option.some.inj h
    exact finv ha _ _ rfl (.cell (ad := ⟨b4510, 0, none⟩) (v := .agg #[.int .i64 0, .int .i64 0, .int .i64 0, .int .i64 0, .int .i64 (-1)]) KR (run_loadVar_ca0 (HW.ca (i := 0) (b := b4510) (C := #[.int .i64 0, .int .i64 0, .int .i64 0, .int .i64 0, .int .i64 (-1)]) (T := 70) (fr := (0, 0)) KR) 70 0 (.agg #[.int .i64 0, .int .i64 0, .int .i64 0, .int .i64 0, .int .i64 (-1)]) KR) .nil) (.agg #[.int .i64 0, .int .i64 0, .int .i64 0, .int .i64 0, .int .i64 (-1)]) rfl ⟨rfl, HW.pick [] [] (by decide) (by decide) rfl KR⟩
  · skip
    replace h := ite_neg' h hp4518
    refine condF ha KR KR (t := (a0.f0 == 1)) (ieq_f hp4518) ?_
    refine wp_seq_k (fun K4522 hK4523 => ?_)
    refine wp_region_lit ?_
    refine stepp ha 10 (.bool (a0.f0 == 2)) KR KR ?_; clear ha a; intro a ha
    refine stepp ha 9 (.bool (a0.f0 == 2)) KR KR ?_; clear ha a; intro a ha
    refine endl ?_
    refine thenN (hK4523 _ _ ?_); clear hK4523
    by_cases hp4524 : a0.f0 = 2
    · skip
      replace h := ite_pos' h hp4524
      refine condT ha KR KR (t := (a0.f0 == 2)) (ieq_t hp4524) ?_
      refine wp_seq_k (fun K4525 hK4526 => ?_)
      refine wp_region_lit ?_
      refine stepp ha 11 (.agg #[.int .i64 0, .int .i64 0, .int .i64 0, .int .i64 (-1)]) KR KR ?_; clear ha a; intro a ha
      refine stepp ha 12 (.agg #[.int .i64 24, .int .i64 0, .int .i64 0, .int .i64 0, .int .i64 (-1)]) KR KR ?_; clear ha a; intro a ha
      refine stepst ha HW 0 (b := b4510) (C := #[.int .i64 0, .int .i64 0, .int .i64 0, .int .i64 0, .int .i64 0]) (T := 70) KR 70 0 (.tmp 2) (.tmp 12) (.agg #[.int .i64 24, .int .i64 0, .int .i64 0, .int .i64 0, .int .i64 (-1)]) #[.int .i64 24, .int .i64 0, .int .i64 0, .int .i64 0, .int .i64 (-1)] rfl KR KR KR KR KR KR KR ?_; clear ha HW a; intro a W4527 HW ha
      refine endl ?_
      refine thenN (hK4526 _ _ ?_); clear hK4526
      refine wp_ret ?_
      refine blkR ?_
      refine thenR ?_
      obtain rfl := Option.some.inj h
      exact finv ha _ _ rfl (.cell (ad := ⟨b4510, 0, none⟩) (v := .agg #[.int .i64 24, .int .i64 0, .int .i64 0, .int .i64 0, .int .i64 (-1)]) KR (run_loadVar_ca0 (HW.ca (i := 0) (b := b4510) (C := #[.int .i64 24, .int .i64 0, .int .i64 0, .int .i64 0, .int .i64 (-1)]) (T := 70) (fr := (0, 0)) KR) 70 0 (.agg #[.int .i64 24, .int .i64 0, .int .i64 0, .int .i64 0, .int .i64 (-1)]) KR) .nil) (.agg #[.int .i64 24, .int .i64 0, .int .i64 0, .int .i64 0, .int .i64 (-1)]) rfl ⟨rfl, HW.pick [] [] (by decide) (by decide) rfl KR⟩
    · skip
      replace h := ite_neg' h hp4524
      refine condF ha KR KR (t := (a0.f0 == 2)) (ieq_f hp4524) ?_
      refine wp_seq_k (fun K4528 hK4529 => ?_)
      refine wp_region_lit ?_
      refine stepp ha 14 (.bool (a0.f0 == 3)) KR KR ?_; clear ha a; intro a ha
      refine stepp ha 13 (.bool (a0.f0 == 3)) KR KR ?_; clear ha a; intro a ha
      refine endl ?_
      refine thenN (hK4529 _ _ ?_); clear hK4529
      by_cases hp4530 : a0.f0 = 3
      · skip
        replace h := ite_pos' h hp4530
        refine condT ha KR KR (t := (a0.f0 == 3)) (ieq_t hp4530) ?_
        refine wp_seq_k (fun K4531 hK4532 => ?_)
        refine cutn (fun a W4535 => ∃ (x4534 : Bool), headgateref16_Of.j0 K a0 x4534 = some r ∧ Has 52 [(1, .pointer (some ⟨b4508, 0, none⟩)), (2, .pointer (some ⟨b4510, 0, none⟩)), (22, .bool x4534)] a ∧ Wd w W4535 [(b4508, .cells #[.int .i64 a0.f0, .string a0.f1, .int .i64 a0.f2, .int .i64 a0.f3, .slice A0_0 a0.f4.length c0_0, .int .u32 a0.f5, .int .i64 a0.f6.f0, .string a0.f6.f1, .int .i64 a0.f7] 64 (0, 0)), (b4510, .cells #[.int .i64 0, .int .i64 0, .int .i64 0, .int .i64 0, .int .i64 0] 70 (0, 0))] []) ?_ ?_
        · skip
          refine wp_region_lit ?_
          refine stepp ha 15 (.pointer (some ⟨b4508, 2, none⟩)) KR KR ?_; clear ha a; intro a ha
          refine stepl ha 16 (HW.ca (i := 1) (b := b4508) (C := #[.int .i64 a0.f0, .string a0.f1, .int .i64 a0.f2, .int .i64 a0.f3, .slice A0_0 a0.f4.length c0_0, .int .u32 a0.f5, .int .i64 a0.f6.f0, .string a0.f6.f1, .int .i64 a0.f7]) (T := 64) (fr := (0, 0)) KR) 3 2 (.tmp 15) (.int .i64 a0.f2) rfl KR KR KR ?_; clear ha a; intro a ha
          refine stepp ha 17 (.bool (decide (a0.f2 ≥ 0))) KR KR ?_; clear ha a; intro a ha
          refine stepp ha 18 (.bool (decide (a0.f2 ≥ 0))) KR KR ?_; clear ha a; intro a ha
          by_cases hp4533 : a0.f2 ≥ 0
          · skip
            replace h := ite_pos' h hp4533
            replace ha := ha.bool 18 KR (decide_eq_true hp4533)
            refine stepp ha 19 (.pointer (some ⟨b4508, 2, none⟩)) KR KR ?_; clear ha a; intro a ha
            refine stepl ha 20 (HW.ca (i := 1) (b := b4508) (C := #[.int .i64 a0.f0, .string a0.f1, .int .i64 a0.f2, .int .i64 a0.f3, .slice A0_0 a0.f4.length c0_0, .int .u32 a0.f5, .int .i64 a0.f6.f0, .string a0.f6.f1, .int .i64 a0.f7]) (T := 64) (fr := (0, 0)) KR) 3 2 (.tmp 19) (.int .i64 a0.f2) rfl KR KR KR ?_; clear ha a; intro a ha
            refine stepp ha 21 (.bool (decide (a0.f2 < 4294967296))) KR KR ?_; clear ha a; intro a ha
            refine stepp ha 22 (.bool (decide (a0.f2 < 4294967296))) KR KR ?_; clear ha a; intro a ha
            refine endl ?_
            exact thenN ⟨decide (a0.f2 < 4294967296), h, ha.sub (subs_cons KR (subs_cons KR (subs_cons KR (subs_nil _)))), HW.pick [1, 0] [] (by decide) (by decide) KR KR⟩
          · skip
            replace h := ite_neg' h hp4533
            replace ha := ha.bool 18 KR (decide_eq_false hp4533)
            refine stepo ha 19 KR ?_; clear ha a; intro a ha
            refine stepo ha 20 KR ?_; clear ha a; intro a ha
            refine stepo ha 21 KR ?_; clear ha a; intro a ha
            refine stepp ha 22 (.bool false) KR KR ?_; clear ha a; intro a ha
            refine endl ?_
            exact thenN ⟨false, h, ha.sub (subs_cons KR (subs_cons KR (subs_cons KR (subs_nil _)))), HW.pick [1, 0] [] (by decide) (by decide) KR KR⟩
        · skip
          intro a W4535 hJ
          obtain ⟨x4534, h, ha, HW⟩ := hJ
          replace h : headgateref16_Of.j0 K a0 x4534 = some r := h
          unfold headgateref16_Of.j0 at h
          refine hK4532 _ _ ?_; clear hK4532
          by_cases hp4536 : x4534 = true
          · skip
            replace h := ite_pos' h hp4536
            refine condT ha KR KR (t := x4534) (hp4536) ?_
            refine wp_seq_k (fun K4537 hK4538 => ?_)
            refine wp_region_lit ?_
            refine stepp ha 23 (.pointer (some ⟨b4508, 2, none⟩)) KR KR ?_; clear ha a; intro a ha
            refine stepl ha 24 (HW.ca (i := 0) (b := b4508) (C := #[.int .i64 a0.f0, .string a0.f1, .int .i64 a0.f2, .int .i64 a0.f3, .slice A0_0 a0.f4.length c0_0, .int .u32 a0.f5, .int .i64 a0.f6.f0, .string a0.f6.f1, .int .i64 a0.f7]) (T := 64) (fr := (0, 0)) KR) 3 2 (.tmp 23) (.int .i64 a0.f2) rfl KR KR KR ?_; clear ha a; intro a ha
            obtain ⟨t4539, ht4540, h_⟩ := bind_some' h; clear h; have h := h_; clear h_
            refine stepc ha 25 KR KR (headgateref16_two.calls 14 29 0 a0.f2 t4539 _ ht4540) ?_; clear ha a; rintro e W4541 ⟨rfl, HX4542⟩
            refine ⟨_, rfl, ?_⟩; intro a ha; replace HW := HW.callw HX4542; clear HX4542
            refine stepst ha HW 1 (b := b4510) (C := #[.int .i64 0, .int .i64 0, .int .i64 0, .int .i64 0, .int .i64 0]) (T := 70) KR 70 0 (.tmp 2) (.tmp 25) (.agg #[.int .i64 t4539.f0, .int .i64 t4539.f1.f0, .int .i64 t4539.f1.f1, .int .i64 t4539.f1.f2, .int .i64 t4539.f1.f3]) #[.int .i64 t4539.f0, .int .i64 t4539.f1.f0, .int .i64 t4539.f1.f1, .int .i64 t4539.f1.f2, .int .i64 t4539.f1.f3] rfl KR KR KR KR KR KR KR ?_; clear ha HW a; intro a W4543 HW ha
            refine endl ?_
            refine thenN (hK4538 _ _ ?_); clear hK4538
            refine wp_ret ?_
            refine blkR ?_
            refine thenR ?_
            obtain rfl := Option.some.inj h
            exact finv ha _ _ rfl (.cell (ad := ⟨b4510, 0, none⟩) (v := .agg #[.int .i64 t4539.f0, .int .i64 t4539.f1.f0, .int .i64 t4539.f1.f1, .int .i64 t4539.f1.f2, .int .i64 t4539.f1.f3]) KR (run_loadVar_ca0 (HW.ca (i := 1) (b := b4510) (C := #[.int .i64 t4539.f0, .int .i64 t4539.f1.f0, .int .i64 t4539.f1.f1, .int .i64 t4539.f1.f2, .int .i64 t4539.f1.f3]) (T := 70) (fr := (0, 0)) KR) 70 0 (.agg #[.int .i64 t4539.f0, .int .i64 t4539.f1.f0, .int .i64 t4539.f1.f1, .int .i64 t4539.f1.f2, .int .i64 t4539.f1.f3]) KR) .nil) (.agg #[.int .i64 t4539.f0, .int .i64 t4539.f1.f0, .int .i64 t4539.f1.f1, .int .i64 t4539.f1.f2, .int .i64 t4539.f1.f3]) rfl ⟨rfl, HW.pick [] [] (by decide) (by decide) rfl KR⟩
          · skip
            replace h := ite_neg' h hp4536
            refine condF ha KR KR (t := x4534) (bool_f hp4536) ?_
            refine wp_skip ?_
            refine blkN ?_
            refine thenN (hK4513 _ _ ?_); clear hK4513
            refine wp_seq_k (fun K4619 hK4620 => ?_)
            refine wp_region_lit ?_
            obtain ⟨t4621, ht4622, h_⟩ := bind_some' h; clear h; have h := h_; clear h_
            refine stepc ha 51 KR KR (headgateref16_two.calls 3 12 0 (-1) t4621 _ ht4622) ?_; clear ha a; rintro e W4623 ⟨rfl, HX4624⟩
            refine ⟨_, rfl, ?_⟩; intro a ha; replace HW := HW.callw HX4624; clear HX4624
            refine stepst ha HW 1 (b := b4510) (C := #[.int .i64 0, .int .i64 0, .int .i64 0, .int .i64 0, .int .i64 0]) (T := 70) KR 70 0 (.tmp 2) (.tmp 51) (.agg #[.int .i64 t4621.f0, .int .i64 t4621.f1.f0, .int .i64 t4621.f1.f1, .int .i64 t4621.f1.f2, .int .i64 t4621.f1.f3]) #[.int .i64 t4621.f0, .int .i64 t4621.f1.f0, .int .i64 t4621.f1.f1, .int .i64 t4621.f1.f2, .int .i64 t4621.f1.f3] rfl KR KR KR KR KR KR KR ?_; clear ha HW a; intro a W4625 HW ha
            refine endl ?_
            refine thenN (hK4620 _ _ ?_); clear hK4620
            refine wp_ret ?_
            obtain rfl := Option.some.inj h
            exact finv ha _ _ rfl (.cell (ad := ⟨b4510, 0, none⟩) (v := .agg #[.int .i64 t4621.f0, .int .i64 t4621.f1.f0, .int .i64 t4621.f1.f1, .int .i64 t4621.f1.f2, .int .i64 t4621.f1.f3]) KR (run_loadVar_ca0 (HW.ca (i := 1) (b := b4510) (C := #[.int .i64 t4621.f0, .int .i64 t4621.f1.f0, .int .i64 t4621.f1.f1, .int .i64 t4621.f1.f2, .int .i64 t4621.f1.f3]) (T := 70) (fr := (0, 0)) KR) 70 0 (.agg #[.int .i64 t4621.f0, .int .i64 t4621.f1.f0, .int .i64 t4621.f1.f1, .int .i64 t4621.f1.f2, .int .i64 t4621.f1.f3]) KR) .nil) (.agg #[.int .i64 t4621.f0, .int .i64 t4621.f1.f0, .int .i64 t4621.f1.f1, .int .i64 t4621.f1.f2, .int .i64 t4621.f1.f3]) rfl ⟨rfl, HW.pick [] [] (by decide) (by decide) rfl KR⟩
      · skip
        replace h := ite_neg' h hp4530
        refine condF ha KR KR (t := (a0.f0 == 3)) (ieq_f hp4530) ?_
        refine wp_seq_k (fun K4544 hK4545 => ?_)
        refine wp_region_lit ?_
        refine stepp ha 27 (.bool (a0.f0 == 4)) KR KR ?_; clear ha a; intro a ha
        refine stepp ha 26 (.bool (a0.f0 == 4)) KR KR ?_; clear ha a; intro a ha
        refine endl ?_
        refine thenN (hK4545 _ _ ?_); clear hK4545
        by_cases hp4546 : a0.f0 = 4
        · skip
          replace h := ite_pos' h hp4546
          refine condT ha KR KR (t := (a0.f0 == 4)) (ieq_t hp4546) ?_
          refine wp_seq_k (fun K4547 hK4548 => ?_)
          refine wp_region_lit ?_
          obtain ⟨t4549, ht4550, h_⟩ := bind_some' h; clear h; have h := h_; clear h_
          refine stepc ha 28 KR KR (headgateref16_two.calls 5 33 0 (-1) t4549 _ ht4550) ?_; clear ha a; rintro e W4551 ⟨rfl, HX4552⟩
          refine ⟨_, rfl, ?_⟩; intro a ha; replace HW := HW.callw HX4552; clear HX4552
          refine stepst ha HW 0 (b := b4510) (C := #[.int .i64 0, .int .i64 0, .int .i64 0, .int .i64 0, .int .i64 0]) (T := 70) KR 70 0 (.tmp 2) (.tmp 28) (.agg #[.int .i64 t4549.f0, .int .i64 t4549.f1.f0, .int .i64 t4549.f1.f1, .int .i64 t4549.f1.f2, .int .i64 t4549.f1.f3]) #[.int .i64 t4549.f0, .int .i64 t4549.f1.f0, .int .i64 t4549.f1.f1, .int .i64 t4549.f1.f2, .int .i64 t4549.f1.f3] rfl KR KR KR KR KR KR KR ?_; clear ha HW a; intro a W4553 HW ha
          refine endl ?_
          refine thenN (hK4548 _ _ ?_); clear hK4548
          refine wp_ret ?_
          refine blkR ?_
          refine thenR ?_
          obtain rfl := Option.some.inj h
          exact finv ha _ _ rfl (.cell (ad := ⟨b4510, 0, none⟩) (v := .agg #[.int .i64 t4549.f0, .int .i64 t4549.f1.f0, .int .i64 t4549.f1.f1, .int .i64 t4549.f1.f2, .int .i64 t4549.f1.f3]) KR (run_loadVar_ca0 (HW.ca (i := 0) (b := b4510) (C := #[.int .i64 t4549.f0, .int .i64 t4549.f1.f0, .int .i64 t4549.f1.f1, .int .i64 t4549.f1.f2, .int .i64 t4549.f1.f3]) (T := 70) (fr := (0, 0)) KR) 70 0 (.agg #[.int .i64 t4549.f0, .int .i64 t4549.f1.f0, .int .i64 t4549.f1.f1, .int .i64 t4549.f1.f2, .int .i64 t4549.f1.f3]) KR) .nil) (.agg #[.int .i64 t4549.f0, .int .i64 t4549.f1.f0, .int .i64 t4549.f1.f1, .int .i64 t4549.f1.f2, .int .i64 t4549.f1.f3]) rfl ⟨rfl, HW.pick [] [] (by decide) (by decide) rfl KR⟩
        · skip
          replace h := ite_neg' h hp4546
          refine condF ha KR KR (t := (a0.f0 == 4)) (ieq_f hp4546) ?_
          refine wp_seq_k (fun K4554 hK4555 => ?_)
          refine wp_region_lit ?_
          refine stepp ha 30 (.bool (a0.f0 == 5)) KR KR ?_; clear ha a; intro a ha
          refine stepp ha 29 (.bool (a0.f0 == 5)) KR KR ?_; clear ha a; intro a ha
          refine endl ?_
          refine thenN (hK4555 _ _ ?_); clear hK4555
          by_cases hp4556 : a0.f0 = 5
          · skip
            replace h := ite_pos' h hp4556
            refine condT ha KR KR (t := (a0.f0 == 5)) (ieq_t hp4556) ?_
            refine wp_seq_k (fun K4557 hK4558 => ?_)
            refine wp_region_lit ?_
            obtain ⟨t4559, ht4560, h_⟩ := bind_some' h; clear h; have h := h_; clear h_
            refine stepc ha 31 KR KR (headgateref16_two.calls 5 36 0 (-1) t4559 _ ht4560) ?_; clear ha a; rintro e W4561 ⟨rfl, HX4562⟩
            refine ⟨_, rfl, ?_⟩; intro a ha; replace HW := HW.callw HX4562; clear HX4562
            refine stepst ha HW 0 (b := b4510) (C := #[.int .i64 0, .int .i64 0, .int .i64 0, .int .i64 0, .int .i64 0]) (T := 70) KR 70 0 (.tmp 2) (.tmp 31) (.agg #[.int .i64 t4559.f0, .int .i64 t4559.f1.f0, .int .i64 t4559.f1.f1, .int .i64 t4559.f1.f2, .int .i64 t4559.f1.f3]) #[.int .i64 t4559.f0, .int .i64 t4559.f1.f0, .int .i64 t4559.f1.f1, .int .i64 t4559.f1.f2, .int .i64 t4559.f1.f3] rfl KR KR KR KR KR KR KR ?_; clear ha HW a; intro a W4563 HW ha
            refine endl ?_
            refine thenN (hK4558 _ _ ?_); clear hK4558
            refine wp_ret ?_
            refine blkR ?_
            refine thenR ?_
            obtain rfl := Option.some.inj h
            exact finv ha _ _ rfl (.cell (ad := ⟨b4510, 0, none⟩) (v := .agg #[.int .i64 t4559.f0, .int .i64 t4559.f1.f0, .int .i64 t4559.f1.f1, .int .i64 t4559.f1.f2, .int .i64 t4559.f1.f3]) KR (run_loadVar_ca0 (HW.ca (i := 0) (b := b4510) (C := #[.int .i64 t4559.f0, .int .i64 t4559.f1.f0, .int .i64 t4559.f1.f1, .int .i64 t4559.f1.f2, .int .i64 t4559.f1.f3]) (T := 70) (fr := (0, 0)) KR) 70 0 (.agg #[.int .i64 t4559.f0, .int .i64 t4559.f1.f0, .int .i64 t4559.f1.f1, .int .i64 t4559.f1.f2, .int .i64 t4559.f1.f3]) KR) .nil) (.agg #[.int .i64 t4559.f0, .int .i64 t4559.f1.f0, .int .i64 t4559.f1.f1, .int .i64 t4559.f1.f2, .int .i64 t4559.f1.f3]) rfl ⟨rfl, HW.pick [] [] (by decide) (by decide) rfl KR⟩
          · skip
            replace h := ite_neg' h hp4556
            refine condF ha KR KR (t := (a0.f0 == 5)) (ieq_f hp4556) ?_
            refine wp_seq_k (fun K4564 hK4565 => ?_)
            refine wp_region_lit ?_
            refine stepp ha 33 (.bool (a0.f0 == 6)) KR KR ?_; clear ha a; intro a ha
            refine stepp ha 32 (.bool (a0.f0 == 6)) KR KR ?_; clear ha a; intro a ha
            refine endl ?_
            refine thenN (hK4565 _ _ ?_); clear hK4565
            by_cases hp4566 : a0.f0 = 6
            · skip
              replace h := ite_pos' h hp4566
              refine condT ha KR KR (t := (a0.f0 == 6)) (ieq_t hp4566) ?_
              refine wp_seq_k (fun K4567 hK4568 => ?_)
              refine wp_region_lit ?_
              obtain ⟨t4569, ht4570, h_⟩ := bind_some' h; clear h; have h := h_; clear h_
              refine stepc ha 34 KR KR (headgateref16_two.calls 5 37 0 (-1) t4569 _ ht4570) ?_; clear ha a; rintro e W4571 ⟨rfl, HX4572⟩
              refine ⟨_, rfl, ?_⟩; intro a ha; replace HW := HW.callw HX4572; clear HX4572
              refine stepst ha HW 0 (b := b4510) (C := #[.int .i64 0, .int .i64 0, .int .i64 0, .int .i64 0, .int .i64 0]) (T := 70) KR 70 0 (.tmp 2) (.tmp 34) (.agg #[.int .i64 t4569.f0, .int .i64 t4569.f1.f0, .int .i64 t4569.f1.f1, .int .i64 t4569.f1.f2, .int .i64 t4569.f1.f3]) #[.int .i64 t4569.f0, .int .i64 t4569.f1.f0, .int .i64 t4569.f1.f1, .int .i64 t4569.f1.f2, .int .i64 t4569.f1.f3] rfl KR KR KR KR KR KR KR ?_; clear ha HW a; intro a W4573 HW ha
              refine endl ?_
              refine thenN (hK4568 _ _ ?_); clear hK4568
              refine wp_ret ?_
              refine blkR ?_
              refine thenR ?_
              obtain rfl := Option.some.inj h
              exact finv ha _ _ rfl (.cell (ad := ⟨b4510, 0, none⟩) (v := .agg #[.int .i64 t4569.f0, .int .i64 t4569.f1.f0, .int .i64 t4569.f1.f1, .int .i64 t4569.f1.f2, .int .i64 t4569.f1.f3]) KR (run_loadVar_ca0 (HW.ca (i := 0) (b := b4510) (C := #[.int .i64 t4569.f0, .int .i64 t4569.f1.f0, .int .i64 t4569.f1.f1, .int .i64 t4569.f1.f2, .int .i64 t4569.f1.f3]) (T := 70) (fr := (0, 0)) KR) 70 0 (.agg #[.int .i64 t4569.f0, .int .i64 t4569.f1.f0, .int .i64 t4569.f1.f1, .int .i64 t4569.f1.f2, .int .i64 t4569.f1.f3]) KR) .nil) (.agg #[.int .i64 t4569.f0, .int .i64 t4569.f1.f0, .int .i64 t4569.f1.f1, .int .i64 t4569.f1.f2, .int .i64 t4569.f1.f3]) rfl ⟨rfl, HW.pick [] [] (by decide) (by decide) rfl KR⟩
            · skip
              replace h := ite_neg' h hp4566
              refine condF ha KR KR (t := (a0.f0 == 6)) (ieq_f hp4566) ?_
              refine wp_seq_k (fun K4574 hK4575 => ?_)
              refine wp_region_lit ?_
              refine stepp ha 36 (.bool (a0.f0 == 7)) KR KR ?_; clear ha a; intro a ha
              refine stepp ha 35 (.bool (a0.f0 == 7)) KR KR ?_; clear ha a; intro a ha
              refine endl ?_
              refine thenN (hK4575 _ _ ?_); clear hK4575
              by_cases hp4576 : a0.f0 = 7
              · skip
                replace h := ite_pos' h hp4576
                refine condT ha KR KR (t := (a0.f0 == 7)) (ieq_t hp4576) ?_
                refine wp_seq_k (fun K4577 hK4578 => ?_)
                refine wp_region_lit ?_
                refine stepp ha 37 (.pointer (some ⟨b4508, 3, none⟩)) KR KR ?_; clear ha a; intro a ha
                refine stepl ha 38 (HW.ca (i := 1) (b := b4508) (C := #[.int .i64 a0.f0, .string a0.f1, .int .i64 a0.f2, .int .i64 a0.f3, .slice A0_0 a0.f4.length c0_0, .int .u32 a0.f5, .int .i64 a0.f6.f0, .string a0.f6.f1, .int .i64 a0.f7]) (T := 64) (fr := (0, 0)) KR) 3 3 (.tmp 37) (.int .i64 a0.f3) rfl KR KR KR ?_; clear ha a; intro a ha
                refine endl ?_
                refine thenN (hK4578 _ _ ?_); clear hK4578
                refine wp_block ?_
                refine wp_seq_k (fun K4579 hK4580 => ?_)
                refine wp_region_lit ?_
                refine stepp ha 40 (.bool (a0.f3 == 1)) KR KR ?_; clear ha a; intro a ha
                refine stepp ha 39 (.bool (a0.f3 == 1)) KR KR ?_; clear ha a; intro a ha
                refine endl ?_
                refine thenN (hK4580 _ _ ?_); clear hK4580
                by_cases hp4581 : a0.f3 = 1
                · skip
                  replace h := ite_pos' h hp4581
                  refine condT ha KR KR (t := (a0.f3 == 1)) (ieq_t hp4581) ?_
                  refine wp_seq_k (fun K4582 hK4583 => ?_)
                  refine wp_region_lit ?_
                  obtain ⟨t4584, ht4585, h_⟩ := bind_some' h; clear h; have h := h_; clear h_
                  refine stepc ha 41 KR KR (headgateref16_two.calls 6 41 0 (-1) t4584 _ ht4585) ?_; clear ha a; rintro e W4586 ⟨rfl, HX4587⟩
                  refine ⟨_, rfl, ?_⟩; intro a ha; replace HW := HW.callw HX4587; clear HX4587
                  refine stepst ha HW 0 (b := b4510) (C := #[.int .i64 0, .int .i64 0, .int .i64 0, .int .i64 0, .int .i64 0]) (T := 70) KR 70 0 (.tmp 2) (.tmp 41) (.agg #[.int .i64 t4584.f0, .int .i64 t4584.f1.f0, .int .i64 t4584.f1.f1, .int .i64 t4584.f1.f2, .int .i64 t4584.f1.f3]) #[.int .i64 t4584.f0, .int .i64 t4584.f1.f0, .int .i64 t4584.f1.f1, .int .i64 t4584.f1.f2, .int .i64 t4584.f1.f3] rfl KR KR KR KR KR KR KR ?_; clear ha HW a; intro a W4588 HW ha
                  refine endl ?_
                  refine thenN (hK4583 _ _ ?_); clear hK4583
                  refine wp_ret ?_
                  refine blkR ?_
                  refine blkR ?_
                  refine thenR ?_
                  obtain rfl := Option.some.inj h
                  exact finv ha _ _ rfl (.cell (ad := ⟨b4510, 0, none⟩) (v := .agg #[.int .i64 t4584.f0, .int .i64 t4584.f1.f0, .int .i64 t4584.f1.f1, .int .i64 t4584.f1.f2, .int .i64 t4584.f1.f3]) KR (run_loadVar_ca0 (HW.ca (i := 0) (b := b4510) (C := #[.int .i64 t4584.f0, .int .i64 t4584.f1.f0, .int .i64 t4584.f1.f1, .int .i64 t4584.f1.f2, .int .i64 t4584.f1.f3]) (T := 70) (fr := (0, 0)) KR) 70 0 (.agg #[.int .i64 t4584.f0, .int .i64 t4584.f1.f0, .int .i64 t4584.f1.f1, .int .i64 t4584.f1.f2, .int .i64 t4584.f1.f3]) KR) .nil) (.agg #[.int .i64 t4584.f0, .int .i64 t4584.f1.f0, .int .i64 t4584.f1.f1, .int .i64 t4584.f1.f2, .int .i64 t4584.f1.f3]) rfl ⟨rfl, HW.pick [] [] (by decide) (by decide) rfl KR⟩
                · skip
                  replace h := ite_neg' h hp4581
                  refine condF ha KR KR (t := (a0.f3 == 1)) (ieq_f hp4581) ?_
                  refine wp_seq_k (fun K4589 hK4590 => ?_)
                  refine wp_region_lit ?_
                  refine stepp ha 43 (.bool (a0.f3 == 2)) KR KR ?_; clear ha a; intro a ha
                  refine stepp ha 42 (.bool (a0.f3 == 2)) KR KR ?_; clear ha a; intro a ha
                  refine endl ?_
                  refine thenN (hK4590 _ _ ?_); clear hK4590
                  by_cases hp4591 : a0.f3 = 2
                  · skip
                    replace h := ite_pos' h hp4591
                    refine condT ha KR KR (t := (a0.f3 == 2)) (ieq_t hp4591) ?_
                    refine wp_seq_k (fun K4592 hK4593 => ?_)
                    refine wp_region_lit ?_
                    obtain ⟨t4594, ht4595, h_⟩ := bind_some' h; clear h; have h := h_; clear h_
                    refine stepc ha 44 KR KR (headgateref16_two.calls 6 42 5 (-1) t4594 _ ht4595) ?_; clear ha a; rintro e W4596 ⟨rfl, HX4597⟩
                    refine ⟨_, rfl, ?_⟩; intro a ha; replace HW := HW.callw HX4597; clear HX4597
                    refine stepst ha HW 0 (b := b4510) (C := #[.int .i64 0, .int .i64 0, .int .i64 0, .int .i64 0, .int .i64 0]) (T := 70) KR 70 0 (.tmp 2) (.tmp 44) (.agg #[.int .i64 t4594.f0, .int .i64 t4594.f1.f0, .int .i64 t4594.f1.f1, .int .i64 t4594.f1.f2, .int .i64 t4594.f1.f3]) #[.int .i64 t4594.f0, .int .i64 t4594.f1.f0, .int .i64 t4594.f1.f1, .int .i64 t4594.f1.f2, .int .i64 t4594.f1.f3] rfl KR KR KR KR KR KR KR ?_; clear ha HW a; intro a W4598 HW ha
                    refine endl ?_
                    refine thenN (hK4593 _ _ ?_); clear hK4593
                    refine wp_ret ?_
                    refine blkR ?_
                    refine blkR ?_
                    refine thenR ?_
                    obtain rfl := Option.some.inj h
                    exact finv ha _ _ rfl (.cell (ad := ⟨b4510, 0, none⟩) (v := .agg #[.int .i64 t4594.f0, .int .i64 t4594.f1.f0, .int .i64 t4594.f1.f1, .int .i64 t4594.f1.f2, .int .i64 t4594.f1.f3]) KR (run_loadVar_ca0 (HW.ca (i := 0) (b := b4510) (C := #[.int .i64 t4594.f0, .int .i64 t4594.f1.f0, .int .i64 t4594.f1.f1, .int .i64 t4594.f1.f2, .int .i64 t4594.f1.f3]) (T := 70) (fr := (0, 0)) KR) 70 0 (.agg #[.int .i64 t4594.f0, .int .i64 t4594.f1.f0, .int .i64 t4594.f1.f1, .int .i64 t4594.f1.f2, .int .i64 t4594.f1.f3]) KR) .nil) (.agg #[.int .i64 t4594.f0, .int .i64 t4594.f1.f0, .int .i64 t4594.f1.f1, .int .i64 t4594.f1.f2, .int .i64 t4594.f1.f3]) rfl ⟨rfl, HW.pick [] [] (by decide) (by decide) rfl KR⟩
                  · skip
                    replace h := ite_neg' h hp4591
                    refine condF ha KR KR (t := (a0.f3 == 2)) (ieq_f hp4591) ?_
                    refine wp_seq_k (fun K4599 hK4600 => ?_)
                    refine wp_region_lit ?_
                    refine stepp ha 46 (.bool (a0.f3 == 3)) KR KR ?_; clear ha a; intro a ha
                    refine stepp ha 45 (.bool (a0.f3 == 3)) KR KR ?_; clear ha a; intro a ha
                    refine endl ?_
                    refine thenN (hK4600 _ _ ?_); clear hK4600
                    by_cases hp4601 : a0.f3 = 3
                    · skip
                      replace h := ite_pos' h hp4601
                      refine condT ha KR KR (t := (a0.f3 == 3)) (ieq_t hp4601) ?_
                      refine wp_seq_k (fun K4602 hK4603 => ?_)
                      refine wp_region_lit ?_
                      obtain ⟨t4604, ht4605, h_⟩ := bind_some' h; clear h; have h := h_; clear h_
                      refine stepc ha 47 KR KR (headgateref16_two.calls 6 42 4 (-1) t4604 _ ht4605) ?_; clear ha a; rintro e W4606 ⟨rfl, HX4607⟩
                      refine ⟨_, rfl, ?_⟩; intro a ha; replace HW := HW.callw HX4607; clear HX4607
                      refine stepst ha HW 0 (b := b4510) (C := #[.int .i64 0, .int .i64 0, .int .i64 0, .int .i64 0, .int .i64 0]) (T := 70) KR 70 0 (.tmp 2) (.tmp 47) (.agg #[.int .i64 t4604.f0, .int .i64 t4604.f1.f0, .int .i64 t4604.f1.f1, .int .i64 t4604.f1.f2, .int .i64 t4604.f1.f3]) #[.int .i64 t4604.f0, .int .i64 t4604.f1.f0, .int .i64 t4604.f1.f1, .int .i64 t4604.f1.f2, .int .i64 t4604.f1.f3] rfl KR KR KR KR KR KR KR ?_; clear ha HW a; intro a W4608 HW ha
                      refine endl ?_
                      refine thenN (hK4603 _ _ ?_); clear hK4603
                      refine wp_ret ?_
                      refine blkR ?_
                      refine blkR ?_
                      refine thenR ?_
                      obtain rfl := Option.some.inj h
                      exact finv ha _ _ rfl (.cell (ad := ⟨b4510, 0, none⟩) (v := .agg #[.int .i64 t4604.f0, .int .i64 t4604.f1.f0, .int .i64 t4604.f1.f1, .int .i64 t4604.f1.f2, .int .i64 t4604.f1.f3]) KR (run_loadVar_ca0 (HW.ca (i := 0) (b := b4510) (C := #[.int .i64 t4604.f0, .int .i64 t4604.f1.f0, .int .i64 t4604.f1.f1, .int .i64 t4604.f1.f2, .int .i64 t4604.f1.f3]) (T := 70) (fr := (0, 0)) KR) 70 0 (.agg #[.int .i64 t4604.f0, .int .i64 t4604.f1.f0, .int .i64 t4604.f1.f1, .int .i64 t4604.f1.f2, .int .i64 t4604.f1.f3]) KR) .nil) (.agg #[.int .i64 t4604.f0, .int .i64 t4604.f1.f0, .int .i64 t4604.f1.f1, .int .i64 t4604.f1.f2, .int .i64 t4604.f1.f3]) rfl ⟨rfl, HW.pick [] [] (by decide) (by decide) rfl KR⟩
                    · skip
                      replace h := ite_neg' h hp4601
                      refine condF ha KR KR (t := (a0.f3 == 3)) (ieq_f hp4601) ?_
                      refine wp_seq_k (fun K4609 hK4610 => ?_)
                      refine wp_region_lit ?_
                      refine stepp ha 49 (.bool (a0.f3 == 4)) KR KR ?_; clear ha a; intro a ha
                      refine stepp ha 48 (.bool (a0.f3 == 4)) KR KR ?_; clear ha a; intro a ha
                      refine endl ?_
                      refine thenN (hK4610 _ _ ?_); clear hK4610
                      by_cases hp4611 : a0.f3 = 4
                      · skip
                        replace h := ite_pos' h hp4611
                        refine condT ha KR KR (t := (a0.f3 == 4)) (ieq_t hp4611) ?_
                        refine wp_seq_k (fun K4612 hK4613 => ?_)
                        refine wp_region_lit ?_
                        obtain ⟨t4614, ht4615, h_⟩ := bind_some' h; clear h; have h := h_; clear h_
                        refine stepc ha 50 KR KR (headgateref16_two.calls 6 42 3 (-1) t4614 _ ht4615) ?_; clear ha a; rintro e W4616 ⟨rfl, HX4617⟩
                        refine ⟨_, rfl, ?_⟩; intro a ha; replace HW := HW.callw HX4617; clear HX4617
                        refine stepst ha HW 0 (b := b4510) (C := #[.int .i64 0, .int .i64 0, .int .i64 0, .int .i64 0, .int .i64 0]) (T := 70) KR 70 0 (.tmp 2) (.tmp 50) (.agg #[.int .i64 t4614.f0, .int .i64 t4614.f1.f0, .int .i64 t4614.f1.f1, .int .i64 t4614.f1.f2, .int .i64 t4614.f1.f3]) #[.int .i64 t4614.f0, .int .i64 t4614.f1.f0, .int .i64 t4614.f1.f1, .int .i64 t4614.f1.f2, .int .i64 t4614.f1.f3] rfl KR KR KR KR KR KR KR ?_; clear ha HW a; intro a W4618 HW ha
                        refine endl ?_
                        refine thenN (hK4613 _ _ ?_); clear hK4613
                        refine wp_ret ?_
                        refine blkR ?_
                        refine blkR ?_
                        refine thenR ?_
                        obtain rfl := Option.some.inj h
                        exact finv ha _ _ rfl (.cell (ad := ⟨b4510, 0, none⟩) (v := .agg #[.int .i64 t4614.f0, .int .i64 t4614.f1.f0, .int .i64 t4614.f1.f1, .int .i64 t4614.f1.f2, .int .i64 t4614.f1.f3]) KR (run_loadVar_ca0 (HW.ca (i := 0) (b := b4510) (C := #[.int .i64 t4614.f0, .int .i64 t4614.f1.f0, .int .i64 t4614.f1.f1, .int .i64 t4614.f1.f2, .int .i64 t4614.f1.f3]) (T := 70) (fr := (0, 0)) KR) 70 0 (.agg #[.int .i64 t4614.f0, .int .i64 t4614.f1.f0, .int .i64 t4614.f1.f1, .int .i64 t4614.f1.f2, .int .i64 t4614.f1.f3]) KR) .nil) (.agg #[.int .i64 t4614.f0, .int .i64 t4614.f1.f0, .int .i64 t4614.f1.f1, .int .i64 t4614.f1.f2, .int .i64 t4614.f1.f3]) rfl ⟨rfl, HW.pick [] [] (by decide) (by decide) rfl KR⟩
                      · skip
                        replace h := ite_neg' h hp4611
                        refine condF ha KR KR (t := (a0.f3 == 4)) (ieq_f hp4611) ?_
                        refine wp_skip ?_
                        refine blkN ?_
                        refine blkN ?_
                        refine thenN (hK4513 _ _ ?_); clear hK4513
                        refine wp_seq_k (fun K4626 hK4627 => ?_)
                        refine wp_region_lit ?_
                        obtain ⟨t4628, ht4629, h_⟩ := bind_some' h; clear h; have h := h_; clear h_
                        refine stepc ha 51 KR KR (headgateref16_two.calls 3 12 0 (-1) t4628 _ ht4629) ?_; clear ha a; rintro e W4630 ⟨rfl, HX4631⟩
                        refine ⟨_, rfl, ?_⟩; intro a ha; replace HW := HW.callw HX4631; clear HX4631
                        refine stepst ha HW 0 (b := b4510) (C := #[.int .i64 0, .int .i64 0, .int .i64 0, .int .i64 0, .int .i64 0]) (T := 70) KR 70 0 (.tmp 2) (.tmp 51) (.agg #[.int .i64 t4628.f0, .int .i64 t4628.f1.f0, .int .i64 t4628.f1.f1, .int .i64 t4628.f1.f2, .int .i64 t4628.f1.f3]) #[.int .i64 t4628.f0, .int .i64 t4628.f1.f0, .int .i64 t4628.f1.f1, .int .i64 t4628.f1.f2, .int .i64 t4628.f1.f3] rfl KR KR KR KR KR KR KR ?_; clear ha HW a; intro a W4632 HW ha
                        refine endl ?_
                        refine thenN (hK4627 _ _ ?_); clear hK4627
                        refine wp_ret ?_
                        obtain rfl := Option.some.inj h
                        exact finv ha _ _ rfl (.cell (ad := ⟨b4510, 0, none⟩) (v := .agg #[.int .i64 t4628.f0, .int .i64 t4628.f1.f0, .int .i64 t4628.f1.f1, .int .i64 t4628.f1.f2, .int .i64 t4628.f1.f3]) KR (run_loadVar_ca0 (HW.ca (i := 0) (b := b4510) (C := #[.int .i64 t4628.f0, .int .i64 t4628.f1.f0, .int .i64 t4628.f1.f1, .int .i64 t4628.f1.f2, .int .i64 t4628.f1.f3]) (T := 70) (fr := (0, 0)) KR) 70 0 (.agg #[.int .i64 t4628.f0, .int .i64 t4628.f1.f0, .int .i64 t4628.f1.f1, .int .i64 t4628.f1.f2, .int .i64 t4628.f1.f3]) KR) .nil) (.agg #[.int .i64 t4628.f0, .int .i64 t4628.f1.f0, .int .i64 t4628.f1.f1, .int .i64 t4628.f1.f2, .int .i64 t4628.f1.f3]) rfl ⟨rfl, HW.pick [] [] (by decide) (by decide) rfl KR⟩
              · skip
                replace h := ite_neg' h hp4576
                refine condF ha KR KR (t := (a0.f0 == 7)) (ieq_f hp4576) ?_
                refine wp_skip ?_
                refine blkN ?_
                refine thenN (hK4513 _ _ ?_); clear hK4513
                refine wp_seq_k (fun K4633 hK4634 => ?_)
                refine wp_region_lit ?_
                obtain ⟨t4635, ht4636, h_⟩ := bind_some' h; clear h; have h := h_; clear h_
                refine stepc ha 51 KR KR (headgateref16_two.calls 3 12 0 (-1) t4635 _ ht4636) ?_; clear ha a; rintro e W4637 ⟨rfl, HX4638⟩
                refine ⟨_, rfl, ?_⟩; intro a ha; replace HW := HW.callw HX4638; clear HX4638
                refine stepst ha HW 0 (b := b4510) (C := #[.int .i64 0, .int .i64 0, .int .i64 0, .int .i64 0, .int .i64 0]) (T := 70) KR 70 0 (.tmp 2) (.tmp 51) (.agg #[.int .i64 t4635.f0, .int .i64 t4635.f1.f0, .int .i64 t4635.f1.f1, .int .i64 t4635.f1.f2, .int .i64 t4635.f1.f3]) #[.int .i64 t4635.f0, .int .i64 t4635.f1.f0, .int .i64 t4635.f1.f1, .int .i64 t4635.f1.f2, .int .i64 t4635.f1.f3] rfl KR KR KR KR KR KR KR ?_; clear ha HW a; intro a W4639 HW ha
                refine endl ?_
                refine thenN (hK4634 _ _ ?_); clear hK4634
                refine wp_ret ?_
                obtain rfl := Option.some.inj h
                exact finv ha _ _ rfl (.cell (ad := ⟨b4510, 0, none⟩) (v := .agg #[.int .i64 t4635.f0, .int .i64 t4635.f1.f0, .int .i64 t4635.f1.f1, .int .i64 t4635.f1.f2, .int .i64 t4635.f1.f3]) KR (run_loadVar_ca0 (HW.ca (i := 0) (b := b4510) (C := #[.int .i64 t4635.f0, .int .i64 t4635.f1.f0, .int .i64 t4635.f1.f1, .int .i64 t4635.f1.f2, .int .i64 t4635.f1.f3]) (T := 70) (fr := (0, 0)) KR) 70 0 (.agg #[.int .i64 t4635.f0, .int .i64 t4635.f1.f0, .int .i64 t4635.f1.f1, .int .i64 t4635.f1.f2, .int .i64 t4635.f1.f3]) KR) .nil) (.agg #[.int .i64 t4635.f0, .int .i64 t4635.f1.f0, .int .i64 t4635.f1.f1, .int .i64 t4635.f1.f2, .int .i64 t4635.f1.f3]) rfl ⟨rfl, HW.pick [] [] (by decide) (by decide) rfl KR⟩
end Go.Proofs.YthjjbkgifelooaaDoor.F
