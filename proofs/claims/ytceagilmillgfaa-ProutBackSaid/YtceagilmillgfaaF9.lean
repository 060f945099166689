/- headgate/prout.List: a plain function, and that the call comes to what it says. No condition. -/
import Derived.Test.YtceagilmillgfaaFT
import Derived.Test.YtceagilmillgfaaF7
import Derived.Test.YtceagilmillgfaaF13
import Derived.Test.YtceagilmillgfaaF16
import Derived.Test.YtceagilmillgfaaF17
namespace Go.Proofs.Ytceagilmillgfaa.F
open Go Go.RowKit Go.Proofs.Ytceagilmillgfaa.X
set_option linter.unusedVariables false
set_option linter.unusedSimpArgs false
/-! ### headgate/prout.List: function 9 -/
def prout_List.j1 (K : Nat) (a0 : T_api_Cmd) (again666 : Int → Option (Int × ByteArray × Int)) (x667 : Int) (t694 : ByteArray) (t698 : ByteArray) (x711 : Int) : Option (Int × ByteArray × Int) :=
  (prout_key.f K x711).bind fun t715 => (asrt ((t694 ++ t698).size + t715.size ≤ 9223372036854775807) ((prout_Change.f K x667 a0.f11 ((t694 ++ t698) ++ t715)).bind fun t722 => (if t722.2 = 0 then ((prout_same.f (⟨t722.1.f0, t722.1.f1, t722.1.f2, t722.1.f3, t722.1.f4, t722.1.f5, t722.1.f6, t722.1.f7, t722.1.f8, t722.1.f9, t722.1.f10, t722.1.f11, t722.1.f12, t722.1.f13⟩ : T_api_Cmd) a0).bind fun t735 => (if t735 = true then (some (x667, (t694 ++ t698) ++ t715, 0)) else (again666 (IntKind.wrap .i64 (x667 + 1))))) else (again666 (IntKind.wrap .i64 (x667 + 1))))))
def prout_List.j0 (K : Nat) (a0 : T_api_Cmd) (again666 : Int → Option (Int × ByteArray × Int)) (x667 : Int) (x689 : Bool) (x690 : Bool) : Option (Int × ByteArray × Int) :=
  (prout_key.f K a0.f8).bind fun t694 => ((prout_key.f K (bor .u64 a0.f9 a0.f10)).bind fun t698 => (asrt (t694.size + t698.size ≤ 9223372036854775807) (if a0.f13 = 2 then (prout_List.j1 K a0 again666 x667 t694 t698 16777216) else (prout_List.j1 K a0 again666 x667 t694 t698 0))))
def prout_List.b0 (K : Nat) (a0 : T_api_Cmd) (t519 : T_arr7_3) (again666 : Int → Option (Int × ByteArray × Int)) (x667 : Int) : Option (Int × ByteArray × Int) :=
  if x667 < 7 then (asrt (0 ≤ x667) (if (rdL (0 : Int) ([t519.f0, t519.f1, t519.f2, t519.f3, t519.f4, t519.f5, t519.f6] : List Int) x667) = a0.f0 then (if (rdL (0 : Int) ([t519.f0, t519.f1, t519.f2, t519.f3, t519.f4, t519.f5, t519.f6] : List Int) x667) = 0 then (again666 (IntKind.wrap .i64 (x667 + 1))) else (if (rdL (0 : Int) ([t519.f0, t519.f1, t519.f2, t519.f3, t519.f4, t519.f5, t519.f6] : List Int) x667) = 8 then (if (x667 == 6) = a0.f12 then (prout_List.j0 K a0 again666 x667 true ((x667 == 6) != a0.f12)) else (again666 (IntKind.wrap .i64 (x667 + 1)))) else (prout_List.j0 K a0 again666 x667 false false))) else (again666 (IntKind.wrap .i64 (x667 + 1))))) else (some (0, (⟨#[]⟩ : ByteArray), 180))
def prout_List.l0 (K : Nat) (a0 : T_api_Cmd) (t519 : T_arr7_3) : Nat → Int → Option (Int × ByteArray × Int)
  | 0, _ => none
  | k_ + 1, x667 => prout_List.b0 K a0 t519 (prout_List.l0 K a0 t519 k_) x667
def prout_List.f (K : Nat) (a0 : T_api_Cmd) : Option (Int × ByteArray × Int) :=
  (prout_ops.f).bind fun t519 => (prout_List.l0 K a0 t519 K 0)
set_option maxRecDepth 100000 in
set_option maxHeartbeats 4000000 in
theorem prout_List.calls (K : Nat) (a0 : T_api_Cmd) (A0_0 : Option Addr) (c0_0 : Nat) (r : Int × ByteArray × Int) (w : World) (hr0_0 : Rd 2 w (.slice A0_0 a0.f7.length c0_0) a0.f7.length (encs T_api_Range.enc a0.f7)) (h : prout_List.f K a0 = some r) :
    Calls Try.prog 9 #[.agg #[.int .i64 a0.f0, .int .i64 a0.f1, .string a0.f2, .int .i64 a0.f3, .int .i64 a0.f4, .string a0.f5, .bool a0.f6, .slice A0_0 a0.f7.length c0_0, .int .u64 a0.f8, .int .u64 a0.f9, .int .u64 a0.f10, .int .i64 a0.f11, .bool a0.f12, .int .i64 a0.f13]] w (fun e W' => e = .returned (.tuple #[.int .i64 r.1, .string r.2.1, .int .i64 r.2.2]) ∧ Wd w W' [] [] ) := by
  refine sxstart (n := 69) (l := [(0, .agg #[.int .i64 a0.f0, .int .i64 a0.f1, .string a0.f2, .int .i64 a0.f3, .int .i64 a0.f4, .string a0.f5, .bool a0.f6, .slice A0_0 a0.f7.length c0_0, .int .u64 a0.f8, .int .u64 a0.f9, .int .u64 a0.f10, .int .i64 a0.f11, .bool a0.f12, .int .i64 a0.f13])]) Try.func9 rfl rfl (Nat.le_of_ble_eq_true (by kernel_rfl)) (subsA_cons rfl (subsA_nil _)) ?_
  intro a ha
  have HW := Wd.refl w
  unfold prout_List.f at h
  refine wp_seq_k (fun K511 hK512 => ?_)
  refine wp_region_lit ?_
  refine stepnew ha HW 1 #[.int .i64 a0.f0, .int .i64 a0.f1, .string a0.f2, .int .i64 a0.f3, .int .i64 a0.f4, .string a0.f5, .bool a0.f6, .slice A0_0 a0.f7.length c0_0, .int .u64 a0.f8, .int .u64 a0.f9, .int .u64 a0.f10, .int .i64 a0.f11, .bool a0.f12, .int .i64 a0.f13] 26 (by kernel_rfl) (by kernel_rfl) ?_; clear ha HW a; intro b513 a W514 HW ha
  refine stepp ha 2 (.int .i64 0) (by kernel_rfl) (by kernel_rfl) ?_; clear ha a; intro a ha
  refine stepp ha 3 (.string (⟨#[]⟩ : ByteArray)) (by kernel_rfl) (by kernel_rfl) ?_; clear ha a; intro a ha
  refine stepp ha 4 (.int .i64 0) (by kernel_rfl) (by kernel_rfl) ?_; clear ha a; intro a ha
  refine endl ?_
  refine thenN (hK512 _ _ ?_); clear hK512
  refine wp_seq_k (fun K515 hK516 => ?_)
  refine wp_seq_k (fun K517 hK518 => ?_)
  refine wp_region_lit ?_
  obtain ⟨t519, ht520, h_⟩ := bind_some' h; clear h; have h := h_; clear h_
  refine stepc ha 10 (by kernel_rfl) (by kernel_rfl) (prout_ops.calls t519 _ ht520) ?_; clear ha a; rintro e W521 ⟨rfl, HX522⟩
  refine ⟨_, rfl, ?_⟩; intro a ha; replace HW := HW.callw HX522; clear HX522
  refine stepp ha 11 (.int .i64 0) (by kernel_rfl) (by kernel_rfl) ?_; clear ha a; intro a ha
  refine endl ?_
  refine thenN (hK518 _ _ ?_); clear hK518
  refine wp_block ?_
  refine loopk (fun k => fun a W668 => ∃ (x667 : Int), prout_List.l0 K a0 t519 k x667 = some r ∧ Has 69 [(1, .pointer (some ⟨b513, 0, none⟩)), (10, .agg #[.int .i64 t519.f0, .int .i64 t519.f1, .int .i64 t519.f2, .int .i64 t519.f3, .int .i64 t519.f4, .int .i64 t519.f5, .int .i64 t519.f6]), (11, .int .i64 x667)] a ∧ Wd w W668 [(b513, .cells #[.int .i64 a0.f0, .int .i64 a0.f1, .string a0.f2, .int .i64 a0.f3, .int .i64 a0.f4, .string a0.f5, .bool a0.f6, .slice A0_0 a0.f7.length c0_0, .int .u64 a0.f8, .int .u64 a0.f9, .int .u64 a0.f10, .int .i64 a0.f11, .bool a0.f12, .int .i64 a0.f13] 26 (0, 0))] []) K ?_ ?_
  · skip
    exact ⟨0, h, ha.sub (subs_cons (by kernel_rfl) (subs_cons (by kernel_rfl) (subs_cons (by kernel_rfl) (subs_nil _)))), HW.pick [0] [] (by decide) (by decide) (by kernel_rfl) (by kernel_rfl)⟩
  · skip
    intro k a W668 hI
    obtain ⟨x667, h, ha, HW⟩ := hI
    cases k with
    | zero => exact (none_some (show none = some r from h)).elim
    | succ k669 =>
      replace h : prout_List.b0 K a0 t519 (prout_List.l0 K a0 t519 k669) x667 = some r := h
      obtain ⟨again666, hag670⟩ : ∃ g_, g_ = prout_List.l0 K a0 t519 k669 := ⟨_, rfl⟩
      rw [← hag670] at h
      unfold prout_List.b0 at h
      refine wp_seq_k (fun K671 hK672 => ?_)
      refine wp_region_lit ?_
      refine stepp ha 12 (.bool (decide (x667 < 7))) (by kernel_rfl) (by kernel_rfl) ?_; clear ha a; intro a ha
      refine endl ?_
      refine thenN (hK672 _ _ ?_); clear hK672
      refine wp_seq_k (fun K673 hK674 => ?_)
      by_cases hp675 : x667 < 7
      · skip
        replace h := ite_pos' h hp675
        refine condT ha (by kernel_rfl) (by kernel_rfl) (t := decide (x667 < 7)) (decide_eq_true hp675) ?_
        refine wp_skip ?_
        refine thenN (hK674 _ _ ?_); clear hK674
        refine wp_seq_k (fun K676 hK677 => ?_)
        refine wp_block ?_
        refine wp_seq_k (fun K678 hK679 => ?_)
        refine wp_region_lit ?_
        refine stepp ha 13 (.int .i64 x667) (by kernel_rfl) (by kernel_rfl) ?_; clear ha a; intro a ha
        obtain ⟨hA680, h_⟩ := asrt_some h; clear h; have h := h_; clear h_
        refine stepai (Value.int .i64) (0 : Int) ha 14 48 7 3 (.tmp 10) (.tmp 11) .i64 x667 ([t519.f0, t519.f1, t519.f2, t519.f3, t519.f4, t519.f5, t519.f6] : List Int) rfl (by kernel_rfl) (by kernel_rfl) (by kernel_rfl) (by kernel_rfl) hA680 hp675 (by kernel_rfl) ?_; clear ha a; intro a ha
        refine stepp ha 5 (.int .i64 x667) (by kernel_rfl) (by kernel_rfl) ?_; clear ha a; intro a ha
        refine stepp ha 6 (.int .i64 (rdL (0 : Int) ([t519.f0, t519.f1, t519.f2, t519.f3, t519.f4, t519.f5, t519.f6] : List Int) x667)) (by kernel_rfl) (by kernel_rfl) ?_; clear ha a; intro a ha
        refine endl ?_
        refine thenN (hK679 _ _ ?_); clear hK679
        refine wp_seq_k (fun K681 hK682 => ?_)
        refine cutn (fun a W691 => ∃ (x689 : Bool), ∃ (x690 : Bool), prout_List.j0 K a0 again666 x667 x689 x690 = some r ∧ Has 69 [(1, .pointer (some ⟨b513, 0, none⟩)), (5, .int .i64 x667), (10, .agg #[.int .i64 t519.f0, .int .i64 t519.f1, .int .i64 t519.f2, .int .i64 t519.f3, .int .i64 t519.f4, .int .i64 t519.f5, .int .i64 t519.f6]), (11, .int .i64 x667), (20, .int .i64 (rdL (0 : Int) ([t519.f0, t519.f1, t519.f2, t519.f3, t519.f4, t519.f5, t519.f6] : List Int) x667)), (21, .bool ((rdL (0 : Int) ([t519.f0, t519.f1, t519.f2, t519.f3, t519.f4, t519.f5, t519.f6] : List Int) x667) == 0)), (24, .int .i64 (rdL (0 : Int) ([t519.f0, t519.f1, t519.f2, t519.f3, t519.f4, t519.f5, t519.f6] : List Int) x667)), (25, .bool ((rdL (0 : Int) ([t519.f0, t519.f1, t519.f2, t519.f3, t519.f4, t519.f5, t519.f6] : List Int) x667) == 8)), (26, .bool x689), (32, .bool x690)] a ∧ Wd w W691 [(b513, .cells #[.int .i64 a0.f0, .int .i64 a0.f1, .string a0.f2, .int .i64 a0.f3, .int .i64 a0.f4, .string a0.f5, .bool a0.f6, .slice A0_0 a0.f7.length c0_0, .int .u64 a0.f8, .int .u64 a0.f9, .int .u64 a0.f10, .int .i64 a0.f11, .bool a0.f12, .int .i64 a0.f13] 26 (0, 0))] []) ?_ ?_
        · skip
          refine wp_seq_k (fun K683 hK684 => ?_)
          refine wp_region_lit ?_
          refine stepp ha 15 (.int .i64 (rdL (0 : Int) ([t519.f0, t519.f1, t519.f2, t519.f3, t519.f4, t519.f5, t519.f6] : List Int) x667)) (by kernel_rfl) (by kernel_rfl) ?_; clear ha a; intro a ha
          refine stepp ha 16 (.pointer (some ⟨b513, 0, none⟩)) (by kernel_rfl) (by kernel_rfl) ?_; clear ha a; intro a ha
          refine stepl ha 17 (HW.ca (i := 0) (b := b513) (C := #[.int .i64 a0.f0, .int .i64 a0.f1, .string a0.f2, .int .i64 a0.f3, .int .i64 a0.f4, .string a0.f5, .bool a0.f6, .slice A0_0 a0.f7.length c0_0, .int .u64 a0.f8, .int .u64 a0.f9, .int .u64 a0.f10, .int .i64 a0.f11, .bool a0.f12, .int .i64 a0.f13]) (T := 26) (fr := (0, 0)) (by kernel_rfl)) 3 0 (.tmp 16) (.int .i64 a0.f0) rfl (by kernel_rfl) (by kernel_rfl) (by kernel_rfl) ?_; clear ha a; intro a ha
          refine stepp ha 18 (.bool ((rdL (0 : Int) ([t519.f0, t519.f1, t519.f2, t519.f3, t519.f4, t519.f5, t519.f6] : List Int) x667) != a0.f0)) (by kernel_rfl) (by kernel_rfl) ?_; clear ha a; intro a ha
          refine stepp ha 19 (.bool ((rdL (0 : Int) ([t519.f0, t519.f1, t519.f2, t519.f3, t519.f4, t519.f5, t519.f6] : List Int) x667) != a0.f0)) (by kernel_rfl) (by kernel_rfl) ?_; clear ha a; intro a ha
          by_cases hp685 : (rdL (0 : Int) ([t519.f0, t519.f1, t519.f2, t519.f3, t519.f4, t519.f5, t519.f6] : List Int) x667) = a0.f0
          · skip
            replace h := ite_pos' h hp685
            replace ha := ha.bool 19 (by kernel_rfl) (ineq_f hp685)
            refine stepp ha 20 (.int .i64 (rdL (0 : Int) ([t519.f0, t519.f1, t519.f2, t519.f3, t519.f4, t519.f5, t519.f6] : List Int) x667)) (by kernel_rfl) (by kernel_rfl) ?_; clear ha a; intro a ha
            refine stepp ha 21 (.bool ((rdL (0 : Int) ([t519.f0, t519.f1, t519.f2, t519.f3, t519.f4, t519.f5, t519.f6] : List Int) x667) == 0)) (by kernel_rfl) (by kernel_rfl) ?_; clear ha a; intro a ha
            refine stepp ha 22 (.bool ((rdL (0 : Int) ([t519.f0, t519.f1, t519.f2, t519.f3, t519.f4, t519.f5, t519.f6] : List Int) x667) == 0)) (by kernel_rfl) (by kernel_rfl) ?_; clear ha a; intro a ha
            refine stepp ha 23 (.bool ((rdL (0 : Int) ([t519.f0, t519.f1, t519.f2, t519.f3, t519.f4, t519.f5, t519.f6] : List Int) x667) == 0)) (by kernel_rfl) (by kernel_rfl) ?_; clear ha a; intro a ha
            by_cases hp686 : (rdL (0 : Int) ([t519.f0, t519.f1, t519.f2, t519.f3, t519.f4, t519.f5, t519.f6] : List Int) x667) = 0
            · skip
              replace h := ite_pos' h hp686
              replace ha := ha.bool 23 (by kernel_rfl) (ieq_t hp686)
              refine stepo ha 24 (by kernel_rfl) ?_; clear ha a; intro a ha
              refine stepo ha 25 (by kernel_rfl) ?_; clear ha a; intro a ha
              refine stepo ha 26 (by kernel_rfl) ?_; clear ha a; intro a ha
              refine stepo ha 27 (by kernel_rfl) ?_; clear ha a; intro a ha
              refine stepo ha 28 (by kernel_rfl) ?_; clear ha a; intro a ha
              refine stepo ha 29 (by kernel_rfl) ?_; clear ha a; intro a ha
              refine stepo ha 30 (by kernel_rfl) ?_; clear ha a; intro a ha
              refine stepo ha 31 (by kernel_rfl) ?_; clear ha a; intro a ha
              refine stepo ha 32 (by kernel_rfl) ?_; clear ha a; intro a ha
              refine stepp ha 33 (.bool true) (by kernel_rfl) (by kernel_rfl) ?_; clear ha a; intro a ha
              refine endl ?_
              refine thenN (hK684 _ _ ?_); clear hK684
              refine condT ha (by kernel_rfl) (by kernel_rfl) (t := true) (rfl) ?_
              refine wp_exit ?_
              refine thenE ?_
              refine inBlk ?_
              refine thenN (hK677 _ _ ?_); clear hK677
              refine wp_region_lit ?_
              refine stepp ha 68 (.int .i64 (IntKind.wrap .i64 (x667 + 1))) (by kernel_rfl) (by kernel_rfl) ?_; clear ha a; intro a ha
              refine stepp ha 11 (.int .i64 (IntKind.wrap .i64 (x667 + 1))) (by kernel_rfl) (by kernel_rfl) ?_; clear ha a; intro a ha
              refine endl ?_
              exact thenN ⟨k669, Nat.lt_succ_self k669, IntKind.wrap .i64 (x667 + 1), (by rw [← hag670]; exact h), ha.sub (subs_cons (by kernel_rfl) (subs_cons (by kernel_rfl) (subs_cons (by kernel_rfl) (subs_nil _)))), HW.pick [0] [] (by decide) (by decide) (by kernel_rfl) (by kernel_rfl)⟩
            · skip
              replace h := ite_neg' h hp686
              replace ha := ha.bool 23 (by kernel_rfl) (ieq_f hp686)
              refine stepp ha 24 (.int .i64 (rdL (0 : Int) ([t519.f0, t519.f1, t519.f2, t519.f3, t519.f4, t519.f5, t519.f6] : List Int) x667)) (by kernel_rfl) (by kernel_rfl) ?_; clear ha a; intro a ha
              refine stepp ha 25 (.bool ((rdL (0 : Int) ([t519.f0, t519.f1, t519.f2, t519.f3, t519.f4, t519.f5, t519.f6] : List Int) x667) == 8)) (by kernel_rfl) (by kernel_rfl) ?_; clear ha a; intro a ha
              refine stepp ha 26 (.bool ((rdL (0 : Int) ([t519.f0, t519.f1, t519.f2, t519.f3, t519.f4, t519.f5, t519.f6] : List Int) x667) == 8)) (by kernel_rfl) (by kernel_rfl) ?_; clear ha a; intro a ha
              by_cases hp687 : (rdL (0 : Int) ([t519.f0, t519.f1, t519.f2, t519.f3, t519.f4, t519.f5, t519.f6] : List Int) x667) = 8
              · skip
                replace h := ite_pos' h hp687
                replace ha := ha.bool 26 (by kernel_rfl) (ieq_t hp687)
                refine stepp ha 27 (.int .i64 x667) (by kernel_rfl) (by kernel_rfl) ?_; clear ha a; intro a ha
                refine stepp ha 28 (.bool (x667 == 6)) (by kernel_rfl) (by kernel_rfl) ?_; clear ha a; intro a ha
                refine stepp ha 29 (.pointer (some ⟨b513, 12, none⟩)) (by kernel_rfl) (by kernel_rfl) ?_; clear ha a; intro a ha
                refine stepl ha 30 (HW.ca (i := 0) (b := b513) (C := #[.int .i64 a0.f0, .int .i64 a0.f1, .string a0.f2, .int .i64 a0.f3, .int .i64 a0.f4, .string a0.f5, .bool a0.f6, .slice A0_0 a0.f7.length c0_0, .int .u64 a0.f8, .int .u64 a0.f9, .int .u64 a0.f10, .int .i64 a0.f11, .bool a0.f12, .int .i64 a0.f13]) (T := 26) (fr := (0, 0)) (by kernel_rfl)) 4 12 (.tmp 29) (.bool a0.f12) rfl (by kernel_rfl) (by kernel_rfl) (by kernel_rfl) ?_; clear ha a; intro a ha
                refine stepp ha 31 (.bool ((x667 == 6) != a0.f12)) (by kernel_rfl) (by kernel_rfl) ?_; clear ha a; intro a ha
                refine stepp ha 32 (.bool ((x667 == 6) != a0.f12)) (by kernel_rfl) (by kernel_rfl) ?_; clear ha a; intro a ha
                refine stepp ha 33 (.bool ((x667 == 6) != a0.f12)) (by kernel_rfl) (by kernel_rfl) ?_; clear ha a; intro a ha
                refine endl ?_
                refine thenN (hK684 _ _ ?_); clear hK684
                by_cases hp688 : (x667 == 6) = a0.f12
                · skip
                  replace h := ite_pos' h hp688
                  refine condF ha (by kernel_rfl) (by kernel_rfl) (t := ((x667 == 6) != a0.f12)) (bne_f hp688) ?_
                  refine wp_skip ?_
                  exact thenN ⟨true, ((x667 == 6) != a0.f12), h, ha.sub (subs_cons (by kernel_rfl) (subs_cons (by kernel_rfl) (subs_cons (by kernel_rfl) (subs_cons (by kernel_rfl) (subs_cons (by kernel_rfl) (subs_cons (by kernel_rfl) (subs_cons (by kernel_rfl) (subs_cons (by kernel_rfl) (subs_cons (by kernel_rfl) (subs_cons (by kernel_rfl) (subs_nil _))))))))))), HW.pick [0] [] (by decide) (by decide) (by kernel_rfl) (by kernel_rfl)⟩
                · skip
                  replace h := ite_neg' h hp688
                  refine condT ha (by kernel_rfl) (by kernel_rfl) (t := ((x667 == 6) != a0.f12)) (bne_t hp688) ?_
                  refine wp_exit ?_
                  refine thenE ?_
                  refine inBlk ?_
                  refine thenN (hK677 _ _ ?_); clear hK677
                  refine wp_region_lit ?_
                  refine stepp ha 68 (.int .i64 (IntKind.wrap .i64 (x667 + 1))) (by kernel_rfl) (by kernel_rfl) ?_; clear ha a; intro a ha
                  refine stepp ha 11 (.int .i64 (IntKind.wrap .i64 (x667 + 1))) (by kernel_rfl) (by kernel_rfl) ?_; clear ha a; intro a ha
                  refine endl ?_
                  exact thenN ⟨k669, Nat.lt_succ_self k669, IntKind.wrap .i64 (x667 + 1), (by rw [← hag670]; exact h), ha.sub (subs_cons (by kernel_rfl) (subs_cons (by kernel_rfl) (subs_cons (by kernel_rfl) (subs_nil _)))), HW.pick [0] [] (by decide) (by decide) (by kernel_rfl) (by kernel_rfl)⟩
              · skip
                replace h := ite_neg' h hp687
                replace ha := ha.bool 26 (by kernel_rfl) (ieq_f hp687)
                refine stepo ha 27 (by kernel_rfl) ?_; clear ha a; intro a ha
                refine stepo ha 28 (by kernel_rfl) ?_; clear ha a; intro a ha
                refine stepo ha 29 (by kernel_rfl) ?_; clear ha a; intro a ha
                refine stepo ha 30 (by kernel_rfl) ?_; clear ha a; intro a ha
                refine stepo ha 31 (by kernel_rfl) ?_; clear ha a; intro a ha
                refine stepp ha 32 (.bool false) (by kernel_rfl) (by kernel_rfl) ?_; clear ha a; intro a ha
                refine stepp ha 33 (.bool false) (by kernel_rfl) (by kernel_rfl) ?_; clear ha a; intro a ha
                refine endl ?_
                refine thenN (hK684 _ _ ?_); clear hK684
                refine condF ha (by kernel_rfl) (by kernel_rfl) (t := false) (rfl) ?_
                refine wp_skip ?_
                exact thenN ⟨false, false, h, ha.sub (subs_cons (by kernel_rfl) (subs_cons (by kernel_rfl) (subs_cons (by kernel_rfl) (subs_cons (by kernel_rfl) (subs_cons (by kernel_rfl) (subs_cons (by kernel_rfl) (subs_cons (by kernel_rfl) (subs_cons (by kernel_rfl) (subs_cons (by kernel_rfl) (subs_cons (by kernel_rfl) (subs_nil _))))))))))), HW.pick [0] [] (by decide) (by decide) (by kernel_rfl) (by kernel_rfl)⟩
          · skip
            replace h := ite_neg' h hp685
            replace ha := ha.bool 19 (by kernel_rfl) (ineq_t hp685)
            refine stepo ha 20 (by kernel_rfl) ?_; clear ha a; intro a ha
            refine stepo ha 21 (by kernel_rfl) ?_; clear ha a; intro a ha
            refine stepp ha 22 (.bool true) (by kernel_rfl) (by kernel_rfl) ?_; clear ha a; intro a ha
            refine stepp ha 23 (.bool true) (by kernel_rfl) (by kernel_rfl) ?_; clear ha a; intro a ha
            refine stepo ha 24 (by kernel_rfl) ?_; clear ha a; intro a ha
            refine stepo ha 25 (by kernel_rfl) ?_; clear ha a; intro a ha
            refine stepo ha 26 (by kernel_rfl) ?_; clear ha a; intro a ha
            refine stepo ha 27 (by kernel_rfl) ?_; clear ha a; intro a ha
            refine stepo ha 28 (by kernel_rfl) ?_; clear ha a; intro a ha
            refine stepo ha 29 (by kernel_rfl) ?_; clear ha a; intro a ha
            refine stepo ha 30 (by kernel_rfl) ?_; clear ha a; intro a ha
            refine stepo ha 31 (by kernel_rfl) ?_; clear ha a; intro a ha
            refine stepo ha 32 (by kernel_rfl) ?_; clear ha a; intro a ha
            refine stepp ha 33 (.bool true) (by kernel_rfl) (by kernel_rfl) ?_; clear ha a; intro a ha
            refine endl ?_
            refine thenN (hK684 _ _ ?_); clear hK684
            refine condT ha (by kernel_rfl) (by kernel_rfl) (t := true) (rfl) ?_
            refine wp_exit ?_
            refine thenE ?_
            refine inBlk ?_
            refine thenN (hK677 _ _ ?_); clear hK677
            refine wp_region_lit ?_
            refine stepp ha 68 (.int .i64 (IntKind.wrap .i64 (x667 + 1))) (by kernel_rfl) (by kernel_rfl) ?_; clear ha a; intro a ha
            refine stepp ha 11 (.int .i64 (IntKind.wrap .i64 (x667 + 1))) (by kernel_rfl) (by kernel_rfl) ?_; clear ha a; intro a ha
            refine endl ?_
            exact thenN ⟨k669, Nat.lt_succ_self k669, IntKind.wrap .i64 (x667 + 1), (by rw [← hag670]; exact h), ha.sub (subs_cons (by kernel_rfl) (subs_cons (by kernel_rfl) (subs_cons (by kernel_rfl) (subs_nil _)))), HW.pick [0] [] (by decide) (by decide) (by kernel_rfl) (by kernel_rfl)⟩
        · skip
          intro a W691 hJ
          obtain ⟨x689, x690, h, ha, HW⟩ := hJ
          replace h : prout_List.j0 K a0 again666 x667 x689 x690 = some r := h
          unfold prout_List.j0 at h
          refine hK682 _ _ ?_; clear hK682
          refine wp_seq_k (fun K692 hK693 => ?_)
          obtain ⟨t694, ht695, h_⟩ := bind_some' h; clear h; have h := h_; clear h_
          obtain ⟨t698, ht699, h_⟩ := bind_some' h; clear h; have h := h_; clear h_
          obtain ⟨hA702, h_⟩ := asrt_some h; clear h; have h := h_; clear h_
          refine regionG 10 (by kernel_rfl) (by kernel_rfl) ha HW [.fix (.pointer (some ⟨b513, 8, none⟩)), .fix (.int .u64 a0.f8), .fix (.string t694), .fix (.pointer (some ⟨b513, 9, none⟩)), .fix (.int .u64 a0.f9), .fix (.pointer (some ⟨b513, 10, none⟩)), .fix (.int .u64 a0.f10), .fix (.int .u64 (bor .u64 a0.f9 a0.f10)), .fix (.string t698), .fix (.string (t694 ++ t698))] ?_ ?_
          · skip
            refine ⟨?_, ?_, ?_, ?_, ?_, ?_, ?_, ?_, ?_, ?_, trivial⟩
            · skip
              intro a wr hn hd HW hs; have ha := hasNil hn hd
              have ha := ha.add (seeE hs 1 (.pointer (some ⟨b513, 0, none⟩)) (by kernel_rfl) (by kernel_rfl))
              refine yStep ha 34 (by kernel_rfl) ?_; intro l_ ha HK
              refine stepp ha 34 (.pointer (some ⟨b513, 8, none⟩)) (by kernel_rfl) (by kernel_rfl) ?_; intro ax hax; exact HK _ _ _ hax rfl (Below.refl _ _)
            · skip
              intro a wr hn hd HW hs; have ha := hasNil hn hd
              have ha := ha.add (seeF hs 34 0 (.pointer (some ⟨b513, 8, none⟩)) (by kernel_rfl) (by kernel_rfl))
              refine yStep ha 35 (by kernel_rfl) ?_; intro l_ ha HK
              refine stepl ha 35 (HW.ca (i := 0) (b := b513) (C := #[.int .i64 a0.f0, .int .i64 a0.f1, .string a0.f2, .int .i64 a0.f3, .int .i64 a0.f4, .string a0.f5, .bool a0.f6, .slice A0_0 a0.f7.length c0_0, .int .u64 a0.f8, .int .u64 a0.f9, .int .u64 a0.f10, .int .i64 a0.f11, .bool a0.f12, .int .i64 a0.f13]) (T := 26) (fr := (0, 0)) (by kernel_rfl)) 24 8 (.tmp 34) (.int .u64 a0.f8) rfl (by kernel_rfl) (by kernel_rfl) (by kernel_rfl) ?_; intro ax hax; exact HK _ _ _ hax rfl (Below.refl _ _)
            · skip
              intro a wr hn hd HW hs; have ha := hasNil hn hd
              have ha := ha.add (seeF hs 35 1 (.int .u64 a0.f8) (by kernel_rfl) (by kernel_rfl))
              refine yStep ha 36 (by kernel_rfl) ?_; intro l_ ha HK
              refine stepc ha 36 (by kernel_rfl) (by kernel_rfl) (prout_key.calls K a0.f8 t694 _ ht695) ?_; rintro e W696 ⟨rfl, HX697⟩
              refine ⟨_, rfl, ?_⟩; intro ax hax; exact HK _ _ _ hax rfl HX697.below
            · skip
              intro a wr hn hd HW hs; have ha := hasNil hn hd
              have ha := ha.add (seeE hs 1 (.pointer (some ⟨b513, 0, none⟩)) (by kernel_rfl) (by kernel_rfl))
              refine yStep ha 37 (by kernel_rfl) ?_; intro l_ ha HK
              refine stepp ha 37 (.pointer (some ⟨b513, 9, none⟩)) (by kernel_rfl) (by kernel_rfl) ?_; intro ax hax; exact HK _ _ _ hax rfl (Below.refl _ _)
            · skip
              intro a wr hn hd HW hs; have ha := hasNil hn hd
              have ha := ha.add (seeF hs 37 3 (.pointer (some ⟨b513, 9, none⟩)) (by kernel_rfl) (by kernel_rfl))
              refine yStep ha 38 (by kernel_rfl) ?_; intro l_ ha HK
              refine stepl ha 38 (HW.ca (i := 0) (b := b513) (C := #[.int .i64 a0.f0, .int .i64 a0.f1, .string a0.f2, .int .i64 a0.f3, .int .i64 a0.f4, .string a0.f5, .bool a0.f6, .slice A0_0 a0.f7.length c0_0, .int .u64 a0.f8, .int .u64 a0.f9, .int .u64 a0.f10, .int .i64 a0.f11, .bool a0.f12, .int .i64 a0.f13]) (T := 26) (fr := (0, 0)) (by kernel_rfl)) 24 9 (.tmp 37) (.int .u64 a0.f9) rfl (by kernel_rfl) (by kernel_rfl) (by kernel_rfl) ?_; intro ax hax; exact HK _ _ _ hax rfl (Below.refl _ _)
            · skip
              intro a wr hn hd HW hs; have ha := hasNil hn hd
              have ha := ha.add (seeE hs 1 (.pointer (some ⟨b513, 0, none⟩)) (by kernel_rfl) (by kernel_rfl))
              refine yStep ha 39 (by kernel_rfl) ?_; intro l_ ha HK
              refine stepp ha 39 (.pointer (some ⟨b513, 10, none⟩)) (by kernel_rfl) (by kernel_rfl) ?_; intro ax hax; exact HK _ _ _ hax rfl (Below.refl _ _)
            · skip
              intro a wr hn hd HW hs; have ha := hasNil hn hd
              have ha := ha.add (seeF hs 39 5 (.pointer (some ⟨b513, 10, none⟩)) (by kernel_rfl) (by kernel_rfl))
              refine yStep ha 40 (by kernel_rfl) ?_; intro l_ ha HK
              refine stepl ha 40 (HW.ca (i := 0) (b := b513) (C := #[.int .i64 a0.f0, .int .i64 a0.f1, .string a0.f2, .int .i64 a0.f3, .int .i64 a0.f4, .string a0.f5, .bool a0.f6, .slice A0_0 a0.f7.length c0_0, .int .u64 a0.f8, .int .u64 a0.f9, .int .u64 a0.f10, .int .i64 a0.f11, .bool a0.f12, .int .i64 a0.f13]) (T := 26) (fr := (0, 0)) (by kernel_rfl)) 24 10 (.tmp 39) (.int .u64 a0.f10) rfl (by kernel_rfl) (by kernel_rfl) (by kernel_rfl) ?_; intro ax hax; exact HK _ _ _ hax rfl (Below.refl _ _)
            · skip
              intro a wr hn hd HW hs; have ha := hasNil hn hd
              have ha := ha.add (seeF hs 38 4 (.int .u64 a0.f9) (by kernel_rfl) (by kernel_rfl))
              have ha := ha.add (seeF hs 40 6 (.int .u64 a0.f10) (by kernel_rfl) (by kernel_rfl))
              refine yStep ha 41 (by kernel_rfl) ?_; intro l_ ha HK
              refine stepp ha 41 (.int .u64 (bor .u64 a0.f9 a0.f10)) (by kernel_rfl) (by kernel_rfl) ?_; intro ax hax; exact HK _ _ _ hax rfl (Below.refl _ _)
            · skip
              intro a wr hn hd HW hs; have ha := hasNil hn hd
              have ha := ha.add (seeF hs 41 7 (.int .u64 (bor .u64 a0.f9 a0.f10)) (by kernel_rfl) (by kernel_rfl))
              refine yStep ha 42 (by kernel_rfl) ?_; intro l_ ha HK
              refine stepc ha 42 (by kernel_rfl) (by kernel_rfl) (prout_key.calls K (bor .u64 a0.f9 a0.f10) t698 _ ht699) ?_; rintro e W700 ⟨rfl, HX701⟩
              refine ⟨_, rfl, ?_⟩; intro ax hax; exact HK _ _ _ hax rfl HX701.below
            · skip
              intro a wr hn hd HW hs; have ha := hasNil hn hd
              have ha := ha.add (seeF hs 36 2 (.string t694) (by kernel_rfl) (by kernel_rfl))
              have ha := ha.add (seeF hs 42 8 (.string t698) (by kernel_rfl) (by kernel_rfl))
              refine yStep ha 43 (by kernel_rfl) ?_; intro l_ ha HK
              refine stepsa ha 43 9 9 (.tmp 36) (.tmp 42) t694 t698 rfl (by kernel_rfl) (by kernel_rfl) (show (t694).size + (t698).size ≤ 9223372036854775807 from hA702) (by kernel_rfl) ?_; intro ax hax; exact HK _ _ _ hax rfl (Below.refl _ _)
          · skip
            intro a W703 ha HW he hf
            replace ha := ha.add (he 1 (.pointer (some ⟨b513, 0, none⟩)) (by kernel_rfl) (by kernel_rfl))
            replace ha := ha.add (he 5 (.int .i64 x667) (by kernel_rfl) (by kernel_rfl))
            replace ha := ha.add (he 10 (.agg #[.int .i64 t519.f0, .int .i64 t519.f1, .int .i64 t519.f2, .int .i64 t519.f3, .int .i64 t519.f4, .int .i64 t519.f5, .int .i64 t519.f6]) (by kernel_rfl) (by kernel_rfl))
            replace ha := ha.add (he 11 (.int .i64 x667) (by kernel_rfl) (by kernel_rfl))
            replace ha := ha.add (he 20 (.int .i64 (rdL (0 : Int) ([t519.f0, t519.f1, t519.f2, t519.f3, t519.f4, t519.f5, t519.f6] : List Int) x667)) (by kernel_rfl) (by kernel_rfl))
            replace ha := ha.add (he 21 (.bool ((rdL (0 : Int) ([t519.f0, t519.f1, t519.f2, t519.f3, t519.f4, t519.f5, t519.f6] : List Int) x667) == 0)) (by kernel_rfl) (by kernel_rfl))
            replace ha := ha.add (he 24 (.int .i64 (rdL (0 : Int) ([t519.f0, t519.f1, t519.f2, t519.f3, t519.f4, t519.f5, t519.f6] : List Int) x667)) (by kernel_rfl) (by kernel_rfl))
            replace ha := ha.add (he 25 (.bool ((rdL (0 : Int) ([t519.f0, t519.f1, t519.f2, t519.f3, t519.f4, t519.f5, t519.f6] : List Int) x667) == 8)) (by kernel_rfl) (by kernel_rfl))
            replace ha := ha.add (he 26 (.bool x689) (by kernel_rfl) (by kernel_rfl))
            replace ha := ha.add (he 32 (.bool x690) (by kernel_rfl) (by kernel_rfl))
            replace ha := ha.add (gotF (m := 10) (j := 9) (d := 43) (v := .string (t694 ++ t698)) hf (by kernel_rfl) (by kernel_rfl) (by kernel_rfl))
            clear he hf
            refine stepp ha 3 (.string (t694 ++ t698)) (by kernel_rfl) (by kernel_rfl) ?_; clear ha a; intro a ha
            refine endl ?_
            refine thenN (hK693 _ _ ?_); clear hK693
            refine wp_seq_k (fun K704 hK705 => ?_)
            refine wp_region_lit ?_
            refine stepp ha 7 (.int .u64 0) (by kernel_rfl) (by kernel_rfl) ?_; clear ha a; intro a ha
            refine endl ?_
            refine thenN (hK705 _ _ ?_); clear hK705
            refine wp_seq_k (fun K706 hK707 => ?_)
            refine cutn (fun a W712 => ∃ (x711 : Int), prout_List.j1 K a0 again666 x667 t694 t698 x711 = some r ∧ Has 69 [(1, .pointer (some ⟨b513, 0, none⟩)), (3, .string (t694 ++ t698)), (5, .int .i64 x667), (7, .int .u64 x711), (10, .agg #[.int .i64 t519.f0, .int .i64 t519.f1, .int .i64 t519.f2, .int .i64 t519.f3, .int .i64 t519.f4, .int .i64 t519.f5, .int .i64 t519.f6]), (11, .int .i64 x667), (20, .int .i64 (rdL (0 : Int) ([t519.f0, t519.f1, t519.f2, t519.f3, t519.f4, t519.f5, t519.f6] : List Int) x667)), (21, .bool ((rdL (0 : Int) ([t519.f0, t519.f1, t519.f2, t519.f3, t519.f4, t519.f5, t519.f6] : List Int) x667) == 0)), (24, .int .i64 (rdL (0 : Int) ([t519.f0, t519.f1, t519.f2, t519.f3, t519.f4, t519.f5, t519.f6] : List Int) x667)), (25, .bool ((rdL (0 : Int) ([t519.f0, t519.f1, t519.f2, t519.f3, t519.f4, t519.f5, t519.f6] : List Int) x667) == 8)), (26, .bool x689), (32, .bool x690)] a ∧ Wd w W712 [(b513, .cells #[.int .i64 a0.f0, .int .i64 a0.f1, .string a0.f2, .int .i64 a0.f3, .int .i64 a0.f4, .string a0.f5, .bool a0.f6, .slice A0_0 a0.f7.length c0_0, .int .u64 a0.f8, .int .u64 a0.f9, .int .u64 a0.f10, .int .i64 a0.f11, .bool a0.f12, .int .i64 a0.f13] 26 (0, 0))] []) ?_ ?_
            · skip
              refine wp_seq_k (fun K708 hK709 => ?_)
              refine wp_region_lit ?_
              refine stepp ha 44 (.pointer (some ⟨b513, 13, none⟩)) (by kernel_rfl) (by kernel_rfl) ?_; clear ha a; intro a ha
              refine stepl ha 45 (HW.ca (i := 0) (b := b513) (C := #[.int .i64 a0.f0, .int .i64 a0.f1, .string a0.f2, .int .i64 a0.f3, .int .i64 a0.f4, .string a0.f5, .bool a0.f6, .slice A0_0 a0.f7.length c0_0, .int .u64 a0.f8, .int .u64 a0.f9, .int .u64 a0.f10, .int .i64 a0.f11, .bool a0.f12, .int .i64 a0.f13]) (T := 26) (fr := (0, 0)) (by kernel_rfl)) 3 13 (.tmp 44) (.int .i64 a0.f13) rfl (by kernel_rfl) (by kernel_rfl) (by kernel_rfl) ?_; clear ha a; intro a ha
              refine stepp ha 46 (.bool (a0.f13 == 2)) (by kernel_rfl) (by kernel_rfl) ?_; clear ha a; intro a ha
              refine endl ?_
              refine thenN (hK709 _ _ ?_); clear hK709
              by_cases hp710 : a0.f13 = 2
              · skip
                replace h := ite_pos' h hp710
                refine condT ha (by kernel_rfl) (by kernel_rfl) (t := (a0.f13 == 2)) (ieq_t hp710) ?_
                refine wp_region_lit ?_
                refine stepp ha 7 (.int .u64 16777216) (by kernel_rfl) (by kernel_rfl) ?_; clear ha a; intro a ha
                refine endl ?_
                exact thenN ⟨16777216, h, ha.sub (subs_cons (by kernel_rfl) (subs_cons (by kernel_rfl) (subs_cons (by kernel_rfl) (subs_cons (by kernel_rfl) (subs_cons (by kernel_rfl) (subs_cons (by kernel_rfl) (subs_cons (by kernel_rfl) (subs_cons (by kernel_rfl) (subs_cons (by kernel_rfl) (subs_cons (by kernel_rfl) (subs_cons (by kernel_rfl) (subs_cons (by kernel_rfl) (subs_nil _))))))))))))), HW.pick [0] [] (by decide) (by decide) (by kernel_rfl) (by kernel_rfl)⟩
              · skip
                replace h := ite_neg' h hp710
                refine condF ha (by kernel_rfl) (by kernel_rfl) (t := (a0.f13 == 2)) (ieq_f hp710) ?_
                refine wp_skip ?_
                exact thenN ⟨0, h, ha.sub (subs_cons (by kernel_rfl) (subs_cons (by kernel_rfl) (subs_cons (by kernel_rfl) (subs_cons (by kernel_rfl) (subs_cons (by kernel_rfl) (subs_cons (by kernel_rfl) (subs_cons (by kernel_rfl) (subs_cons (by kernel_rfl) (subs_cons (by kernel_rfl) (subs_cons (by kernel_rfl) (subs_cons (by kernel_rfl) (subs_cons (by kernel_rfl) (subs_nil _))))))))))))), HW.pick [0] [] (by decide) (by decide) (by kernel_rfl) (by kernel_rfl)⟩
            · skip
              intro a W712 hJ
              obtain ⟨x711, h, ha, HW⟩ := hJ
              replace h : prout_List.j1 K a0 again666 x667 t694 t698 x711 = some r := h
              unfold prout_List.j1 at h
              refine hK707 _ _ ?_; clear hK707
              refine wp_seq_k (fun K713 hK714 => ?_)
              refine wp_region_lit ?_
              refine stepp ha 47 (.string (t694 ++ t698)) (by kernel_rfl) (by kernel_rfl) ?_; clear ha a; intro a ha
              refine stepp ha 48 (.int .u64 x711) (by kernel_rfl) (by kernel_rfl) ?_; clear ha a; intro a ha
              obtain ⟨t715, ht716, h_⟩ := bind_some' h; clear h; have h := h_; clear h_
              refine stepc ha 49 (by kernel_rfl) (by kernel_rfl) (prout_key.calls K x711 t715 _ ht716) ?_; clear ha a; rintro e W717 ⟨rfl, HX718⟩
              refine ⟨_, rfl, ?_⟩; intro a ha; replace HW := HW.callw HX718; clear HX718
              obtain ⟨hA719, h_⟩ := asrt_some h; clear h; have h := h_; clear h_
              refine stepsa ha 50 9 9 (.tmp 47) (.tmp 49) (t694 ++ t698) t715 rfl (by kernel_rfl) (by kernel_rfl) (show (t694 ++ t698).size + (t715).size ≤ 9223372036854775807 from hA719) (by kernel_rfl) ?_; clear ha a; intro a ha
              refine stepp ha 3 (.string ((t694 ++ t698) ++ t715)) (by kernel_rfl) (by kernel_rfl) ?_; clear ha a; intro a ha
              refine endl ?_
              refine thenN (hK714 _ _ ?_); clear hK714
              refine wp_seq_k (fun K720 hK721 => ?_)
              refine wp_region_lit ?_
              refine stepp ha 52 (.int .i64 x667) (by kernel_rfl) (by kernel_rfl) ?_; clear ha a; intro a ha
              refine stepp ha 53 (.pointer (some ⟨b513, 11, none⟩)) (by kernel_rfl) (by kernel_rfl) ?_; clear ha a; intro a ha
              refine stepl ha 54 (HW.ca (i := 0) (b := b513) (C := #[.int .i64 a0.f0, .int .i64 a0.f1, .string a0.f2, .int .i64 a0.f3, .int .i64 a0.f4, .string a0.f5, .bool a0.f6, .slice A0_0 a0.f7.length c0_0, .int .u64 a0.f8, .int .u64 a0.f9, .int .u64 a0.f10, .int .i64 a0.f11, .bool a0.f12, .int .i64 a0.f13]) (T := 26) (fr := (0, 0)) (by kernel_rfl)) 3 11 (.tmp 53) (.int .i64 a0.f11) rfl (by kernel_rfl) (by kernel_rfl) (by kernel_rfl) ?_; clear ha a; intro a ha
              refine stepp ha 55 (.string ((t694 ++ t698) ++ t715)) (by kernel_rfl) (by kernel_rfl) ?_; clear ha a; intro a ha
              obtain ⟨t722, ht723, h_⟩ := bind_some' h; clear h; have h := h_; clear h_
              refine stepc ha 56 (by kernel_rfl) (by kernel_rfl) (prout_Change.calls K x667 a0.f11 ((t694 ++ t698) ++ t715) t722 _ ht723) ?_; clear ha a; rintro e W727 ⟨A724, c725, rfl, HX728⟩
              refine ⟨_, rfl, ?_⟩; intro a ha; replace HW := HW.callw HX728; clear HX728
              refine stepp ha 51 (.tuple #[.agg #[.int .i64 t722.1.f0, .int .i64 t722.1.f1, .string t722.1.f2, .int .i64 t722.1.f3, .int .i64 t722.1.f4, .string t722.1.f5, .bool t722.1.f6, .slice A724 t722.1.f7.length c725, .int .u64 t722.1.f8, .int .u64 t722.1.f9, .int .u64 t722.1.f10, .int .i64 t722.1.f11, .bool t722.1.f12, .int .i64 t722.1.f13], .int .i64 t722.2]) (by kernel_rfl) (by kernel_rfl) ?_; clear ha a; intro a ha
              refine stepp ha 57 (.agg #[.int .i64 t722.1.f0, .int .i64 t722.1.f1, .string t722.1.f2, .int .i64 t722.1.f3, .int .i64 t722.1.f4, .string t722.1.f5, .bool t722.1.f6, .slice A724 t722.1.f7.length c725, .int .u64 t722.1.f8, .int .u64 t722.1.f9, .int .u64 t722.1.f10, .int .i64 t722.1.f11, .bool t722.1.f12, .int .i64 t722.1.f13]) (by kernel_rfl) (by kernel_rfl) ?_; clear ha a; intro a ha
              refine stepp ha 58 (.int .i64 t722.2) (by kernel_rfl) (by kernel_rfl) ?_; clear ha a; intro a ha
              refine stepnew ha HW 8 #[.int .i64 0, .int .i64 0, .string (⟨#[]⟩ : ByteArray), .int .i64 0, .int .i64 0, .string (⟨#[]⟩ : ByteArray), .bool false, .slice none 0 0, .int .u64 0, .int .u64 0, .int .u64 0, .int .i64 0, .bool false, .int .i64 0] 26 (by kernel_rfl) (by kernel_rfl) ?_; clear ha HW a; intro b729 a W730 HW ha
              refine stepst ha HW 0 (b := b729) (C := #[.int .i64 0, .int .i64 0, .string (⟨#[]⟩ : ByteArray), .int .i64 0, .int .i64 0, .string (⟨#[]⟩ : ByteArray), .bool false, .slice none 0 0, .int .u64 0, .int .u64 0, .int .u64 0, .int .i64 0, .bool false, .int .i64 0]) (T := 26) (by kernel_rfl) 26 0 (.tmp 8) (.tmp 57) (.agg #[.int .i64 t722.1.f0, .int .i64 t722.1.f1, .string t722.1.f2, .int .i64 t722.1.f3, .int .i64 t722.1.f4, .string t722.1.f5, .bool t722.1.f6, .slice A724 t722.1.f7.length c725, .int .u64 t722.1.f8, .int .u64 t722.1.f9, .int .u64 t722.1.f10, .int .i64 t722.1.f11, .bool t722.1.f12, .int .i64 t722.1.f13]) #[.int .i64 t722.1.f0, .int .i64 t722.1.f1, .string t722.1.f2, .int .i64 t722.1.f3, .int .i64 t722.1.f4, .string t722.1.f5, .bool t722.1.f6, .slice A724 t722.1.f7.length c725, .int .u64 t722.1.f8, .int .u64 t722.1.f9, .int .u64 t722.1.f10, .int .i64 t722.1.f11, .bool t722.1.f12, .int .i64 t722.1.f13] rfl (by kernel_rfl) (by kernel_rfl) (by kernel_rfl) (by kernel_rfl) (by kernel_rfl) (by kernel_rfl) (by kernel_rfl) ?_; clear ha HW a; intro a W731 HW ha
              refine stepp ha 9 (.int .i64 t722.2) (by kernel_rfl) (by kernel_rfl) ?_; clear ha a; intro a ha
              refine endl ?_
              refine thenN (hK721 _ _ ?_); clear hK721
              refine wp_seq_k (fun K732 hK733 => ?_)
              refine wp_region_lit ?_
              refine stepp ha 59 (.int .i64 t722.2) (by kernel_rfl) (by kernel_rfl) ?_; clear ha a; intro a ha
              refine stepp ha 60 (.bool (t722.2 == 0)) (by kernel_rfl) (by kernel_rfl) ?_; clear ha a; intro a ha
              refine stepp ha 61 (.bool (t722.2 == 0)) (by kernel_rfl) (by kernel_rfl) ?_; clear ha a; intro a ha
              by_cases hp734 : t722.2 = 0
              · skip
                replace h := ite_pos' h hp734
                replace ha := ha.bool 61 (by kernel_rfl) (ieq_t hp734)
                refine stepl ha 62 (HW.ca (i := 0) (b := b729) (C := #[.int .i64 t722.1.f0, .int .i64 t722.1.f1, .string t722.1.f2, .int .i64 t722.1.f3, .int .i64 t722.1.f4, .string t722.1.f5, .bool t722.1.f6, .slice A724 t722.1.f7.length c725, .int .u64 t722.1.f8, .int .u64 t722.1.f9, .int .u64 t722.1.f10, .int .i64 t722.1.f11, .bool t722.1.f12, .int .i64 t722.1.f13]) (T := 26) (fr := (0, 0)) (by kernel_rfl)) 26 0 (.tmp 8) (.agg #[.int .i64 t722.1.f0, .int .i64 t722.1.f1, .string t722.1.f2, .int .i64 t722.1.f3, .int .i64 t722.1.f4, .string t722.1.f5, .bool t722.1.f6, .slice A724 t722.1.f7.length c725, .int .u64 t722.1.f8, .int .u64 t722.1.f9, .int .u64 t722.1.f10, .int .i64 t722.1.f11, .bool t722.1.f12, .int .i64 t722.1.f13]) rfl (by kernel_rfl) (by kernel_rfl) (by kernel_rfl) ?_; clear ha a; intro a ha
                refine stepl ha 63 (HW.ca (i := 1) (b := b513) (C := #[.int .i64 a0.f0, .int .i64 a0.f1, .string a0.f2, .int .i64 a0.f3, .int .i64 a0.f4, .string a0.f5, .bool a0.f6, .slice A0_0 a0.f7.length c0_0, .int .u64 a0.f8, .int .u64 a0.f9, .int .u64 a0.f10, .int .i64 a0.f11, .bool a0.f12, .int .i64 a0.f13]) (T := 26) (fr := (0, 0)) (by kernel_rfl)) 26 0 (.tmp 1) (.agg #[.int .i64 a0.f0, .int .i64 a0.f1, .string a0.f2, .int .i64 a0.f3, .int .i64 a0.f4, .string a0.f5, .bool a0.f6, .slice A0_0 a0.f7.length c0_0, .int .u64 a0.f8, .int .u64 a0.f9, .int .u64 a0.f10, .int .i64 a0.f11, .bool a0.f12, .int .i64 a0.f13]) rfl (by kernel_rfl) (by kernel_rfl) (by kernel_rfl) ?_; clear ha a; intro a ha
                obtain ⟨t735, ht736, h_⟩ := bind_some' h; clear h; have h := h_; clear h_
                refine stepc ha 64 (by kernel_rfl) (by kernel_rfl) (prout_same.calls (⟨t722.1.f0, t722.1.f1, t722.1.f2, t722.1.f3, t722.1.f4, t722.1.f5, t722.1.f6, t722.1.f7, t722.1.f8, t722.1.f9, t722.1.f10, t722.1.f11, t722.1.f12, t722.1.f13⟩ : T_api_Cmd) a0 A724 c725 A0_0 c0_0 t735 _ (HW.rdo (i := 0) (q := ⟨61, 2, .slice A724 t722.1.f7.length c725, t722.1.f7.length, encs T_api_Range.enc t722.1.f7⟩) (by kernel_rfl)) ((HW.rd0 hr0_0)) ht736) ?_; clear ha a; rintro e W737 ⟨rfl, HX738⟩
                refine ⟨_, rfl, ?_⟩; intro a ha; replace HW := HW.callw HX738; clear HX738
                refine stepp ha 65 (.bool t735) (by kernel_rfl) (by kernel_rfl) ?_; clear ha a; intro a ha
                refine endl ?_
                refine thenN (hK733 _ _ ?_); clear hK733
                by_cases hp739 : t735 = true
                · skip
                  replace h := ite_pos' h hp739
                  refine condT ha (by kernel_rfl) (by kernel_rfl) (t := t735) (hp739) ?_
                  refine wp_seq_k (fun K740 hK741 => ?_)
                  refine wp_region_lit ?_
                  refine stepp ha 66 (.int .i64 x667) (by kernel_rfl) (by kernel_rfl) ?_; clear ha a; intro a ha
                  refine stepp ha 67 (.string ((t694 ++ t698) ++ t715)) (by kernel_rfl) (by kernel_rfl) ?_; clear ha a; intro a ha
                  refine stepp ha 2 (.int .i64 x667) (by kernel_rfl) (by kernel_rfl) ?_; clear ha a; intro a ha
                  refine stepp ha 3 (.string ((t694 ++ t698) ++ t715)) (by kernel_rfl) (by kernel_rfl) ?_; clear ha a; intro a ha
                  refine stepp ha 4 (.int .i64 0) (by kernel_rfl) (by kernel_rfl) ?_; clear ha a; intro a ha
                  refine endl ?_
                  refine thenN (hK741 _ _ ?_); clear hK741
                  refine wp_ret ?_
                  refine blkR ?_
                  refine thenR ?_
                  refine thenR ?_
                  refine blkR ?_
                  refine thenR ?_
                  obtain rfl := Option.some.inj h
                  exact finv ha _ _ rfl (.tmp (v := .int .i64 x667) (by kernel_rfl) (.tmp (v := .string ((t694 ++ t698) ++ t715)) (by kernel_rfl) (.tmp (v := .int .i64 0) (by kernel_rfl) .nil))) (.tuple #[.int .i64 x667, .string ((t694 ++ t698) ++ t715), .int .i64 0]) rfl ⟨rfl, HW.pick [] [] (by decide) (by decide) rfl (by kernel_rfl)⟩
                · skip
                  replace h := ite_neg' h hp739
                  refine condF ha (by kernel_rfl) (by kernel_rfl) (t := t735) (bool_f hp739) ?_
                  refine wp_skip ?_
                  refine blkN ?_
                  refine thenN (hK677 _ _ ?_); clear hK677
                  refine wp_region_lit ?_
                  refine stepp ha 68 (.int .i64 (IntKind.wrap .i64 (x667 + 1))) (by kernel_rfl) (by kernel_rfl) ?_; clear ha a; intro a ha
                  refine stepp ha 11 (.int .i64 (IntKind.wrap .i64 (x667 + 1))) (by kernel_rfl) (by kernel_rfl) ?_; clear ha a; intro a ha
                  refine endl ?_
                  exact thenN ⟨k669, Nat.lt_succ_self k669, IntKind.wrap .i64 (x667 + 1), (by rw [← hag670]; exact h), ha.sub (subs_cons (by kernel_rfl) (subs_cons (by kernel_rfl) (subs_cons (by kernel_rfl) (subs_nil _)))), HW.pick [1] [] (by decide) (by decide) (by kernel_rfl) (by kernel_rfl)⟩
              · skip
                replace h := ite_neg' h hp734
                replace ha := ha.bool 61 (by kernel_rfl) (ieq_f hp734)
                refine stepo ha 62 (by kernel_rfl) ?_; clear ha a; intro a ha
                refine stepo ha 63 (by kernel_rfl) ?_; clear ha a; intro a ha
                refine stepo ha 64 (by kernel_rfl) ?_; clear ha a; intro a ha
                refine stepp ha 65 (.bool false) (by kernel_rfl) (by kernel_rfl) ?_; clear ha a; intro a ha
                refine endl ?_
                refine thenN (hK733 _ _ ?_); clear hK733
                refine condF ha (by kernel_rfl) (by kernel_rfl) (t := false) (rfl) ?_
                refine wp_skip ?_
                refine blkN ?_
                refine thenN (hK677 _ _ ?_); clear hK677
                refine wp_region_lit ?_
                refine stepp ha 68 (.int .i64 (IntKind.wrap .i64 (x667 + 1))) (by kernel_rfl) (by kernel_rfl) ?_; clear ha a; intro a ha
                refine stepp ha 11 (.int .i64 (IntKind.wrap .i64 (x667 + 1))) (by kernel_rfl) (by kernel_rfl) ?_; clear ha a; intro a ha
                refine endl ?_
                exact thenN ⟨k669, Nat.lt_succ_self k669, IntKind.wrap .i64 (x667 + 1), (by rw [← hag670]; exact h), ha.sub (subs_cons (by kernel_rfl) (subs_cons (by kernel_rfl) (subs_cons (by kernel_rfl) (subs_nil _)))), HW.pick [1] [] (by decide) (by decide) (by kernel_rfl) (by kernel_rfl)⟩
      · skip
        replace h := ite_neg' h hp675
        refine condF ha (by kernel_rfl) (by kernel_rfl) (t := decide (x667 < 7)) (decide_eq_false hp675) ?_
        refine wp_exit ?_
        refine thenE ?_
        refine thenE ?_
        refine inBlk ?_
        refine thenN (hK516 _ _ ?_); clear hK516
        refine wp_seq_k (fun K742 hK743 => ?_)
        refine wp_region_lit ?_
        refine stepp ha 2 (.int .i64 0) (by kernel_rfl) (by kernel_rfl) ?_; clear ha a; intro a ha
        refine stepp ha 3 (.string (⟨#[]⟩ : ByteArray)) (by kernel_rfl) (by kernel_rfl) ?_; clear ha a; intro a ha
        refine stepp ha 4 (.int .i64 180) (by kernel_rfl) (by kernel_rfl) ?_; clear ha a; intro a ha
        refine endl ?_
        refine thenN (hK743 _ _ ?_); clear hK743
        refine wp_ret ?_
        obtain rfl := Option.some.inj h
        exact finv ha _ _ rfl (.tmp (v := .int .i64 0) (by kernel_rfl) (.tmp (v := .string (⟨#[]⟩ : ByteArray)) (by kernel_rfl) (.tmp (v := .int .i64 180) (by kernel_rfl) .nil))) (.tuple #[.int .i64 0, .string (⟨#[]⟩ : ByteArray), .int .i64 180]) rfl ⟨rfl, HW.pick [] [] (by decide) (by decide) rfl (by kernel_rfl)⟩
end Go.Proofs.Ytceagilmillgfaa.F
