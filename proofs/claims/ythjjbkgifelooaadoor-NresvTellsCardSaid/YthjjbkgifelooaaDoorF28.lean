/- headgate/headgatekeep.Cmds: plain functions, and that the calls come to what they say. No condition. -/
import Derived.Test.YthjjbkgifelooaaDoorFT
import Derived.Test.YthjjbkgifelooaaDoorF26
namespace Go.Proofs.YthjjbkgifelooaaDoor.F
open Go Go.RowKit Go.Proofs.YthjjbkgifelooaaDoor.X
set_option linter.unusedVariables false
set_option linter.unusedSimpArgs false
/-! ### headgate/headgatekeep.Cmds: function 28 -/
def headgatekeep_Cmds.f (K : Nat) (a0 : T_api_Cmd) (a1 : T_api_Cmd) : Option Bool :=
  if a0.f0 = a1.f0 then (if a0.f1 = a1.f1 then (if a0.f2 = a1.f2 then (if a0.f3 = a1.f3 then (if a0.f4 = a1.f4 then (if a0.f5 = a1.f5 then (if a0.f6 = a1.f6 then ((headgatekeep_Ranges.f K a0.f7 a1.f7).bind fun t3784 => (if t3784 = true then (if a0.f8 = a1.f8 then (if a0.f9 = a1.f9 then (if a0.f10 = a1.f10 then (if a0.f11 = a1.f11 then (if a0.f12 = a1.f12 then (some (a0.f13 == a1.f13)) else (some false)) else (some false)) else (some false)) else (some false)) else (some false)) else (some false))) else (some false)) else (some false)) else (some false)) else (some false)) else (some false)) else (some false)) else (some false)
set_option maxRecDepth 100000 in
set_option maxHeartbeats 4000000 in
theorem headgatekeep_Cmds.calls (K : Nat) (a0 : T_api_Cmd) (a1 : T_api_Cmd) (A0_0 : Option Addr) (c0_0 : Nat) (A1_1 : Option Addr) (c1_1 : Nat) (r : Bool) (w : World) (hr0_0 : Rd 2 w (.slice A0_0 a0.f7.length c0_0) a0.f7.length (encs T_api_Range.enc a0.f7)) (hr1_1 : Rd 2 w (.slice A1_1 a1.f7.length c1_1) a1.f7.length (encs T_api_Range.enc a1.f7)) (h : headgatekeep_Cmds.f K a0 a1 = some r) :
    Calls Tryd.prog 28 #[.agg #[.int .i64 a0.f0, .int .i64 a0.f1, .string a0.f2, .int .i64 a0.f3, .int .i64 a0.f4, .string a0.f5, .bool a0.f6, .slice A0_0 a0.f7.length c0_0, .int .u64 a0.f8, .int .u64 a0.f9, .int .u64 a0.f10, .int .i64 a0.f11, .bool a0.f12, .int .i64 a0.f13], .agg #[.int .i64 a1.f0, .int .i64 a1.f1, .string a1.f2, .int .i64 a1.f3, .int .i64 a1.f4, .string a1.f5, .bool a1.f6, .slice A1_1 a1.f7.length c1_1, .int .u64 a1.f8, .int .u64 a1.f9, .int .u64 a1.f10, .int .i64 a1.f11, .bool a1.f12, .int .i64 a1.f13]] w (fun e W' => e = .returned (.bool r) ∧ Wd w W' [] [] ) := by
  refine sxstart (n := 101) (l := [(0, .agg #[.int .i64 a0.f0, .int .i64 a0.f1, .string a0.f2, .int .i64 a0.f3, .int .i64 a0.f4, .string a0.f5, .bool a0.f6, .slice A0_0 a0.f7.length c0_0, .int .u64 a0.f8, .int .u64 a0.f9, .int .u64 a0.f10, .int .i64 a0.f11, .bool a0.f12, .int .i64 a0.f13]), (1, .agg #[.int .i64 a1.f0, .int .i64 a1.f1, .string a1.f2, .int .i64 a1.f3, .int .i64 a1.f4, .string a1.f5, .bool a1.f6, .slice A1_1 a1.f7.length c1_1, .int .u64 a1.f8, .int .u64 a1.f9, .int .u64 a1.f10, .int .i64 a1.f11, .bool a1.f12, .int .i64 a1.f13])]) Tryd.func28 rfl rfl (Nat.le_of_ble_eq_true KR) (subsA_cons rfl (subsA_cons rfl (subsA_nil _))) ?_
  intro a ha
  have HW := Wd.refl w
  unfold headgatekeep_Cmds.f at h
  refine wp_seq_k (fun K3769 hK3770 => ?_)
  refine wp_region_lit ?_
  refine stepnew ha HW 2 #[.int .i64 a0.f0, .int .i64 a0.f1, .string a0.f2, .int .i64 a0.f3, .int .i64 a0.f4, .string a0.f5, .bool a0.f6, .slice A0_0 a0.f7.length c0_0, .int .u64 a0.f8, .int .u64 a0.f9, .int .u64 a0.f10, .int .i64 a0.f11, .bool a0.f12, .int .i64 a0.f13] 49 KR KR ?_; clear ha HW a; intro b3771 a W3772 HW ha
  refine stepnew ha HW 3 #[.int .i64 a1.f0, .int .i64 a1.f1, .string a1.f2, .int .i64 a1.f3, .int .i64 a1.f4, .string a1.f5, .bool a1.f6, .slice A1_1 a1.f7.length c1_1, .int .u64 a1.f8, .int .u64 a1.f9, .int .u64 a1.f10, .int .i64 a1.f11, .bool a1.f12, .int .i64 a1.f13] 49 KR KR ?_; clear ha HW a; intro b3773 a W3774 HW ha
  refine stepp ha 4 (.bool false) KR KR ?_; clear ha a; intro a ha
  refine endl ?_
  refine thenN (hK3770 _ _ ?_); clear hK3770
  refine wp_seq_k (fun K3775 hK3776 => ?_)
  refine wp_region_lit ?_
  refine stepp ha 5 (.pointer (some ⟨b3771, 0, none⟩)) KR KR ?_; clear ha a; intro a ha
  refine stepl ha 6 (HW.ca (i := 1) (b := b3771) (C := #[.int .i64 a0.f0, .int .i64 a0.f1, .string a0.f2, .int .i64 a0.f3, .int .i64 a0.f4, .string a0.f5, .bool a0.f6, .slice A0_0 a0.f7.length c0_0, .int .u64 a0.f8, .int .u64 a0.f9, .int .u64 a0.f10, .int .i64 a0.f11, .bool a0.f12, .int .i64 a0.f13]) (T := 49) (fr := (0, 0)) KR) 3 0 (.tmp 5) (.int .i64 a0.f0) rfl KR KR KR ?_; clear ha a; intro a ha
  refine stepp ha 7 (.pointer (some ⟨b3773, 0, none⟩)) KR KR ?_; clear ha a; intro a ha
  refine stepl ha 8 (HW.ca (i := 0) (b := b3773) (C := #[.int .i64 a1.f0, .int .i64 a1.f1, .string a1.f2, .int .i64 a1.f3, .int .i64 a1.f4, .string a1.f5, .bool a1.f6, .slice A1_1 a1.f7.length c1_1, .int .u64 a1.f8, .int .u64 a1.f9, .int .u64 a1.f10, .int .i64 a1.f11, .bool a1.f12, .int .i64 a1.f13]) (T := 49) (fr := (0, 0)) KR) 3 0 (.tmp 7) (.int .i64 a1.f0) rfl KR KR KR ?_; clear ha a; intro a ha
  refine stepp ha 9 (.bool (a0.f0 == a1.f0)) KR KR ?_; clear ha a; intro a ha
  refine stepp ha 10 (.bool (a0.f0 == a1.f0)) KR KR ?_; clear ha a; intro a ha
  by_cases hp3777 : a0.f0 = a1.f0
  · skip
    replace h := ite_pos' h hp3777
    replace ha := ha.bool 10 KR (ieq_t hp3777)
    refine stepp ha 11 (.pointer (some ⟨b3771, 1, none⟩)) KR KR ?_; clear ha a; intro a ha
    refine stepl ha 12 (HW.ca (i := 1) (b := b3771) (C := #[.int .i64 a0.f0, .int .i64 a0.f1, .string a0.f2, .int .i64 a0.f3, .int .i64 a0.f4, .string a0.f5, .bool a0.f6, .slice A0_0 a0.f7.length c0_0, .int .u64 a0.f8, .int .u64 a0.f9, .int .u64 a0.f10, .int .i64 a0.f11, .bool a0.f12, .int .i64 a0.f13]) (T := 49) (fr := (0, 0)) KR) 3 1 (.tmp 11) (.int .i64 a0.f1) rfl KR KR KR ?_; clear ha a; intro a ha
    refine stepp ha 13 (.pointer (some ⟨b3773, 1, none⟩)) KR KR ?_; clear ha a; intro a ha
    refine stepl ha 14 (HW.ca (i := 0) (b := b3773) (C := #[.int .i64 a1.f0, .int .i64 a1.f1, .string a1.f2, .int .i64 a1.f3, .int .i64 a1.f4, .string a1.f5, .bool a1.f6, .slice A1_1 a1.f7.length c1_1, .int .u64 a1.f8, .int .u64 a1.f9, .int .u64 a1.f10, .int .i64 a1.f11, .bool a1.f12, .int .i64 a1.f13]) (T := 49) (fr := (0, 0)) KR) 3 1 (.tmp 13) (.int .i64 a1.f1) rfl KR KR KR ?_; clear ha a; intro a ha
    refine stepp ha 15 (.bool (a0.f1 == a1.f1)) KR KR ?_; clear ha a; intro a ha
    refine stepp ha 16 (.bool (a0.f1 == a1.f1)) KR KR ?_; clear ha a; intro a ha
    refine stepp ha 17 (.bool (a0.f1 == a1.f1)) KR KR ?_; clear ha a; intro a ha
    by_cases hp3778 : a0.f1 = a1.f1
    · skip
      replace h := ite_pos' h hp3778
      replace ha := ha.bool 17 KR (ieq_t hp3778)
      refine stepp ha 18 (.pointer (some ⟨b3771, 2, none⟩)) KR KR ?_; clear ha a; intro a ha
      refine stepl ha 19 (HW.ca (i := 1) (b := b3771) (C := #[.int .i64 a0.f0, .int .i64 a0.f1, .string a0.f2, .int .i64 a0.f3, .int .i64 a0.f4, .string a0.f5, .bool a0.f6, .slice A0_0 a0.f7.length c0_0, .int .u64 a0.f8, .int .u64 a0.f9, .int .u64 a0.f10, .int .i64 a0.f11, .bool a0.f12, .int .i64 a0.f13]) (T := 49) (fr := (0, 0)) KR) 9 2 (.tmp 18) (.string a0.f2) rfl KR KR KR ?_; clear ha a; intro a ha
      refine stepp ha 20 (.pointer (some ⟨b3773, 2, none⟩)) KR KR ?_; clear ha a; intro a ha
      refine stepl ha 21 (HW.ca (i := 0) (b := b3773) (C := #[.int .i64 a1.f0, .int .i64 a1.f1, .string a1.f2, .int .i64 a1.f3, .int .i64 a1.f4, .string a1.f5, .bool a1.f6, .slice A1_1 a1.f7.length c1_1, .int .u64 a1.f8, .int .u64 a1.f9, .int .u64 a1.f10, .int .i64 a1.f11, .bool a1.f12, .int .i64 a1.f13]) (T := 49) (fr := (0, 0)) KR) 9 2 (.tmp 20) (.string a1.f2) rfl KR KR KR ?_; clear ha a; intro a ha
      refine stepp ha 22 (.bool (a0.f2.toList == a1.f2.toList)) KR KR ?_; clear ha a; intro a ha
      refine stepp ha 23 (.bool (a0.f2.toList == a1.f2.toList)) KR KR ?_; clear ha a; intro a ha
      refine stepp ha 24 (.bool (a0.f2.toList == a1.f2.toList)) KR KR ?_; clear ha a; intro a ha
      by_cases hp3779 : a0.f2 = a1.f2
      · skip
        replace h := ite_pos' h hp3779
        replace ha := ha.bool 24 KR (str_eq_t hp3779)
        refine stepp ha 25 (.pointer (some ⟨b3771, 3, none⟩)) KR KR ?_; clear ha a; intro a ha
        refine stepl ha 26 (HW.ca (i := 1) (b := b3771) (C := #[.int .i64 a0.f0, .int .i64 a0.f1, .string a0.f2, .int .i64 a0.f3, .int .i64 a0.f4, .string a0.f5, .bool a0.f6, .slice A0_0 a0.f7.length c0_0, .int .u64 a0.f8, .int .u64 a0.f9, .int .u64 a0.f10, .int .i64 a0.f11, .bool a0.f12, .int .i64 a0.f13]) (T := 49) (fr := (0, 0)) KR) 3 3 (.tmp 25) (.int .i64 a0.f3) rfl KR KR KR ?_; clear ha a; intro a ha
        refine stepp ha 27 (.pointer (some ⟨b3773, 3, none⟩)) KR KR ?_; clear ha a; intro a ha
        refine stepl ha 28 (HW.ca (i := 0) (b := b3773) (C := #[.int .i64 a1.f0, .int .i64 a1.f1, .string a1.f2, .int .i64 a1.f3, .int .i64 a1.f4, .string a1.f5, .bool a1.f6, .slice A1_1 a1.f7.length c1_1, .int .u64 a1.f8, .int .u64 a1.f9, .int .u64 a1.f10, .int .i64 a1.f11, .bool a1.f12, .int .i64 a1.f13]) (T := 49) (fr := (0, 0)) KR) 3 3 (.tmp 27) (.int .i64 a1.f3) rfl KR KR KR ?_; clear ha a; intro a ha
        refine stepp ha 29 (.bool (a0.f3 == a1.f3)) KR KR ?_; clear ha a; intro a ha
        refine stepp ha 30 (.bool (a0.f3 == a1.f3)) KR KR ?_; clear ha a; intro a ha
        refine stepp ha 31 (.bool (a0.f3 == a1.f3)) KR KR ?_; clear ha a; intro a ha
        by_cases hp3780 : a0.f3 = a1.f3
        · skip
          replace h := ite_pos' h hp3780
          replace ha := ha.bool 31 KR (ieq_t hp3780)
          refine stepp ha 32 (.pointer (some ⟨b3771, 4, none⟩)) KR KR ?_; clear ha a; intro a ha
          refine stepl ha 33 (HW.ca (i := 1) (b := b3771) (C := #[.int .i64 a0.f0, .int .i64 a0.f1, .string a0.f2, .int .i64 a0.f3, .int .i64 a0.f4, .string a0.f5, .bool a0.f6, .slice A0_0 a0.f7.length c0_0, .int .u64 a0.f8, .int .u64 a0.f9, .int .u64 a0.f10, .int .i64 a0.f11, .bool a0.f12, .int .i64 a0.f13]) (T := 49) (fr := (0, 0)) KR) 3 4 (.tmp 32) (.int .i64 a0.f4) rfl KR KR KR ?_; clear ha a; intro a ha
          refine stepp ha 34 (.pointer (some ⟨b3773, 4, none⟩)) KR KR ?_; clear ha a; intro a ha
          refine stepl ha 35 (HW.ca (i := 0) (b := b3773) (C := #[.int .i64 a1.f0, .int .i64 a1.f1, .string a1.f2, .int .i64 a1.f3, .int .i64 a1.f4, .string a1.f5, .bool a1.f6, .slice A1_1 a1.f7.length c1_1, .int .u64 a1.f8, .int .u64 a1.f9, .int .u64 a1.f10, .int .i64 a1.f11, .bool a1.f12, .int .i64 a1.f13]) (T := 49) (fr := (0, 0)) KR) 3 4 (.tmp 34) (.int .i64 a1.f4) rfl KR KR KR ?_; clear ha a; intro a ha
          refine stepp ha 36 (.bool (a0.f4 == a1.f4)) KR KR ?_; clear ha a; intro a ha
          refine stepp ha 37 (.bool (a0.f4 == a1.f4)) KR KR ?_; clear ha a; intro a ha
          refine stepp ha 38 (.bool (a0.f4 == a1.f4)) KR KR ?_; clear ha a; intro a ha
          by_cases hp3781 : a0.f4 = a1.f4
          · skip
            replace h := ite_pos' h hp3781
            replace ha := ha.bool 38 KR (ieq_t hp3781)
            refine stepp ha 39 (.pointer (some ⟨b3771, 5, none⟩)) KR KR ?_; clear ha a; intro a ha
            refine stepl ha 40 (HW.ca (i := 1) (b := b3771) (C := #[.int .i64 a0.f0, .int .i64 a0.f1, .string a0.f2, .int .i64 a0.f3, .int .i64 a0.f4, .string a0.f5, .bool a0.f6, .slice A0_0 a0.f7.length c0_0, .int .u64 a0.f8, .int .u64 a0.f9, .int .u64 a0.f10, .int .i64 a0.f11, .bool a0.f12, .int .i64 a0.f13]) (T := 49) (fr := (0, 0)) KR) 9 5 (.tmp 39) (.string a0.f5) rfl KR KR KR ?_; clear ha a; intro a ha
            refine stepp ha 41 (.pointer (some ⟨b3773, 5, none⟩)) KR KR ?_; clear ha a; intro a ha
            refine stepl ha 42 (HW.ca (i := 0) (b := b3773) (C := #[.int .i64 a1.f0, .int .i64 a1.f1, .string a1.f2, .int .i64 a1.f3, .int .i64 a1.f4, .string a1.f5, .bool a1.f6, .slice A1_1 a1.f7.length c1_1, .int .u64 a1.f8, .int .u64 a1.f9, .int .u64 a1.f10, .int .i64 a1.f11, .bool a1.f12, .int .i64 a1.f13]) (T := 49) (fr := (0, 0)) KR) 9 5 (.tmp 41) (.string a1.f5) rfl KR KR KR ?_; clear ha a; intro a ha
            refine stepp ha 43 (.bool (a0.f5.toList == a1.f5.toList)) KR KR ?_; clear ha a; intro a ha
            refine stepp ha 44 (.bool (a0.f5.toList == a1.f5.toList)) KR KR ?_; clear ha a; intro a ha
            refine stepp ha 45 (.bool (a0.f5.toList == a1.f5.toList)) KR KR ?_; clear ha a; intro a ha
            by_cases hp3782 : a0.f5 = a1.f5
            · skip
              replace h := ite_pos' h hp3782
              replace ha := ha.bool 45 KR (str_eq_t hp3782)
              refine stepp ha 46 (.pointer (some ⟨b3771, 6, none⟩)) KR KR ?_; clear ha a; intro a ha
              refine stepl ha 47 (HW.ca (i := 1) (b := b3771) (C := #[.int .i64 a0.f0, .int .i64 a0.f1, .string a0.f2, .int .i64 a0.f3, .int .i64 a0.f4, .string a0.f5, .bool a0.f6, .slice A0_0 a0.f7.length c0_0, .int .u64 a0.f8, .int .u64 a0.f9, .int .u64 a0.f10, .int .i64 a0.f11, .bool a0.f12, .int .i64 a0.f13]) (T := 49) (fr := (0, 0)) KR) 4 6 (.tmp 46) (.bool a0.f6) rfl KR KR KR ?_; clear ha a; intro a ha
              refine stepp ha 48 (.pointer (some ⟨b3773, 6, none⟩)) KR KR ?_; clear ha a; intro a ha
              refine stepl ha 49 (HW.ca (i := 0) (b := b3773) (C := #[.int .i64 a1.f0, .int .i64 a1.f1, .string a1.f2, .int .i64 a1.f3, .int .i64 a1.f4, .string a1.f5, .bool a1.f6, .slice A1_1 a1.f7.length c1_1, .int .u64 a1.f8, .int .u64 a1.f9, .int .u64 a1.f10, .int .i64 a1.f11, .bool a1.f12, .int .i64 a1.f13]) (T := 49) (fr := (0, 0)) KR) 4 6 (.tmp 48) (.bool a1.f6) rfl KR KR KR ?_; clear ha a; intro a ha
              refine stepp ha 50 (.bool (a0.f6 == a1.f6)) KR KR ?_; clear ha a; intro a ha
              refine stepp ha 51 (.bool (a0.f6 == a1.f6)) KR KR ?_; clear ha a; intro a ha
              refine stepp ha 52 (.bool (a0.f6 == a1.f6)) KR KR ?_; clear ha a; intro a ha
              by_cases hp3783 : a0.f6 = a1.f6
              · skip
                replace h := ite_pos' h hp3783
                replace ha := ha.bool 52 KR (beq_t hp3783)
                refine stepp ha 53 (.pointer (some ⟨b3771, 7, none⟩)) KR KR ?_; clear ha a; intro a ha
                refine stepl ha 54 (HW.ca (i := 1) (b := b3771) (C := #[.int .i64 a0.f0, .int .i64 a0.f1, .string a0.f2, .int .i64 a0.f3, .int .i64 a0.f4, .string a0.f5, .bool a0.f6, .slice A0_0 a0.f7.length c0_0, .int .u64 a0.f8, .int .u64 a0.f9, .int .u64 a0.f10, .int .i64 a0.f11, .bool a0.f12, .int .i64 a0.f13]) (T := 49) (fr := (0, 0)) KR) 47 7 (.tmp 53) (.slice A0_0 a0.f7.length c0_0) rfl KR KR KR ?_; clear ha a; intro a ha
                refine stepp ha 55 (.pointer (some ⟨b3773, 7, none⟩)) KR KR ?_; clear ha a; intro a ha
                refine stepl ha 56 (HW.ca (i := 0) (b := b3773) (C := #[.int .i64 a1.f0, .int .i64 a1.f1, .string a1.f2, .int .i64 a1.f3, .int .i64 a1.f4, .string a1.f5, .bool a1.f6, .slice A1_1 a1.f7.length c1_1, .int .u64 a1.f8, .int .u64 a1.f9, .int .u64 a1.f10, .int .i64 a1.f11, .bool a1.f12, .int .i64 a1.f13]) (T := 49) (fr := (0, 0)) KR) 47 7 (.tmp 55) (.slice A1_1 a1.f7.length c1_1) rfl KR KR KR ?_; clear ha a; intro a ha
                obtain ⟨t3784, ht3785, h_⟩ := bind_some' h; clear h; have h := h_; clear h_
                refine stepc ha 57 KR KR (headgatekeep_Ranges.calls K a0.f7 a1.f7 A0_0 c0_0 A1_1 c1_1 t3784 _ ((HW.rd0 hr0_0)) ((HW.rd0 hr1_1)) ht3785) ?_; clear ha a; rintro e W3786 ⟨rfl, HX3787⟩
                refine ⟨_, rfl, ?_⟩; intro a ha; replace HW := HW.callw HX3787; clear HX3787
                refine stepp ha 58 (.bool t3784) KR KR ?_; clear ha a; intro a ha
                refine stepp ha 59 (.bool t3784) KR KR ?_; clear ha a; intro a ha
                by_cases hp3788 : t3784 = true
                · skip
                  replace h := ite_pos' h hp3788
                  replace ha := ha.bool 59 KR (hp3788)
                  refine stepp ha 60 (.pointer (some ⟨b3771, 8, none⟩)) KR KR ?_; clear ha a; intro a ha
                  refine stepl ha 61 (HW.ca (i := 1) (b := b3771) (C := #[.int .i64 a0.f0, .int .i64 a0.f1, .string a0.f2, .int .i64 a0.f3, .int .i64 a0.f4, .string a0.f5, .bool a0.f6, .slice A0_0 a0.f7.length c0_0, .int .u64 a0.f8, .int .u64 a0.f9, .int .u64 a0.f10, .int .i64 a0.f11, .bool a0.f12, .int .i64 a0.f13]) (T := 49) (fr := (0, 0)) KR) 42 8 (.tmp 60) (.int .u64 a0.f8) rfl KR KR KR ?_; clear ha a; intro a ha
                  refine stepp ha 62 (.pointer (some ⟨b3773, 8, none⟩)) KR KR ?_; clear ha a; intro a ha
                  refine stepl ha 63 (HW.ca (i := 0) (b := b3773) (C := #[.int .i64 a1.f0, .int .i64 a1.f1, .string a1.f2, .int .i64 a1.f3, .int .i64 a1.f4, .string a1.f5, .bool a1.f6, .slice A1_1 a1.f7.length c1_1, .int .u64 a1.f8, .int .u64 a1.f9, .int .u64 a1.f10, .int .i64 a1.f11, .bool a1.f12, .int .i64 a1.f13]) (T := 49) (fr := (0, 0)) KR) 42 8 (.tmp 62) (.int .u64 a1.f8) rfl KR KR KR ?_; clear ha a; intro a ha
                  refine stepp ha 64 (.bool (a0.f8 == a1.f8)) KR KR ?_; clear ha a; intro a ha
                  refine stepp ha 65 (.bool (a0.f8 == a1.f8)) KR KR ?_; clear ha a; intro a ha
                  refine stepp ha 66 (.bool (a0.f8 == a1.f8)) KR KR ?_; clear ha a; intro a ha
                  by_cases hp3789 : a0.f8 = a1.f8
                  · skip
                    replace h := ite_pos' h hp3789
                    replace ha := ha.bool 66 KR (ieq_t hp3789)
                    refine stepp ha 67 (.pointer (some ⟨b3771, 9, none⟩)) KR KR ?_; clear ha a; intro a ha
                    refine stepl ha 68 (HW.ca (i := 1) (b := b3771) (C := #[.int .i64 a0.f0, .int .i64 a0.f1, .string a0.f2, .int .i64 a0.f3, .int .i64 a0.f4, .string a0.f5, .bool a0.f6, .slice A0_0 a0.f7.length c0_0, .int .u64 a0.f8, .int .u64 a0.f9, .int .u64 a0.f10, .int .i64 a0.f11, .bool a0.f12, .int .i64 a0.f13]) (T := 49) (fr := (0, 0)) KR) 42 9 (.tmp 67) (.int .u64 a0.f9) rfl KR KR KR ?_; clear ha a; intro a ha
                    refine stepp ha 69 (.pointer (some ⟨b3773, 9, none⟩)) KR KR ?_; clear ha a; intro a ha
                    refine stepl ha 70 (HW.ca (i := 0) (b := b3773) (C := #[.int .i64 a1.f0, .int .i64 a1.f1, .string a1.f2, .int .i64 a1.f3, .int .i64 a1.f4, .string a1.f5, .bool a1.f6, .slice A1_1 a1.f7.length c1_1, .int .u64 a1.f8, .int .u64 a1.f9, .int .u64 a1.f10, .int .i64 a1.f11, .bool a1.f12, .int .i64 a1.f13]) (T := 49) (fr := (0, 0)) KR) 42 9 (.tmp 69) (.int .u64 a1.f9) rfl KR KR KR ?_; clear ha a; intro a ha
                    refine stepp ha 71 (.bool (a0.f9 == a1.f9)) KR KR ?_; clear ha a; intro a ha
                    refine stepp ha 72 (.bool (a0.f9 == a1.f9)) KR KR ?_; clear ha a; intro a ha
                    refine stepp ha 73 (.bool (a0.f9 == a1.f9)) KR KR ?_; clear ha a; intro a ha
                    by_cases hp3790 : a0.f9 = a1.f9
                    · skip
                      replace h := ite_pos' h hp3790
                      replace ha := ha.bool 73 KR (ieq_t hp3790)
                      refine stepp ha 74 (.pointer (some ⟨b3771, 10, none⟩)) KR KR ?_; clear ha a; intro a ha
                      refine stepl ha 75 (HW.ca (i := 1) (b := b3771) (C := #[.int .i64 a0.f0, .int .i64 a0.f1, .string a0.f2, .int .i64 a0.f3, .int .i64 a0.f4, .string a0.f5, .bool a0.f6, .slice A0_0 a0.f7.length c0_0, .int .u64 a0.f8, .int .u64 a0.f9, .int .u64 a0.f10, .int .i64 a0.f11, .bool a0.f12, .int .i64 a0.f13]) (T := 49) (fr := (0, 0)) KR) 42 10 (.tmp 74) (.int .u64 a0.f10) rfl KR KR KR ?_; clear ha a; intro a ha
                      refine stepp ha 76 (.pointer (some ⟨b3773, 10, none⟩)) KR KR ?_; clear ha a; intro a ha
                      refine stepl ha 77 (HW.ca (i := 0) (b := b3773) (C := #[.int .i64 a1.f0, .int .i64 a1.f1, .string a1.f2, .int .i64 a1.f3, .int .i64 a1.f4, .string a1.f5, .bool a1.f6, .slice A1_1 a1.f7.length c1_1, .int .u64 a1.f8, .int .u64 a1.f9, .int .u64 a1.f10, .int .i64 a1.f11, .bool a1.f12, .int .i64 a1.f13]) (T := 49) (fr := (0, 0)) KR) 42 10 (.tmp 76) (.int .u64 a1.f10) rfl KR KR KR ?_; clear ha a; intro a ha
                      refine stepp ha 78 (.bool (a0.f10 == a1.f10)) KR KR ?_; clear ha a; intro a ha
                      refine stepp ha 79 (.bool (a0.f10 == a1.f10)) KR KR ?_; clear ha a; intro a ha
                      refine stepp ha 80 (.bool (a0.f10 == a1.f10)) KR KR ?_; clear ha a; intro a ha
                      by_cases hp3791 : a0.f10 = a1.f10
                      · skip
                        replace h := ite_pos' h hp3791
                        replace ha := ha.bool 80 KR (ieq_t hp3791)
                        refine stepp ha 81 (.pointer (some ⟨b3771, 11, none⟩)) KR KR ?_; clear ha a; intro a ha
                        refine stepl ha 82 (HW.ca (i := 1) (b := b3771) (C := #[.int .i64 a0.f0, .int .i64 a0.f1, .string a0.f2, .int .i64 a0.f3, .int .i64 a0.f4, .string a0.f5, .bool a0.f6, .slice A0_0 a0.f7.length c0_0, .int .u64 a0.f8, .int .u64 a0.f9, .int .u64 a0.f10, .int .i64 a0.f11, .bool a0.f12, .int .i64 a0.f13]) (T := 49) (fr := (0, 0)) KR) 3 11 (.tmp 81) (.int .i64 a0.f11) rfl KR KR KR ?_; clear ha a; intro a ha
                        refine stepp ha 83 (.pointer (some ⟨b3773, 11, none⟩)) KR KR ?_; clear ha a; intro a ha
                        refine stepl ha 84 (HW.ca (i := 0) (b := b3773) (C := #[.int .i64 a1.f0, .int .i64 a1.f1, .string a1.f2, .int .i64 a1.f3, .int .i64 a1.f4, .string a1.f5, .bool a1.f6, .slice A1_1 a1.f7.length c1_1, .int .u64 a1.f8, .int .u64 a1.f9, .int .u64 a1.f10, .int .i64 a1.f11, .bool a1.f12, .int .i64 a1.f13]) (T := 49) (fr := (0, 0)) KR) 3 11 (.tmp 83) (.int .i64 a1.f11) rfl KR KR KR ?_; clear ha a; intro a ha
                        refine stepp ha 85 (.bool (a0.f11 == a1.f11)) KR KR ?_; clear ha a; intro a ha
                        refine stepp ha 86 (.bool (a0.f11 == a1.f11)) KR KR ?_; clear ha a; intro a ha
                        refine stepp ha 87 (.bool (a0.f11 == a1.f11)) KR KR ?_; clear ha a; intro a ha
                        by_cases hp3792 : a0.f11 = a1.f11
                        · skip
                          replace h := ite_pos' h hp3792
                          replace ha := ha.bool 87 KR (ieq_t hp3792)
                          refine stepp ha 88 (.pointer (some ⟨b3771, 12, none⟩)) KR KR ?_; clear ha a; intro a ha
                          refine stepl ha 89 (HW.ca (i := 1) (b := b3771) (C := #[.int .i64 a0.f0, .int .i64 a0.f1, .string a0.f2, .int .i64 a0.f3, .int .i64 a0.f4, .string a0.f5, .bool a0.f6, .slice A0_0 a0.f7.length c0_0, .int .u64 a0.f8, .int .u64 a0.f9, .int .u64 a0.f10, .int .i64 a0.f11, .bool a0.f12, .int .i64 a0.f13]) (T := 49) (fr := (0, 0)) KR) 4 12 (.tmp 88) (.bool a0.f12) rfl KR KR KR ?_; clear ha a; intro a ha
                          refine stepp ha 90 (.pointer (some ⟨b3773, 12, none⟩)) KR KR ?_; clear ha a; intro a ha
                          refine stepl ha 91 (HW.ca (i := 0) (b := b3773) (C := #[.int .i64 a1.f0, .int .i64 a1.f1, .string a1.f2, .int .i64 a1.f3, .int .i64 a1.f4, .string a1.f5, .bool a1.f6, .slice A1_1 a1.f7.length c1_1, .int .u64 a1.f8, .int .u64 a1.f9, .int .u64 a1.f10, .int .i64 a1.f11, .bool a1.f12, .int .i64 a1.f13]) (T := 49) (fr := (0, 0)) KR) 4 12 (.tmp 90) (.bool a1.f12) rfl KR KR KR ?_; clear ha a; intro a ha
                          refine stepp ha 92 (.bool (a0.f12 == a1.f12)) KR KR ?_; clear ha a; intro a ha
                          refine stepp ha 93 (.bool (a0.f12 == a1.f12)) KR KR ?_; clear ha a; intro a ha
                          refine stepp ha 94 (.bool (a0.f12 == a1.f12)) KR KR ?_; clear ha a; intro a ha
                          by_cases hp3793 : a0.f12 = a1.f12
                          · skip
                            replace h := ite_pos' h hp3793
                            replace ha := ha.bool 94 KR (beq_t hp3793)
                            refine stepp ha 95 (.pointer (some ⟨b3771, 13, none⟩)) KR KR ?_; clear ha a; intro a ha
                            refine stepl ha 96 (HW.ca (i := 1) (b := b3771) (C := #[.int .i64 a0.f0, .int .i64 a0.f1, .string a0.f2, .int .i64 a0.f3, .int .i64 a0.f4, .string a0.f5, .bool a0.f6, .slice A0_0 a0.f7.length c0_0, .int .u64 a0.f8, .int .u64 a0.f9, .int .u64 a0.f10, .int .i64 a0.f11, .bool a0.f12, .int .i64 a0.f13]) (T := 49) (fr := (0, 0)) KR) 3 13 (.tmp 95) (.int .i64 a0.f13) rfl KR KR KR ?_; clear ha a; intro a ha
                            refine stepp ha 97 (.pointer (some ⟨b3773, 13, none⟩)) KR KR ?_; clear ha a; intro a ha
                            refine stepl ha 98 (HW.ca (i := 0) (b := b3773) (C := #[.int .i64 a1.f0, .int .i64 a1.f1, .string a1.f2, .int .i64 a1.f3, .int .i64 a1.f4, .string a1.f5, .bool a1.f6, .slice A1_1 a1.f7.length c1_1, .int .u64 a1.f8, .int .u64 a1.f9, .int .u64 a1.f10, .int .i64 a1.f11, .bool a1.f12, .int .i64 a1.f13]) (T := 49) (fr := (0, 0)) KR) 3 13 (.tmp 97) (.int .i64 a1.f13) rfl KR KR KR ?_; clear ha a; intro a ha
                            refine stepp ha 99 (.bool (a0.f13 == a1.f13)) KR KR ?_; clear ha a; intro a ha
                            refine stepp ha 100 (.bool (a0.f13 == a1.f13)) KR KR ?_; clear ha a; intro a ha
                            refine stepp ha 4 (.bool (a0.f13 == a1.f13)) KR KR ?_; clear ha a; intro a ha
                            refine endl ?_
                            refine thenN (hK3776 _ _ ?_); clear hK3776
                            refine wp_ret ?_
                            obtain rfl := Option.some.inj h
                            exact finv ha _ _ rfl (.tmp (v := .bool (a0.f13 == a1.f13)) KR .nil) (.bool (a0.f13 == a1.f13)) rfl ⟨rfl, HW.pick [] [] (by decide) (by decide) rfl KR⟩
                          · skip
                            replace h := ite_neg' h hp3793
                            replace ha := ha.bool 94 KR (beq_f hp3793)
                            refine stepo ha 95 KR ?_; clear ha a; intro a ha
                            refine stepo ha 96 KR ?_; clear ha a; intro a ha
                            refine stepo ha 97 KR ?_; clear ha a; intro a ha
                            refine stepo ha 98 KR ?_; clear ha a; intro a ha
                            refine stepo ha 99 KR ?_; clear ha a; intro a ha
                            refine stepp ha 100 (.bool false) KR KR ?_; clear ha a; intro a ha
                            refine stepp ha 4 (.bool false) KR KR ?_; clear ha a; intro a ha
                            refine endl ?_
                            refine thenN (hK3776 _ _ ?_); clear hK3776
                            refine wp_ret ?_
                            obtain rfl := Option.some.inj h
                            exact finv ha _ _ rfl (.tmp (v := .bool false) KR .nil) (.bool false) rfl ⟨rfl, HW.pick [] [] (by decide) (by decide) rfl KR⟩
                        · skip
                          replace h := ite_neg' h hp3792
                          replace ha := ha.bool 87 KR (ieq_f hp3792)
                          refine stepo ha 88 KR ?_; clear ha a; intro a ha
                          refine stepo ha 89 KR ?_; clear ha a; intro a ha
                          refine stepo ha 90 KR ?_; clear ha a; intro a ha
                          refine stepo ha 91 KR ?_; clear ha a; intro a ha
                          refine stepo ha 92 KR ?_; clear ha a; intro a ha
                          refine stepp ha 93 (.bool false) KR KR ?_; clear ha a; intro a ha
                          refine stepp ha 94 (.bool false) KR KR ?_; clear ha a; intro a ha
                          refine stepo ha 95 KR ?_; clear ha a; intro a ha
                          refine stepo ha 96 KR ?_; clear ha a; intro a ha
                          refine stepo ha 97 KR ?_; clear ha a; intro a ha
                          refine stepo ha 98 KR ?_; clear ha a; intro a ha
                          refine stepo ha 99 KR ?_; clear ha a; intro a ha
                          refine stepp ha 100 (.bool false) KR KR ?_; clear ha a; intro a ha
                          refine stepp ha 4 (.bool false) KR KR ?_; clear ha a; intro a ha
                          refine endl ?_
                          refine thenN (hK3776 _ _ ?_); clear hK3776
                          refine wp_ret ?_
                          obtain rfl := Option.some.inj h
                          exact finv ha _ _ rfl (.tmp (v := .bool false) KR .nil) (.bool false) rfl ⟨rfl, HW.pick [] [] (by decide) (by decide) rfl KR⟩
                      · skip
                        replace h := ite_neg' h hp3791
                        replace ha := ha.bool 80 KR (ieq_f hp3791)
                        refine stepo ha 81 KR ?_; clear ha a; intro a ha
                        refine stepo ha 82 KR ?_; clear ha a; intro a ha
                        refine stepo ha 83 KR ?_; clear ha a; intro a ha
                        refine stepo ha 84 KR ?_; clear ha a; intro a ha
                        refine stepo ha 85 KR ?_; clear ha a; intro a ha
                        refine stepp ha 86 (.bool false) KR KR ?_; clear ha a; intro a ha
                        refine stepp ha 87 (.bool false) KR KR ?_; clear ha a; intro a ha
                        refine stepo ha 88 KR ?_; clear ha a; intro a ha
                        refine stepo ha 89 KR ?_; clear ha a; intro a ha
                        refine stepo ha 90 KR ?_; clear ha a; intro a ha
                        refine stepo ha 91 KR ?_; clear ha a; intro a ha
                        refine stepo ha 92 KR ?_; clear ha a; intro a ha
                        refine stepp ha 93 (.bool false) KR KR ?_; clear ha a; intro a ha
                        refine stepp ha 94 (.bool false) KR KR ?_; clear ha a; intro a ha
                        refine stepo ha 95 KR ?_; clear ha a; intro a ha
                        refine stepo ha 96 KR ?_; clear ha a; intro a ha
                        refine stepo ha 97 KR ?_; clear ha a; intro a ha
                        refine stepo ha 98 KR ?_; clear ha a; intro a ha
                        refine stepo ha 99 KR ?_; clear ha a; intro a ha
                        refine stepp ha 100 (.bool false) KR KR ?_; clear ha a; intro a ha
                        refine stepp ha 4 (.bool false) KR KR ?_; clear ha a; intro a ha
                        refine endl ?_
                        refine thenN (hK3776 _ _ ?_); clear hK3776
                        refine wp_ret ?_
                        obtain rfl := Option.some.inj h
                        exact finv ha _ _ rfl (.tmp (v := .bool false) KR .nil) (.bool false) rfl ⟨rfl, HW.pick [] [] (by decide) (by decide) rfl KR⟩
                    · skip
                      replace h := ite_neg' h hp3790
                      replace ha := ha.bool 73 KR (ieq_f hp3790)
                      refine stepo ha 74 KR ?_; clear ha a; intro a ha
                      refine stepo ha 75 KR ?_; clear ha a; intro a ha
                      refine stepo ha 76 KR ?_; clear ha a; intro a ha
                      refine stepo ha 77 KR ?_; clear ha a; intro a ha
                      refine stepo ha 78 KR ?_; clear ha a; intro a ha
                      refine stepp ha 79 (.bool false) KR KR ?_; clear ha a; intro a ha
                      refine stepp ha 80 (.bool false) KR KR ?_; clear ha a; intro a ha
                      refine stepo ha 81 KR ?_; clear ha a; intro a ha
                      refine stepo ha 82 KR ?_; clear ha a; intro a ha
                      refine stepo ha 83 KR ?_; clear ha a; intro a ha
                      refine stepo ha 84 KR ?_; clear ha a; intro a ha
                      refine stepo ha 85 KR ?_; clear ha a; intro a ha
                      refine stepp ha 86 (.bool false) KR KR ?_; clear ha a; intro a ha
                      refine stepp ha 87 (.bool false) KR KR ?_; clear ha a; intro a ha
                      refine stepo ha 88 KR ?_; clear ha a; intro a ha
                      refine stepo ha 89 KR ?_; clear ha a; intro a ha
                      refine stepo ha 90 KR ?_; clear ha a; intro a ha
                      refine stepo ha 91 KR ?_; clear ha a; intro a ha
                      refine stepo ha 92 KR ?_; clear ha a; intro a ha
                      refine stepp ha 93 (.bool false) KR KR ?_; clear ha a; intro a ha
                      refine stepp ha 94 (.bool false) KR KR ?_; clear ha a; intro a ha
                      refine stepo ha 95 KR ?_; clear ha a; intro a ha
                      refine stepo ha 96 KR ?_; clear ha a; intro a ha
                      refine stepo ha 97 KR ?_; clear ha a; intro a ha
                      refine stepo ha 98 KR ?_; clear ha a; intro a ha
                      refine stepo ha 99 KR ?_; clear ha a; intro a ha
                      refine stepp ha 100 (.bool false) KR KR ?_; clear ha a; intro a ha
                      refine stepp ha 4 (.bool false) KR KR ?_; clear ha a; intro a ha
                      refine endl ?_
                      refine thenN (hK3776 _ _ ?_); clear hK3776
                      refine wp_ret ?_
                      obtain rfl := Option.some.inj h
                      exact finv ha _ _ rfl (.tmp (v := .bool false) KR .nil) (.bool false) rfl ⟨rfl, HW.pick [] [] (by decide) (by decide) rfl KR⟩
                  · skip
                    replace h := ite_neg' h hp3789
                    replace ha := ha.bool 66 KR (ieq_f hp3789)
                    refine stepo ha 67 KR ?_; clear ha a; intro a ha
                    refine stepo ha 68 KR ?_; clear ha a; intro a ha
                    refine stepo ha 69 KR ?_; clear ha a; intro a ha
                    refine stepo ha 70 KR ?_; clear ha a; intro a ha
                    refine stepo ha 71 KR ?_; clear ha a; intro a ha
                    refine stepp ha 72 (.bool false) KR KR ?_; clear ha a; intro a ha
                    refine stepp ha 73 (.bool false) KR KR ?_; clear ha a; intro a ha
                    refine stepo ha 74 KR ?_; clear ha a; intro a ha
                    refine stepo ha 75 KR ?_; clear ha a; intro a ha
                    refine stepo ha 76 KR ?_; clear ha a; intro a ha
                    refine stepo ha 77 KR ?_; clear ha a; intro a ha
                    refine stepo ha 78 KR ?_; clear ha a; intro a ha
                    refine stepp ha 79 (.bool false) KR KR ?_; clear ha a; intro a ha
                    refine stepp ha 80 (.bool false) KR KR ?_; clear ha a; intro a ha
                    refine stepo ha 81 KR ?_; clear ha a; intro a ha
                    refine stepo ha 82 KR ?_; clear ha a; intro a ha
                    refine stepo ha 83 KR ?_; clear ha a; intro a ha
                    refine stepo ha 84 KR ?_; clear ha a; intro a ha
                    refine stepo ha 85 KR ?_; clear ha a; intro a ha
                    refine stepp ha 86 (.bool false) KR KR ?_; clear ha a; intro a ha
                    refine stepp ha 87 (.bool false) KR KR ?_; clear ha a; intro a ha
                    refine stepo ha 88 KR ?_; clear ha a; intro a ha
                    refine stepo ha 89 KR ?_; clear ha a; intro a ha
                    refine stepo ha 90 KR ?_; clear ha a; intro a ha
                    refine stepo ha 91 KR ?_; clear ha a; intro a ha
                    refine stepo ha 92 KR ?_; clear ha a; intro a ha
                    refine stepp ha 93 (.bool false) KR KR ?_; clear ha a; intro a ha
                    refine stepp ha 94 (.bool false) KR KR ?_; clear ha a; intro a ha
                    refine stepo ha 95 KR ?_; clear ha a; intro a ha
                    refine stepo ha 96 KR ?_; clear ha a; intro a ha
                    refine stepo ha 97 KR ?_; clear ha a; intro a ha
                    refine stepo ha 98 KR ?_; clear ha a; intro a ha
                    refine stepo ha 99 KR ?_; clear ha a; intro a ha
                    refine stepp ha 100 (.bool false) KR KR ?_; clear ha a; intro a ha
                    refine stepp ha 4 (.bool false) KR KR ?_; clear ha a; intro a ha
                    refine endl ?_
                    refine thenN (hK3776 _ _ ?_); clear hK3776
                    refine wp_ret ?_
                    obtain rfl := Option.some.inj h
                    exact finv ha _ _ rfl (.tmp (v := .bool false) KR .nil) (.bool false) rfl ⟨rfl, HW.pick [] [] (by decide) (by decide) rfl KR⟩
                · skip
                  replace h := ite_neg' h hp3788
                  replace ha := ha.bool 59 KR (bool_f hp3788)
                  refine stepo ha 60 KR ?_; clear ha a; intro a ha
                  refine stepo ha 61 KR ?_; clear ha a; intro a ha
                  refine stepo ha 62 KR ?_; clear ha a; intro a ha
                  refine stepo ha 63 KR ?_; clear ha a; intro a ha
                  refine stepo ha 64 KR ?_; clear ha a; intro a ha
                  refine stepp ha 65 (.bool false) KR KR ?_; clear ha a; intro a ha
                  refine stepp ha 66 (.bool false) KR KR ?_; clear ha a; intro a ha
                  refine stepo ha 67 KR ?_; clear ha a; intro a ha
                  refine stepo ha 68 KR ?_; clear ha a; intro a ha
                  refine stepo ha 69 KR ?_; clear ha a; intro a ha
                  refine stepo ha 70 KR ?_; clear ha a; intro a ha
                  refine stepo ha 71 KR ?_; clear ha a; intro a ha
                  refine stepp ha 72 (.bool false) KR KR ?_; clear ha a; intro a ha
                  refine stepp ha 73 (.bool false) KR KR ?_; clear ha a; intro a ha
                  refine stepo ha 74 KR ?_; clear ha a; intro a ha
                  refine stepo ha 75 KR ?_; clear ha a; intro a ha
                  refine stepo ha 76 KR ?_; clear ha a; intro a ha
                  refine stepo ha 77 KR ?_; clear ha a; intro a ha
                  refine stepo ha 78 KR ?_; clear ha a; intro a ha
                  refine stepp ha 79 (.bool false) KR KR ?_; clear ha a; intro a ha
                  refine stepp ha 80 (.bool false) KR KR ?_; clear ha a; intro a ha
                  refine stepo ha 81 KR ?_; clear ha a; intro a ha
                  refine stepo ha 82 KR ?_; clear ha a; intro a ha
                  refine stepo ha 83 KR ?_; clear ha a; intro a ha
                  refine stepo ha 84 KR ?_; clear ha a; intro a ha
                  refine stepo ha 85 KR ?_; clear ha a; intro a ha
                  refine stepp ha 86 (.bool false) KR KR ?_; clear ha a; intro a ha
                  refine stepp ha 87 (.bool false) KR KR ?_; clear ha a; intro a ha
                  refine stepo ha 88 KR ?_; clear ha a; intro a ha
                  refine stepo ha 89 KR ?_; clear ha a; intro a ha
                  refine stepo ha 90 KR ?_; clear ha a; intro a ha
                  refine stepo ha 91 KR ?_; clear ha a; intro a ha
                  refine stepo ha 92 KR ?_; clear ha a; intro a ha
                  refine stepp ha 93 (.bool false) KR KR ?_; clear ha a; intro a ha
                  refine stepp ha 94 (.bool false) KR KR ?_; clear ha a; intro a ha
                  refine stepo ha 95 KR ?_; clear ha a; intro a ha
                  refine stepo ha 96 KR ?_; clear ha a; intro a ha
                  refine stepo ha 97 KR ?_; clear ha a; intro a ha
                  refine stepo ha 98 KR ?_; clear ha a; intro a ha
                  refine stepo ha 99 KR ?_; clear ha a; intro a ha
                  refine stepp ha 100 (.bool false) KR KR ?_; clear ha a; intro a ha
                  refine stepp ha 4 (.bool false) KR KR ?_; clear ha a; intro a ha
                  refine endl ?_
                  refine thenN (hK3776 _ _ ?_); clear hK3776
                  refine wp_ret ?_
                  obtain rfl := Option.some.inj h
                  exact finv ha _ _ rfl (.tmp (v := .bool false) KR .nil) (.bool false) rfl ⟨rfl, HW.pick [] [] (by decide) (by decide) rfl KR⟩
              · skip
                replace h := ite_neg' h hp3783
                replace ha := ha.bool 52 KR (beq_f hp3783)
                refine stepo ha 53 KR ?_; clear ha a; intro a ha
                refine stepo ha 54 KR ?_; clear ha a; intro a ha
                refine stepo ha 55 KR ?_; clear ha a; intro a ha
                refine stepo ha 56 KR ?_; clear ha a; intro a ha
                refine stepo ha 57 KR ?_; clear ha a; intro a ha
                refine stepp ha 58 (.bool false) KR KR ?_; clear ha a; intro a ha
                refine stepp ha 59 (.bool false) KR KR ?_; clear ha a; intro a ha
                refine stepo ha 60 KR ?_; clear ha a; intro a ha
                refine stepo ha 61 KR ?_; clear ha a; intro a ha
                refine stepo ha 62 KR ?_; clear ha a; intro a ha
                refine stepo ha 63 KR ?_; clear ha a; intro a ha
                refine stepo ha 64 KR ?_; clear ha a; intro a ha
                refine stepp ha 65 (.bool false) KR KR ?_; clear ha a; intro a ha
                refine stepp ha 66 (.bool false) KR KR ?_; clear ha a; intro a ha
                refine stepo ha 67 KR ?_; clear ha a; intro a ha
                refine stepo ha 68 KR ?_; clear ha a; intro a ha
                refine stepo ha 69 KR ?_; clear ha a; intro a ha
                refine stepo ha 70 KR ?_; clear ha a; intro a ha
                refine stepo ha 71 KR ?_; clear ha a; intro a ha
                refine stepp ha 72 (.bool false) KR KR ?_; clear ha a; intro a ha
                refine stepp ha 73 (.bool false) KR KR ?_; clear ha a; intro a ha
                refine stepo ha 74 KR ?_; clear ha a; intro a ha
                refine stepo ha 75 KR ?_; clear ha a; intro a ha
                refine stepo ha 76 KR ?_; clear ha a; intro a ha
                refine stepo ha 77 KR ?_; clear ha a; intro a ha
                refine stepo ha 78 KR ?_; clear ha a; intro a ha
                refine stepp ha 79 (.bool false) KR KR ?_; clear ha a; intro a ha
                refine stepp ha 80 (.bool false) KR KR ?_; clear ha a; intro a ha
                refine stepo ha 81 KR ?_; clear ha a; intro a ha
                refine stepo ha 82 KR ?_; clear ha a; intro a ha
                refine stepo ha 83 KR ?_; clear ha a; intro a ha
                refine stepo ha 84 KR ?_; clear ha a; intro a ha
                refine stepo ha 85 KR ?_; clear ha a; intro a ha
                refine stepp ha 86 (.bool false) KR KR ?_; clear ha a; intro a ha
                refine stepp ha 87 (.bool false) KR KR ?_; clear ha a; intro a ha
                refine stepo ha 88 KR ?_; clear ha a; intro a ha
                refine stepo ha 89 KR ?_; clear ha a; intro a ha
                refine stepo ha 90 KR ?_; clear ha a; intro a ha
                refine stepo ha 91 KR ?_; clear ha a; intro a ha
                refine stepo ha 92 KR ?_; clear ha a; intro a ha
                refine stepp ha 93 (.bool false) KR KR ?_; clear ha a; intro a ha
                refine stepp ha 94 (.bool false) KR KR ?_; clear ha a; intro a ha
                refine stepo ha 95 KR ?_; clear ha a; intro a ha
                refine stepo ha 96 KR ?_; clear ha a; intro a ha
                refine stepo ha 97 KR ?_; clear ha a; intro a ha
                refine stepo ha 98 KR ?_; clear ha a; intro a ha
                refine stepo ha 99 KR ?_; clear ha a; intro a ha
                refine stepp ha 100 (.bool false) KR KR ?_; clear ha a; intro a ha
                refine stepp ha 4 (.bool false) KR KR ?_; clear ha a; intro a ha
                refine endl ?_
                refine thenN (hK3776 _ _ ?_); clear hK3776
                refine wp_ret ?_
                obtain rfl := Option.some.inj h
                exact finv ha _ _ rfl (.tmp (v := .bool false) KR .nil) (.bool false) rfl ⟨rfl, HW.pick [] [] (by decide) (by decide) rfl KR⟩
            · skip
              replace h := ite_neg' h hp3782
              replace ha := ha.bool 45 KR (str_eq_f hp3782)
              refine stepo ha 46 KR ?_; clear ha a; intro a ha
              refine stepo ha 47 KR ?_; clear ha a; intro a ha
              refine stepo ha 48 KR ?_; clear ha a; intro a ha
              refine stepo ha 49 KR ?_; clear ha a; intro a ha
              refine stepo ha 50 KR ?_; clear ha a; intro a ha
              refine stepp ha 51 (.bool false) KR KR ?_; clear ha a; intro a ha
              refine stepp ha 52 (.bool false) KR KR ?_; clear ha a; intro a ha
              refine stepo ha 53 KR ?_; clear ha a; intro a ha
              refine stepo ha 54 KR ?_; clear ha a; intro a ha
              refine stepo ha 55 KR ?_; clear ha a; intro a ha
              refine stepo ha 56 KR ?_; clear ha a; intro a ha
              refine stepo ha 57 KR ?_; clear ha a; intro a ha
              refine stepp ha 58 (.bool false) KR KR ?_; clear ha a; intro a ha
              refine stepp ha 59 (.bool false) KR KR ?_; clear ha a; intro a ha
              refine stepo ha 60 KR ?_; clear ha a; intro a ha
              refine stepo ha 61 KR ?_; clear ha a; intro a ha
              refine stepo ha 62 KR ?_; clear ha a; intro a ha
              refine stepo ha 63 KR ?_; clear ha a; intro a ha
              refine stepo ha 64 KR ?_; clear ha a; intro a ha
              refine stepp ha 65 (.bool false) KR KR ?_; clear ha a; intro a ha
              refine stepp ha 66 (.bool false) KR KR ?_; clear ha a; intro a ha
              refine stepo ha 67 KR ?_; clear ha a; intro a ha
              refine stepo ha 68 KR ?_; clear ha a; intro a ha
              refine stepo ha 69 KR ?_; clear ha a; intro a ha
              refine stepo ha 70 KR ?_; clear ha a; intro a ha
              refine stepo ha 71 KR ?_; clear ha a; intro a ha
              refine stepp ha 72 (.bool false) KR KR ?_; clear ha a; intro a ha
              refine stepp ha 73 (.bool false) KR KR ?_; clear ha a; intro a ha
              refine stepo ha 74 KR ?_; clear ha a; intro a ha
              refine stepo ha 75 KR ?_; clear ha a; intro a ha
              refine stepo ha 76 KR ?_; clear ha a; intro a ha
              refine stepo ha 77 KR ?_; clear ha a; intro a ha
              refine stepo ha 78 KR ?_; clear ha a; intro a ha
              refine stepp ha 79 (.bool false) KR KR ?_; clear ha a; intro a ha
              refine stepp ha 80 (.bool false) KR KR ?_; clear ha a; intro a ha
              refine stepo ha 81 KR ?_; clear ha a; intro a ha
              refine stepo ha 82 KR ?_; clear ha a; intro a ha
              refine stepo ha 83 KR ?_; clear ha a; intro a ha
              refine stepo ha 84 KR ?_; clear ha a; intro a ha
              refine stepo ha 85 KR ?_; clear ha a; intro a ha
              refine stepp ha 86 (.bool false) KR KR ?_; clear ha a; intro a ha
              refine stepp ha 87 (.bool false) KR KR ?_; clear ha a; intro a ha
              refine stepo ha 88 KR ?_; clear ha a; intro a ha
              refine stepo ha 89 KR ?_; clear ha a; intro a ha
              refine stepo ha 90 KR ?_; clear ha a; intro a ha
              refine stepo ha 91 KR ?_; clear ha a; intro a ha
              refine stepo ha 92 KR ?_; clear ha a; intro a ha
              refine stepp ha 93 (.bool false) KR KR ?_; clear ha a; intro a ha
              refine stepp ha 94 (.bool false) KR KR ?_; clear ha a; intro a ha
              refine stepo ha 95 KR ?_; clear ha a; intro a ha
              refine stepo ha 96 KR ?_; clear ha a; intro a ha
              refine stepo ha 97 KR ?_; clear ha a; intro a ha
              refine stepo ha 98 KR ?_; clear ha a; intro a ha
              refine stepo ha 99 KR ?_; clear ha a; intro a ha
              refine stepp ha 100 (.bool false) KR KR ?_; clear ha a; intro a ha
              refine stepp ha 4 (.bool false) KR KR ?_; clear ha a; intro a ha
              refine endl ?_
              refine thenN (hK3776 _ _ ?_); clear hK3776
              refine wp_ret ?_
              obtain rfl := Option.some.inj h
              exact finv ha _ _ rfl (.tmp (v := .bool false) KR .nil) (.bool false) rfl ⟨rfl, HW.pick [] [] (by decide) (by decide) rfl KR⟩
          · skip
            replace h := ite_neg' h hp3781
            replace ha := ha.bool 38 KR (ieq_f hp3781)
            refine stepo ha 39 KR ?_; clear ha a; intro a ha
            refine stepo ha 40 KR ?_; clear ha a; intro a ha
            refine stepo ha 41 KR ?_; clear ha a; intro a ha
            refine stepo ha 42 KR ?_; clear ha a; intro a ha
            refine stepo ha 43 KR ?_; clear ha a; intro a ha
            refine stepp ha 44 (.bool false) KR KR ?_; clear ha a; intro a ha
            refine stepp ha 45 (.bool false) KR KR ?_; clear ha a; intro a ha
            refine stepo ha 46 KR ?_; clear ha a; intro a ha
            refine stepo ha 47 KR ?_; clear ha a; intro a ha
            refine stepo ha 48 KR ?_; clear ha a; intro a ha
            refine stepo ha 49 KR ?_; clear ha a; intro a ha
            refine stepo ha 50 KR ?_; clear ha a; intro a ha
            refine stepp ha 51 (.bool false) KR KR ?_; clear ha a; intro a ha
            refine stepp ha 52 (.bool false) KR KR ?_; clear ha a; intro a ha
            refine stepo ha 53 KR ?_; clear ha a; intro a ha
            refine stepo ha 54 KR ?_; clear ha a; intro a ha
            refine stepo ha 55 KR ?_; clear ha a; intro a ha
            refine stepo ha 56 KR ?_; clear ha a; intro a ha
            refine stepo ha 57 KR ?_; clear ha a; intro a ha
            refine stepp ha 58 (.bool false) KR KR ?_; clear ha a; intro a ha
            refine stepp ha 59 (.bool false) KR KR ?_; clear ha a; intro a ha
            refine stepo ha 60 KR ?_; clear ha a; intro a ha
            refine stepo ha 61 KR ?_; clear ha a; intro a ha
            refine stepo ha 62 KR ?_; clear ha a; intro a ha
            refine stepo ha 63 KR ?_; clear ha a; intro a ha
            refine stepo ha 64 KR ?_; clear ha a; intro a ha
            refine stepp ha 65 (.bool false) KR KR ?_; clear ha a; intro a ha
            refine stepp ha 66 (.bool false) KR KR ?_; clear ha a; intro a ha
            refine stepo ha 67 KR ?_; clear ha a; intro a ha
            refine stepo ha 68 KR ?_; clear ha a; intro a ha
            refine stepo ha 69 KR ?_; clear ha a; intro a ha
            refine stepo ha 70 KR ?_; clear ha a; intro a ha
            refine stepo ha 71 KR ?_; clear ha a; intro a ha
            refine stepp ha 72 (.bool false) KR KR ?_; clear ha a; intro a ha
            refine stepp ha 73 (.bool false) KR KR ?_; clear ha a; intro a ha
            refine stepo ha 74 KR ?_; clear ha a; intro a ha
            refine stepo ha 75 KR ?_; clear ha a; intro a ha
            refine stepo ha 76 KR ?_; clear ha a; intro a ha
            refine stepo ha 77 KR ?_; clear ha a; intro a ha
            refine stepo ha 78 KR ?_; clear ha a; intro a ha
            refine stepp ha 79 (.bool false) KR KR ?_; clear ha a; intro a ha
            refine stepp ha 80 (.bool false) KR KR ?_; clear ha a; intro a ha
            refine stepo ha 81 KR ?_; clear ha a; intro a ha
            refine stepo ha 82 KR ?_; clear ha a; intro a ha
            refine stepo ha 83 KR ?_; clear ha a; intro a ha
            refine stepo ha 84 KR ?_; clear ha a; intro a ha
            refine stepo ha 85 KR ?_; clear ha a; intro a ha
            refine stepp ha 86 (.bool false) KR KR ?_; clear ha a; intro a ha
            refine stepp ha 87 (.bool false) KR KR ?_; clear ha a; intro a ha
            refine stepo ha 88 KR ?_; clear ha a; intro a ha
            refine stepo ha 89 KR ?_; clear ha a; intro a ha
            refine stepo ha 90 KR ?_; clear ha a; intro a ha
            refine stepo ha 91 KR ?_; clear ha a; intro a ha
            refine stepo ha 92 KR ?_; clear ha a; intro a ha
            refine stepp ha 93 (.bool false) KR KR ?_; clear ha a; intro a ha
            refine stepp ha 94 (.bool false) KR KR ?_; clear ha a; intro a ha
            refine stepo ha 95 KR ?_; clear ha a; intro a ha
            refine stepo ha 96 KR ?_; clear ha a; intro a ha
            refine stepo ha 97 KR ?_; clear ha a; intro a ha
            refine stepo ha 98 KR ?_; clear ha a; intro a ha
            refine stepo ha 99 KR ?_; clear ha a; intro a ha
            refine stepp ha 100 (.bool false) KR KR ?_; clear ha a; intro a ha
            refine stepp ha 4 (.bool false) KR KR ?_; clear ha a; intro a ha
            refine endl ?_
            refine thenN (hK3776 _ _ ?_); clear hK3776
            refine wp_ret ?_
            obtain rfl := Option.some.inj h
            exact finv ha _ _ rfl (.tmp (v := .bool false) KR .nil) (.bool false) rfl ⟨rfl, HW.pick [] [] (by decide) (by decide) rfl KR⟩
        · skip
          replace h := ite_neg' h hp3780
          replace ha := ha.bool 31 KR (ieq_f hp3780)
          refine stepo ha 32 KR ?_; clear ha a; intro a ha
          refine stepo ha 33 KR ?_; clear ha a; intro a ha
          refine stepo ha 34 KR ?_; clear ha a; intro a ha
          refine stepo ha 35 KR ?_; clear ha a; intro a ha
          refine stepo ha 36 KR ?_; clear ha a; intro a ha
          refine stepp ha 37 (.bool false) KR KR ?_; clear ha a; intro a ha
          refine stepp ha 38 (.bool false) KR KR ?_; clear ha a; intro a ha
          refine stepo ha 39 KR ?_; clear ha a; intro a ha
          refine stepo ha 40 KR ?_; clear ha a; intro a ha
          refine stepo ha 41 KR ?_; clear ha a; intro a ha
          refine stepo ha 42 KR ?_; clear ha a; intro a ha
          refine stepo ha 43 KR ?_; clear ha a; intro a ha
          refine stepp ha 44 (.bool false) KR KR ?_; clear ha a; intro a ha
          refine stepp ha 45 (.bool false) KR KR ?_; clear ha a; intro a ha
          refine stepo ha 46 KR ?_; clear ha a; intro a ha
          refine stepo ha 47 KR ?_; clear ha a; intro a ha
          refine stepo ha 48 KR ?_; clear ha a; intro a ha
          refine stepo ha 49 KR ?_; clear ha a; intro a ha
          refine stepo ha 50 KR ?_; clear ha a; intro a ha
          refine stepp ha 51 (.bool false) KR KR ?_; clear ha a; intro a ha
          refine stepp ha 52 (.bool false) KR KR ?_; clear ha a; intro a ha
          refine stepo ha 53 KR ?_; clear ha a; intro a ha
          refine stepo ha 54 KR ?_; clear ha a; intro a ha
          refine stepo ha 55 KR ?_; clear ha a; intro a ha
          refine stepo ha 56 KR ?_; clear ha a; intro a ha
          refine stepo ha 57 KR ?_; clear ha a; intro a ha
          refine stepp ha 58 (.bool false) KR KR ?_; clear ha a; intro a ha
          refine stepp ha 59 (.bool false) KR KR ?_; clear ha a; intro a ha
          refine stepo ha 60 KR ?_; clear ha a; intro a ha
          refine stepo ha 61 KR ?_; clear ha a; intro a ha
          refine stepo ha 62 KR ?_; clear ha a; intro a ha
          refine stepo ha 63 KR ?_; clear ha a; intro a ha
          refine stepo ha 64 KR ?_; clear ha a; intro a ha
          refine stepp ha 65 (.bool false) KR KR ?_; clear ha a; intro a ha
          refine stepp ha 66 (.bool false) KR KR ?_; clear ha a; intro a ha
          refine stepo ha 67 KR ?_; clear ha a; intro a ha
          refine stepo ha 68 KR ?_; clear ha a; intro a ha
          refine stepo ha 69 KR ?_; clear ha a; intro a ha
          refine stepo ha 70 KR ?_; clear ha a; intro a ha
          refine stepo ha 71 KR ?_; clear ha a; intro a ha
          refine stepp ha 72 (.bool false) KR KR ?_; clear ha a; intro a ha
          refine stepp ha 73 (.bool false) KR KR ?_; clear ha a; intro a ha
          refine stepo ha 74 KR ?_; clear ha a; intro a ha
          refine stepo ha 75 KR ?_; clear ha a; intro a ha
          refine stepo ha 76 KR ?_; clear ha a; intro a ha
          refine stepo ha 77 KR ?_; clear ha a; intro a ha
          refine stepo ha 78 KR ?_; clear ha a; intro a ha
          refine stepp ha 79 (.bool false) KR KR ?_; clear ha a; intro a ha
          refine stepp ha 80 (.bool false) KR KR ?_; clear ha a; intro a ha
          refine stepo ha 81 KR ?_; clear ha a; intro a ha
          refine stepo ha 82 KR ?_; clear ha a; intro a ha
          refine stepo ha 83 KR ?_; clear ha a; intro a ha
          refine stepo ha 84 KR ?_; clear ha a; intro a ha
          refine stepo ha 85 KR ?_; clear ha a; intro a ha
          refine stepp ha 86 (.bool false) KR KR ?_; clear ha a; intro a ha
          refine stepp ha 87 (.bool false) KR KR ?_; clear ha a; intro a ha
          refine stepo ha 88 KR ?_; clear ha a; intro a ha
          refine stepo ha 89 KR ?_; clear ha a; intro a ha
          refine stepo ha 90 KR ?_; clear ha a; intro a ha
          refine stepo ha 91 KR ?_; clear ha a; intro a ha
          refine stepo ha 92 KR ?_; clear ha a; intro a ha
          refine stepp ha 93 (.bool false) KR KR ?_; clear ha a; intro a ha
          refine stepp ha 94 (.bool false) KR KR ?_; clear ha a; intro a ha
          refine stepo ha 95 KR ?_; clear ha a; intro a ha
          refine stepo ha 96 KR ?_; clear ha a; intro a ha
          refine stepo ha 97 KR ?_; clear ha a; intro a ha
          refine stepo ha 98 KR ?_; clear ha a; intro a ha
          refine stepo ha 99 KR ?_; clear ha a; intro a ha
          refine stepp ha 100 (.bool false) KR KR ?_; clear ha a; intro a ha
          refine stepp ha 4 (.bool false) KR KR ?_; clear ha a; intro a ha
          refine endl ?_
          refine thenN (hK3776 _ _ ?_); clear hK3776
          refine wp_ret ?_
          obtain rfl := Option.some.inj h
          exact finv ha _ _ rfl (.tmp (v := .bool false) KR .nil) (.bool false) rfl ⟨rfl, HW.pick [] [] (by decide) (by decide) rfl KR⟩
      · skip
        replace h := ite_neg' h hp3779
        replace ha := ha.bool 24 KR (str_eq_f hp3779)
        refine stepo ha 25 KR ?_; clear ha a; intro a ha
        refine stepo ha 26 KR ?_; clear ha a; intro a ha
        refine stepo ha 27 KR ?_; clear ha a; intro a ha
        refine stepo ha 28 KR ?_; clear ha a; intro a ha
        refine stepo ha 29 KR ?_; clear ha a; intro a ha
        refine stepp ha 30 (.bool false) KR KR ?_; clear ha a; intro a ha
        refine stepp ha 31 (.bool false) KR KR ?_; clear ha a; intro a ha
        refine stepo ha 32 KR ?_; clear ha a; intro a ha
        refine stepo ha 33 KR ?_; clear ha a; intro a ha
        refine stepo ha 34 KR ?_; clear ha a; intro a ha
        refine stepo ha 35 KR ?_; clear ha a; intro a ha
        refine stepo ha 36 KR ?_; clear ha a; intro a ha
        refine stepp ha 37 (.bool false) KR KR ?_; clear ha a; intro a ha
        refine stepp ha 38 (.bool false) KR KR ?_; clear ha a; intro a ha
        refine stepo ha 39 KR ?_; clear ha a; intro a ha
        refine stepo ha 40 KR ?_; clear ha a; intro a ha
        refine stepo ha 41 KR ?_; clear ha a; intro a ha
        refine stepo ha 42 KR ?_; clear ha a; intro a ha
        refine stepo ha 43 KR ?_; clear ha a; intro a ha
        refine stepp ha 44 (.bool false) KR KR ?_; clear ha a; intro a ha
        refine stepp ha 45 (.bool false) KR KR ?_; clear ha a; intro a ha
        refine stepo ha 46 KR ?_; clear ha a; intro a ha
        refine stepo ha 47 KR ?_; clear ha a; intro a ha
        refine stepo ha 48 KR ?_; clear ha a; intro a ha
        refine stepo ha 49 KR ?_; clear ha a; intro a ha
        refine stepo ha 50 KR ?_; clear ha a; intro a ha
        refine stepp ha 51 (.bool false) KR KR ?_; clear ha a; intro a ha
        refine stepp ha 52 (.bool false) KR KR ?_; clear ha a; intro a ha
        refine stepo ha 53 KR ?_; clear ha a; intro a ha
        refine stepo ha 54 KR ?_; clear ha a; intro a ha
        refine stepo ha 55 KR ?_; clear ha a; intro a ha
        refine stepo ha 56 KR ?_; clear ha a; intro a ha
        refine stepo ha 57 KR ?_; clear ha a; intro a ha
        refine stepp ha 58 (.bool false) KR KR ?_; clear ha a; intro a ha
        refine stepp ha 59 (.bool false) KR KR ?_; clear ha a; intro a ha
        refine stepo ha 60 KR ?_; clear ha a; intro a ha
        refine stepo ha 61 KR ?_; clear ha a; intro a ha
        refine stepo ha 62 KR ?_; clear ha a; intro a ha
        refine stepo ha 63 KR ?_; clear ha a; intro a ha
        refine stepo ha 64 KR ?_; clear ha a; intro a ha
        refine stepp ha 65 (.bool false) KR KR ?_; clear ha a; intro a ha
        refine stepp ha 66 (.bool false) KR KR ?_; clear ha a; intro a ha
        refine stepo ha 67 KR ?_; clear ha a; intro a ha
        refine stepo ha 68 KR ?_; clear ha a; intro a ha
        refine stepo ha 69 KR ?_; clear ha a; intro a ha
        refine stepo ha 70 KR ?_; clear ha a; intro a ha
        refine stepo ha 71 KR ?_; clear ha a; intro a ha
        refine stepp ha 72 (.bool false) KR KR ?_; clear ha a; intro a ha
        refine stepp ha 73 (.bool false) KR KR ?_; clear ha a; intro a ha
        refine stepo ha 74 KR ?_; clear ha a; intro a ha
        refine stepo ha 75 KR ?_; clear ha a; intro a ha
        refine stepo ha 76 KR ?_; clear ha a; intro a ha
        refine stepo ha 77 KR ?_; clear ha a; intro a ha
        refine stepo ha 78 KR ?_; clear ha a; intro a ha
        refine stepp ha 79 (.bool false) KR KR ?_; clear ha a; intro a ha
        refine stepp ha 80 (.bool false) KR KR ?_; clear ha a; intro a ha
        refine stepo ha 81 KR ?_; clear ha a; intro a ha
        refine stepo ha 82 KR ?_; clear ha a; intro a ha
        refine stepo ha 83 KR ?_; clear ha a; intro a ha
        refine stepo ha 84 KR ?_; clear ha a; intro a ha
        refine stepo ha 85 KR ?_; clear ha a; intro a ha
        refine stepp ha 86 (.bool false) KR KR ?_; clear ha a; intro a ha
        refine stepp ha 87 (.bool false) KR KR ?_; clear ha a; intro a ha
        refine stepo ha 88 KR ?_; clear ha a; intro a ha
        refine stepo ha 89 KR ?_; clear ha a; intro a ha
        refine stepo ha 90 KR ?_; clear ha a; intro a ha
        refine stepo ha 91 KR ?_; clear ha a; intro a ha
        refine stepo ha 92 KR ?_; clear ha a; intro a ha
        refine stepp ha 93 (.bool false) KR KR ?_; clear ha a; intro a ha
        refine stepp ha 94 (.bool false) KR KR ?_; clear ha a; intro a ha
        refine stepo ha 95 KR ?_; clear ha a; intro a ha
        refine stepo ha 96 KR ?_; clear ha a; intro a ha
        refine stepo ha 97 KR ?_; clear ha a; intro a ha
        refine stepo ha 98 KR ?_; clear ha a; intro a ha
        refine stepo ha 99 KR ?_; clear ha a; intro a ha
        refine stepp ha 100 (.bool false) KR KR ?_; clear ha a; intro a ha
        refine stepp ha 4 (.bool false) KR KR ?_; clear ha a; intro a ha
        refine endl ?_
        refine thenN (hK3776 _ _ ?_); clear hK3776
        refine wp_ret ?_
        obtain rfl := Option.some.inj h
        exact finv ha _ _ rfl (.tmp (v := .bool false) KR .nil) (.bool false) rfl ⟨rfl, HW.pick [] [] (by decide) (by decide) rfl KR⟩
    · skip
      replace h := ite_neg' h hp3778
      replace ha := ha.bool 17 KR (ieq_f hp3778)
      refine stepo ha 18 KR ?_; clear ha a; intro a ha
      refine stepo ha 19 KR ?_; clear ha a; intro a ha
      refine stepo ha 20 KR ?_; clear ha a; intro a ha
      refine stepo ha 21 KR ?_; clear ha a; intro a ha
      refine stepo ha 22 KR ?_; clear ha a; intro a ha
      refine stepp ha 23 (.bool false) KR KR ?_; clear ha a; intro a ha
      refine stepp ha 24 (.bool false) KR KR ?_; clear ha a; intro a ha
      refine stepo ha 25 KR ?_; clear ha a; intro a ha
      refine stepo ha 26 KR ?_; clear ha a; intro a ha
      refine stepo ha 27 KR ?_; clear ha a; intro a ha
      refine stepo ha 28 KR ?_; clear ha a; intro a ha
      refine stepo ha 29 KR ?_; clear ha a; intro a ha
      refine stepp ha 30 (.bool false) KR KR ?_; clear ha a; intro a ha
      refine stepp ha 31 (.bool false) KR KR ?_; clear ha a; intro a ha
      refine stepo ha 32 KR ?_; clear ha a; intro a ha
      refine stepo ha 33 KR ?_; clear ha a; intro a ha
      refine stepo ha 34 KR ?_; clear ha a; intro a ha
      refine stepo ha 35 KR ?_; clear ha a; intro a ha
      refine stepo ha 36 KR ?_; clear ha a; intro a ha
      refine stepp ha 37 (.bool false) KR KR ?_; clear ha a; intro a ha
      refine stepp ha 38 (.bool false) KR KR ?_; clear ha a; intro a ha
      refine stepo ha 39 KR ?_; clear ha a; intro a ha
      refine stepo ha 40 KR ?_; clear ha a; intro a ha
      refine stepo ha 41 KR ?_; clear ha a; intro a ha
      refine stepo ha 42 KR ?_; clear ha a; intro a ha
      refine stepo ha 43 KR ?_; clear ha a; intro a ha
      refine stepp ha 44 (.bool false) KR KR ?_; clear ha a; intro a ha
      refine stepp ha 45 (.bool false) KR KR ?_; clear ha a; intro a ha
      refine stepo ha 46 KR ?_; clear ha a; intro a ha
      refine stepo ha 47 KR ?_; clear ha a; intro a ha
      refine stepo ha 48 KR ?_; clear ha a; intro a ha
      refine stepo ha 49 KR ?_; clear ha a; intro a ha
      refine stepo ha 50 KR ?_; clear ha a; intro a ha
      refine stepp ha 51 (.bool false) KR KR ?_; clear ha a; intro a ha
      refine stepp ha 52 (.bool false) KR KR ?_; clear ha a; intro a ha
      refine stepo ha 53 KR ?_; clear ha a; intro a ha
      refine stepo ha 54 KR ?_; clear ha a; intro a ha
      refine stepo ha 55 KR ?_; clear ha a; intro a ha
      refine stepo ha 56 KR ?_; clear ha a; intro a ha
      refine stepo ha 57 KR ?_; clear ha a; intro a ha
      refine stepp ha 58 (.bool false) KR KR ?_; clear ha a; intro a ha
      refine stepp ha 59 (.bool false) KR KR ?_; clear ha a; intro a ha
      refine stepo ha 60 KR ?_; clear ha a; intro a ha
      refine stepo ha 61 KR ?_; clear ha a; intro a ha
      refine stepo ha 62 KR ?_; clear ha a; intro a ha
      refine stepo ha 63 KR ?_; clear ha a; intro a ha
      refine stepo ha 64 KR ?_; clear ha a; intro a ha
      refine stepp ha 65 (.bool false) KR KR ?_; clear ha a; intro a ha
      refine stepp ha 66 (.bool false) KR KR ?_; clear ha a; intro a ha
      refine stepo ha 67 KR ?_; clear ha a; intro a ha
      refine stepo ha 68 KR ?_; clear ha a; intro a ha
      refine stepo ha 69 KR ?_; clear ha a; intro a ha
      refine stepo ha 70 KR ?_; clear ha a; intro a ha
      refine stepo ha 71 KR ?_; clear ha a; intro a ha
      refine stepp ha 72 (.bool false) KR KR ?_; clear ha a; intro a ha
      refine stepp ha 73 (.bool false) KR KR ?_; clear ha a; intro a ha
      refine stepo ha 74 KR ?_; clear ha a; intro a ha
      refine stepo ha 75 KR ?_; clear ha a; intro a ha
      refine stepo ha 76 KR ?_; clear ha a; intro a ha
      refine stepo ha 77 KR ?_; clear ha a; intro a ha
      refine stepo ha 78 KR ?_; clear ha a; intro a ha
      refine stepp ha 79 (.bool false) KR KR ?_; clear ha a; intro a ha
      refine stepp ha 80 (.bool false) KR KR ?_; clear ha a; intro a ha
      refine stepo ha 81 KR ?_; clear ha a; intro a ha
      refine stepo ha 82 KR ?_; clear ha a; intro a ha
      refine stepo ha 83 KR ?_; clear ha a; intro a ha
      refine stepo ha 84 KR ?_; clear ha a; intro a ha
      refine stepo ha 85 KR ?_; clear ha a; intro a ha
      refine stepp ha 86 (.bool false) KR KR ?_; clear ha a; intro a ha
      refine stepp ha 87 (.bool false) KR KR ?_; clear ha a; intro a ha
      refine stepo ha 88 KR ?_; clear ha a; intro a ha
      refine stepo ha 89 KR ?_; clear ha a; intro a ha
      refine stepo ha 90 KR ?_; clear ha a; intro a ha
      refine stepo ha 91 KR ?_; clear ha a; intro a ha
      refine stepo ha 92 KR ?_; clear ha a; intro a ha
      refine stepp ha 93 (.bool false) KR KR ?_; clear ha a; intro a ha
      refine stepp ha 94 (.bool false) KR KR ?_; clear ha a; intro a ha
      refine stepo ha 95 KR ?_; clear ha a; intro a ha
      refine stepo ha 96 KR ?_; clear ha a; intro a ha
      refine stepo ha 97 KR ?_; clear ha a; intro a ha
      refine stepo ha 98 KR ?_; clear ha a; intro a ha
      refine stepo ha 99 KR ?_; clear ha a; intro a ha
      refine stepp ha 100 (.bool false) KR KR ?_; clear ha a; intro a ha
      refine stepp ha 4 (.bool false) KR KR ?_; clear ha a; intro a ha
      refine endl ?_
      refine thenN (hK3776 _ _ ?_); clear hK3776
      refine wp_ret ?_
      obtain rfl := Option.some.inj h
      exact finv ha _ _ rfl (.tmp (v := .bool false) KR .nil) (.bool false) rfl ⟨rfl, HW.pick [] [] (by decide) (by decide) rfl KR⟩
  · skip
    replace h := ite_neg' h hp3777
    replace ha := ha.bool 10 KR (ieq_f hp3777)
    refine stepo ha 11 KR ?_; clear ha a; intro a ha
    refine stepo ha 12 KR ?_; clear ha a; intro a ha
    refine stepo ha 13 KR ?_; clear ha a; intro a ha
    refine stepo ha 14 KR ?_; clear ha a; intro a ha
    refine stepo ha 15 KR ?_; clear ha a; intro a ha
    refine stepp ha 16 (.bool false) KR KR ?_; clear ha a; intro a ha
    refine stepp ha 17 (.bool false) KR KR ?_; clear ha a; intro a ha
    refine stepo ha 18 KR ?_; clear ha a; intro a ha
    refine stepo ha 19 KR ?_; clear ha a; intro a ha
    refine stepo ha 20 KR ?_; clear ha a; intro a ha
    refine stepo ha 21 KR ?_; clear ha a; intro a ha
    refine stepo ha 22 KR ?_; clear ha a; intro a ha
    refine stepp ha 23 (.bool false) KR KR ?_; clear ha a; intro a ha
    refine stepp ha 24 (.bool false) KR KR ?_; clear ha a; intro a ha
    refine stepo ha 25 KR ?_; clear ha a; intro a ha
    refine stepo ha 26 KR ?_; clear ha a; intro a ha
    refine stepo ha 27 KR ?_; clear ha a; intro a ha
    refine stepo ha 28 KR ?_; clear ha a; intro a ha
    refine stepo ha 29 KR ?_; clear ha a; intro a ha
    refine stepp ha 30 (.bool false) KR KR ?_; clear ha a; intro a ha
    refine stepp ha 31 (.bool false) KR KR ?_; clear ha a; intro a ha
    refine stepo ha 32 KR ?_; clear ha a; intro a ha
    refine stepo ha 33 KR ?_; clear ha a; intro a ha
    refine stepo ha 34 KR ?_; clear ha a; intro a ha
    refine stepo ha 35 KR ?_; clear ha a; intro a ha
    refine stepo ha 36 KR ?_; clear ha a; intro a ha
    refine stepp ha 37 (.bool false) KR KR ?_; clear ha a; intro a ha
    refine stepp ha 38 (.bool false) KR KR ?_; clear ha a; intro a ha
    refine stepo ha 39 KR ?_; clear ha a; intro a ha
    refine stepo ha 40 KR ?_; clear ha a; intro a ha
    refine stepo ha 41 KR ?_; clear ha a; intro a ha
    refine stepo ha 42 KR ?_; clear ha a; intro a ha
    refine stepo ha 43 KR ?_; clear ha a; intro a ha
    refine stepp ha 44 (.bool false) KR KR ?_; clear ha a; intro a ha
    refine stepp ha 45 (.bool false) KR KR ?_; clear ha a; intro a ha
    refine stepo ha 46 KR ?_; clear ha a; intro a ha
    refine stepo ha 47 KR ?_; clear ha a; intro a ha
    refine stepo ha 48 KR ?_; clear ha a; intro a ha
    refine stepo ha 49 KR ?_; clear ha a; intro a ha
    refine stepo ha 50 KR ?_; clear ha a; intro a ha
    refine stepp ha 51 (.bool false) KR KR ?_; clear ha a; intro a ha
    refine stepp ha 52 (.bool false) KR KR ?_; clear ha a; intro a ha
    refine stepo ha 53 KR ?_; clear ha a; intro a ha
    refine stepo ha 54 KR ?_; clear ha a; intro a ha
    refine stepo ha 55 KR ?_; clear ha a; intro a ha
    refine stepo ha 56 KR ?_; clear ha a; intro a ha
    refine stepo ha 57 KR ?_; clear ha a; intro a ha
    refine stepp ha 58 (.bool false) KR KR ?_; clear ha a; intro a ha
    refine stepp ha 59 (.bool false) KR KR ?_; clear ha a; intro a ha
    refine stepo ha 60 KR ?_; clear ha a; intro a ha
    refine stepo ha 61 KR ?_; clear ha a; intro a ha
    refine stepo ha 62 KR ?_; clear ha a; intro a ha
    refine stepo ha 63 KR ?_; clear ha a; intro a ha
    refine stepo ha 64 KR ?_; clear ha a; intro a ha
    refine stepp ha 65 (.bool false) KR KR ?_; clear ha a; intro a ha
    refine stepp ha 66 (.bool false) KR KR ?_; clear ha a; intro a ha
    refine stepo ha 67 KR ?_; clear ha a; intro a ha
    refine stepo ha 68 KR ?_; clear ha a; intro a ha
    refine stepo ha 69 KR ?_; clear ha a; intro a ha
    refine stepo ha 70 KR ?_; clear ha a; intro a ha
    refine stepo ha 71 KR ?_; clear ha a; intro a ha
    refine stepp ha 72 (.bool false) KR KR ?_; clear ha a; intro a ha
    refine stepp ha 73 (.bool false) KR KR ?_; clear ha a; intro a ha
    refine stepo ha 74 KR ?_; clear ha a; intro a ha
    refine stepo ha 75 KR ?_; clear ha a; intro a ha
    refine stepo ha 76 KR ?_; clear ha a; intro a ha
    refine stepo ha 77 KR ?_; clear ha a; intro a ha
    refine stepo ha 78 KR ?_; clear ha a; intro a ha
    refine stepp ha 79 (.bool false) KR KR ?_; clear ha a; intro a ha
    refine stepp ha 80 (.bool false) KR KR ?_; clear ha a; intro a ha
    refine stepo ha 81 KR ?_; clear ha a; intro a ha
    refine stepo ha 82 KR ?_; clear ha a; intro a ha
    refine stepo ha 83 KR ?_; clear ha a; intro a ha
    refine stepo ha 84 KR ?_; clear ha a; intro a ha
    refine stepo ha 85 KR ?_; clear ha a; intro a ha
    refine stepp ha 86 (.bool false) KR KR ?_; clear ha a; intro a ha
    refine stepp ha 87 (.bool false) KR KR ?_; clear ha a; intro a ha
    refine stepo ha 88 KR ?_; clear ha a; intro a ha
    refine stepo ha 89 KR ?_; clear ha a; intro a ha
    refine stepo ha 90 KR ?_; clear ha a; intro a ha
    refine stepo ha 91 KR ?_; clear ha a; intro a ha
    refine stepo ha 92 KR ?_; clear ha a; intro a ha
    refine stepp ha 93 (.bool false) KR KR ?_; clear ha a; intro a ha
    refine stepp ha 94 (.bool false) KR KR ?_; clear ha a; intro a ha
    refine stepo ha 95 KR ?_; clear ha a; intro a ha
    refine stepo ha 96 KR ?_; clear ha a; intro a ha
    refine stepo ha 97 KR ?_; clear ha a; intro a ha
    refine stepo ha 98 KR ?_; clear ha a; intro a ha
    refine stepo ha 99 KR ?_; clear ha a; intro a ha
    refine stepp ha 100 (.bool false) KR KR ?_; clear ha a; intro a ha
    refine stepp ha 4 (.bool false) KR KR ?_; clear ha a; intro a ha
    refine endl ?_
    refine thenN (hK3776 _ _ ?_); clear hK3776
    refine wp_ret ?_
    obtain rfl := Option.some.inj h
    exact finv ha _ _ rfl (.tmp (v := .bool false) KR .nil) (.bool false) rfl ⟨rfl, HW.pick [] [] (by decide) (by decide) rfl KR⟩
end Go.Proofs.YthjjbkgifelooaaDoor.F
