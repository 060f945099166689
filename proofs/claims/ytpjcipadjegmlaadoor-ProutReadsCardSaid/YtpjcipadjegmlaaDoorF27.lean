/- headgate/prout.List, headgate/headgatelaw18.wakes, headgate/prout.Holder: plain functions, and that the calls come to what they say. No condition. -/
import Derived.Test.YtpjcipadjegmlaaDoorFT
import Derived.Test.YtpjcipadjegmlaaDoorF9
import Derived.Test.YtpjcipadjegmlaaDoorF42
import Derived.Test.YtpjcipadjegmlaaDoorF48
namespace Go.Proofs.YtpjcipadjegmlaaDoor.F
open Go Go.RowKit Go.Proofs.YtpjcipadjegmlaaDoor.X
set_option linter.unusedVariables false
set_option linter.unusedSimpArgs false
/-! ### headgate/prout.List: function 27 -/
def prout_List.j0 (K : Nat) (a0 : T_api_Cmd) (again947 : Int → Option (Int × ByteArray × Int)) (x948 : Int) (t972 : ByteArray) (t976 : ByteArray) (x989 : Int) : Option (Int × ByteArray × Int) :=
  (prout_key.f K x989).bind fun t993 => (asrt ((t972 ++ t976).size + t993.size ≤ 9223372036854775807) ((prout_Change.f K x948 a0.f11 ((t972 ++ t976) ++ t993)).bind fun t1000 => (if t1000.2 = 0 then ((prout_same.f (⟨t1000.1.f0, t1000.1.f1, t1000.1.f2, t1000.1.f3, t1000.1.f4, t1000.1.f5, t1000.1.f6, t1000.1.f7, t1000.1.f8, t1000.1.f9, t1000.1.f10, t1000.1.f11, t1000.1.f12, t1000.1.f13⟩ : T_api_Cmd) a0).bind fun t1013 => (if t1013 = true then (some (x948, (t972 ++ t976) ++ t993, 0)) else (again947 (IntKind.wrap .i64 (x948 + 1))))) else (again947 (IntKind.wrap .i64 (x948 + 1))))))
def prout_List.j1 (K : Nat) (a0 : T_api_Cmd) (again947 : Int → Option (Int × ByteArray × Int)) (x948 : Int) (t1022 : ByteArray) (t1026 : ByteArray) (x1039 : Int) : Option (Int × ByteArray × Int) :=
  (prout_key.f K x1039).bind fun t1043 => (asrt ((t1022 ++ t1026).size + t1043.size ≤ 9223372036854775807) ((prout_Change.f K x948 a0.f11 ((t1022 ++ t1026) ++ t1043)).bind fun t1050 => (if t1050.2 = 0 then ((prout_same.f (⟨t1050.1.f0, t1050.1.f1, t1050.1.f2, t1050.1.f3, t1050.1.f4, t1050.1.f5, t1050.1.f6, t1050.1.f7, t1050.1.f8, t1050.1.f9, t1050.1.f10, t1050.1.f11, t1050.1.f12, t1050.1.f13⟩ : T_api_Cmd) a0).bind fun t1063 => (if t1063 = true then (some (x948, (t1022 ++ t1026) ++ t1043, 0)) else (again947 (IntKind.wrap .i64 (x948 + 1))))) else (again947 (IntKind.wrap .i64 (x948 + 1))))))
def prout_List.b0 (K : Nat) (a0 : T_api_Cmd) (t706 : T_arr7_3) (again947 : Int → Option (Int × ByteArray × Int)) (x948 : Int) : Option (Int × ByteArray × Int) :=
  if x948 < 7 then (asrt (0 ≤ x948) (if (rdL (0 : Int) ([t706.f0, t706.f1, t706.f2, t706.f3, t706.f4, t706.f5, t706.f6] : List Int) x948) = a0.f0 then (if (rdL (0 : Int) ([t706.f0, t706.f1, t706.f2, t706.f3, t706.f4, t706.f5, t706.f6] : List Int) x948) = 0 then (again947 (IntKind.wrap .i64 (x948 + 1))) else (if (rdL (0 : Int) ([t706.f0, t706.f1, t706.f2, t706.f3, t706.f4, t706.f5, t706.f6] : List Int) x948) = 8 then (if (x948 == 6) = a0.f12 then ((prout_key.f K a0.f8).bind fun t972 => ((prout_key.f K (bor .u64 a0.f9 a0.f10)).bind fun t976 => (asrt (t972.size + t976.size ≤ 9223372036854775807) (if a0.f13 = 2 then (prout_List.j0 K a0 again947 x948 t972 t976 16777216) else (prout_List.j0 K a0 again947 x948 t972 t976 0))))) else (again947 (IntKind.wrap .i64 (x948 + 1)))) else ((prout_key.f K a0.f8).bind fun t1022 => ((prout_key.f K (bor .u64 a0.f9 a0.f10)).bind fun t1026 => (asrt (t1022.size + t1026.size ≤ 9223372036854775807) (if a0.f13 = 2 then (prout_List.j1 K a0 again947 x948 t1022 t1026 16777216) else (prout_List.j1 K a0 again947 x948 t1022 t1026 0))))))) else (again947 (IntKind.wrap .i64 (x948 + 1))))) else (some (0, (⟨#[]⟩ : ByteArray), 180))
def prout_List.l0 (K : Nat) (a0 : T_api_Cmd) (t706 : T_arr7_3) : Nat → Int → Option (Int × ByteArray × Int)
  | 0, _ => none
  | k_ + 1, x948 => prout_List.b0 K a0 t706 (prout_List.l0 K a0 t706 k_) x948
def prout_List.f (K : Nat) (a0 : T_api_Cmd) : Option (Int × ByteArray × Int) :=
  (prout_ops.f).bind fun t706 => (prout_List.l0 K a0 t706 K 0)
set_option maxRecDepth 100000 in
set_option maxHeartbeats 4000000 in
theorem prout_List.calls (K : Nat) (a0 : T_api_Cmd) (A0_0 : Option Addr) (c0_0 : Nat) (r : Int × ByteArray × Int) (w : World) (hr0_0 : Rd 2 w (.slice A0_0 a0.f7.length c0_0) a0.f7.length (encs T_api_Range.enc a0.f7)) (h : prout_List.f K a0 = some r) :
    Calls Tryd.prog 27 #[.agg #[.int .i64 a0.f0, .int .i64 a0.f1, .string a0.f2, .int .i64 a0.f3, .int .i64 a0.f4, .string a0.f5, .bool a0.f6, .slice A0_0 a0.f7.length c0_0, .int .u64 a0.f8, .int .u64 a0.f9, .int .u64 a0.f10, .int .i64 a0.f11, .bool a0.f12, .int .i64 a0.f13]] w (fun e W' => e = .returned (.tuple #[.int .i64 r.1, .string r.2.1, .int .i64 r.2.2]) ∧ Wd w W' [] [] ) := by
  refine sxstart (n := 69) (l := [(0, .agg #[.int .i64 a0.f0, .int .i64 a0.f1, .string a0.f2, .int .i64 a0.f3, .int .i64 a0.f4, .string a0.f5, .bool a0.f6, .slice A0_0 a0.f7.length c0_0, .int .u64 a0.f8, .int .u64 a0.f9, .int .u64 a0.f10, .int .i64 a0.f11, .bool a0.f12, .int .i64 a0.f13])]) Tryd.func27 rfl rfl (Nat.le_of_ble_eq_true KR) (subsA_cons rfl (subsA_nil _)) ?_
  intro a ha
  have HW := Wd.refl w
  unfold prout_List.f at h
  refine wp_seq_k (fun K698 hK699 => ?_)
  refine wp_region_lit ?_
  refine stepnew ha HW 1 #[.int .i64 a0.f0, .int .i64 a0.f1, .string a0.f2, .int .i64 a0.f3, .int .i64 a0.f4, .string a0.f5, .bool a0.f6, .slice A0_0 a0.f7.length c0_0, .int .u64 a0.f8, .int .u64 a0.f9, .int .u64 a0.f10, .int .i64 a0.f11, .bool a0.f12, .int .i64 a0.f13] 63 KR KR ?_; clear ha HW a; intro b700 a W701 HW ha
  refine stepp ha 2 (.int .i64 0) KR KR ?_; clear ha a; intro a ha
  refine stepp ha 3 (.string (⟨#[]⟩ : ByteArray)) KR KR ?_; clear ha a; intro a ha
  refine stepp ha 4 (.int .i64 0) KR KR ?_; clear ha a; intro a ha
  refine endl ?_
  refine thenN (hK699 _ _ ?_); clear hK699
  refine wp_seq_k (fun K702 hK703 => ?_)
  refine wp_seq_k (fun K704 hK705 => ?_)
  refine wp_region_lit ?_
  obtain ⟨t706, ht707, h_⟩ := bind_some' h; clear h; have h := h_; clear h_
  refine stepc ha 10 KR KR (prout_ops.calls t706 _ ht707) ?_; clear ha a; rintro e W708 ⟨rfl, HX709⟩
  refine ⟨_, rfl, ?_⟩; intro a ha; replace HW := HW.callw HX709; clear HX709
  refine stepp ha 11 (.int .i64 0) KR KR ?_; clear ha a; intro a ha
  refine endl ?_
  refine thenN (hK705 _ _ ?_); clear hK705
  refine wp_block ?_
  refine loopk (fun k => fun a W949 => ∃ (x948 : Int), prout_List.l0 K a0 t706 k x948 = some r ∧ Has 69 [(1, .pointer (some ⟨b700, 0, none⟩)), (10, .agg #[.int .i64 t706.f0, .int .i64 t706.f1, .int .i64 t706.f2, .int .i64 t706.f3, .int .i64 t706.f4, .int .i64 t706.f5, .int .i64 t706.f6]), (11, .int .i64 x948)] a ∧ Wd w W949 [(b700, .cells #[.int .i64 a0.f0, .int .i64 a0.f1, .string a0.f2, .int .i64 a0.f3, .int .i64 a0.f4, .string a0.f5, .bool a0.f6, .slice A0_0 a0.f7.length c0_0, .int .u64 a0.f8, .int .u64 a0.f9, .int .u64 a0.f10, .int .i64 a0.f11, .bool a0.f12, .int .i64 a0.f13] 63 (0, 0))] []) K ?_ ?_
  · skip
    exact ⟨0, h, ha.sub (subs_cons KR (subs_cons KR (subs_cons KR (subs_nil _)))), HW.pick [0] [] (by decide) (by decide) KR KR⟩
  · skip
    intro k a W949 hI
    obtain ⟨x948, h, ha, HW⟩ := hI
    cases k with
    | zero => exact (none_some (show none = some r from h)).elim
    | succ k950 =>
      replace h : prout_List.b0 K a0 t706 (prout_List.l0 K a0 t706 k950) x948 = some r := h
      obtain ⟨again947, hag951⟩ : ∃ g_, g_ = prout_List.l0 K a0 t706 k950 := ⟨_, rfl⟩
      rw [← hag951] at h
      unfold prout_List.b0 at h
      refine wp_seq_k (fun K952 hK953 => ?_)
      refine wp_region_lit ?_
      refine stepp ha 12 (.bool (decide (x948 < 7))) KR KR ?_; clear ha a; intro a ha
      refine endl ?_
      refine thenN (hK953 _ _ ?_); clear hK953
      refine wp_seq_k (fun K954 hK955 => ?_)
      by_cases hp956 : x948 < 7
      · skip
        replace h := ite_pos' h hp956
        refine condT ha KR KR (t := decide (x948 < 7)) (decide_eq_true hp956) ?_
        refine wp_skip ?_
        refine thenN (hK955 _ _ ?_); clear hK955
        refine wp_seq_k (fun K957 hK958 => ?_)
        refine wp_block ?_
        refine wp_seq_k (fun K959 hK960 => ?_)
        refine wp_region_lit ?_
        refine stepp ha 13 (.int .i64 x948) KR KR ?_; clear ha a; intro a ha
        obtain ⟨hA961, h_⟩ := asrt_some h; clear h; have h := h_; clear h_
        refine stepai (Value.int .i64) (0 : Int) ha 14 69 7 3 (.tmp 10) (.tmp 11) .i64 x948 ([t706.f0, t706.f1, t706.f2, t706.f3, t706.f4, t706.f5, t706.f6] : List Int) rfl KR KR KR KR hA961 hp956 KR ?_; clear ha a; intro a ha
        refine stepp ha 5 (.int .i64 x948) KR KR ?_; clear ha a; intro a ha
        refine stepp ha 6 (.int .i64 (rdL (0 : Int) ([t706.f0, t706.f1, t706.f2, t706.f3, t706.f4, t706.f5, t706.f6] : List Int) x948)) KR KR ?_; clear ha a; intro a ha
        refine endl ?_
        refine thenN (hK960 _ _ ?_); clear hK960
        refine wp_seq_k (fun K962 hK963 => ?_)
        refine wp_seq_k (fun K964 hK965 => ?_)
        refine wp_region_lit ?_
        refine stepp ha 15 (.int .i64 (rdL (0 : Int) ([t706.f0, t706.f1, t706.f2, t706.f3, t706.f4, t706.f5, t706.f6] : List Int) x948)) KR KR ?_; clear ha a; intro a ha
        refine stepp ha 16 (.pointer (some ⟨b700, 0, none⟩)) KR KR ?_; clear ha a; intro a ha
        refine stepl ha 17 (HW.ca (i := 0) (b := b700) (C := #[.int .i64 a0.f0, .int .i64 a0.f1, .string a0.f2, .int .i64 a0.f3, .int .i64 a0.f4, .string a0.f5, .bool a0.f6, .slice A0_0 a0.f7.length c0_0, .int .u64 a0.f8, .int .u64 a0.f9, .int .u64 a0.f10, .int .i64 a0.f11, .bool a0.f12, .int .i64 a0.f13]) (T := 63) (fr := (0, 0)) KR) 3 0 (.tmp 16) (.int .i64 a0.f0) rfl KR KR KR ?_; clear ha a; intro a ha
        refine stepp ha 18 (.bool ((rdL (0 : Int) ([t706.f0, t706.f1, t706.f2, t706.f3, t706.f4, t706.f5, t706.f6] : List Int) x948) != a0.f0)) KR KR ?_; clear ha a; intro a ha
        refine stepp ha 19 (.bool ((rdL (0 : Int) ([t706.f0, t706.f1, t706.f2, t706.f3, t706.f4, t706.f5, t706.f6] : List Int) x948) != a0.f0)) KR KR ?_; clear ha a; intro a ha
        by_cases hp966 : (rdL (0 : Int) ([t706.f0, t706.f1, t706.f2, t706.f3, t706.f4, t706.f5, t706.f6] : List Int) x948) = a0.f0
        · skip
          replace h := ite_pos' h hp966
          replace ha := ha.bool 19 KR (ineq_f hp966)
          refine stepp ha 20 (.int .i64 (rdL (0 : Int) ([t706.f0, t706.f1, t706.f2, t706.f3, t706.f4, t706.f5, t706.f6] : List Int) x948)) KR KR ?_; clear ha a; intro a ha
          refine stepp ha 21 (.bool ((rdL (0 : Int) ([t706.f0, t706.f1, t706.f2, t706.f3, t706.f4, t706.f5, t706.f6] : List Int) x948) == 0)) KR KR ?_; clear ha a; intro a ha
          refine stepp ha 22 (.bool ((rdL (0 : Int) ([t706.f0, t706.f1, t706.f2, t706.f3, t706.f4, t706.f5, t706.f6] : List Int) x948) == 0)) KR KR ?_; clear ha a; intro a ha
          refine stepp ha 23 (.bool ((rdL (0 : Int) ([t706.f0, t706.f1, t706.f2, t706.f3, t706.f4, t706.f5, t706.f6] : List Int) x948) == 0)) KR KR ?_; clear ha a; intro a ha
          by_cases hp967 : (rdL (0 : Int) ([t706.f0, t706.f1, t706.f2, t706.f3, t706.f4, t706.f5, t706.f6] : List Int) x948) = 0
          · skip
            replace h := ite_pos' h hp967
            replace ha := ha.bool 23 KR (ieq_t hp967)
            refine stepo ha 24 KR ?_; clear ha a; intro a ha
            refine stepo ha 25 KR ?_; clear ha a; intro a ha
            refine stepo ha 26 KR ?_; clear ha a; intro a ha
            refine stepo ha 27 KR ?_; clear ha a; intro a ha
            refine stepo ha 28 KR ?_; clear ha a; intro a ha
            refine stepo ha 29 KR ?_; clear ha a; intro a ha
            refine stepo ha 30 KR ?_; clear ha a; intro a ha
            refine stepo ha 31 KR ?_; clear ha a; intro a ha
            refine stepo ha 32 KR ?_; clear ha a; intro a ha
            refine stepp ha 33 (.bool true) KR KR ?_; clear ha a; intro a ha
            refine endl ?_
            refine thenN (hK965 _ _ ?_); clear hK965
            refine condT ha KR KR (t := true) (rfl) ?_
            refine wp_exit ?_
            refine thenE ?_
            refine inBlk ?_
            refine thenN (hK958 _ _ ?_); clear hK958
            refine wp_region_lit ?_
            refine stepp ha 68 (.int .i64 (IntKind.wrap .i64 (x948 + 1))) KR KR ?_; clear ha a; intro a ha
            refine stepp ha 11 (.int .i64 (IntKind.wrap .i64 (x948 + 1))) KR KR ?_; clear ha a; intro a ha
            refine endl ?_
            exact thenN ⟨k950, Nat.lt_succ_self k950, IntKind.wrap .i64 (x948 + 1), (by rw [← hag951]; exact h), ha.sub (subs_cons KR (subs_cons KR (subs_cons KR (subs_nil _)))), HW.pick [0] [] (by decide) (by decide) KR KR⟩
          · skip
            replace h := ite_neg' h hp967
            replace ha := ha.bool 23 KR (ieq_f hp967)
            refine stepp ha 24 (.int .i64 (rdL (0 : Int) ([t706.f0, t706.f1, t706.f2, t706.f3, t706.f4, t706.f5, t706.f6] : List Int) x948)) KR KR ?_; clear ha a; intro a ha
            refine stepp ha 25 (.bool ((rdL (0 : Int) ([t706.f0, t706.f1, t706.f2, t706.f3, t706.f4, t706.f5, t706.f6] : List Int) x948) == 8)) KR KR ?_; clear ha a; intro a ha
            refine stepp ha 26 (.bool ((rdL (0 : Int) ([t706.f0, t706.f1, t706.f2, t706.f3, t706.f4, t706.f5, t706.f6] : List Int) x948) == 8)) KR KR ?_; clear ha a; intro a ha
            by_cases hp968 : (rdL (0 : Int) ([t706.f0, t706.f1, t706.f2, t706.f3, t706.f4, t706.f5, t706.f6] : List Int) x948) = 8
            · skip
              replace h := ite_pos' h hp968
              replace ha := ha.bool 26 KR (ieq_t hp968)
              refine stepp ha 27 (.int .i64 x948) KR KR ?_; clear ha a; intro a ha
              refine stepp ha 28 (.bool (x948 == 6)) KR KR ?_; clear ha a; intro a ha
              refine stepp ha 29 (.pointer (some ⟨b700, 12, none⟩)) KR KR ?_; clear ha a; intro a ha
              refine stepl ha 30 (HW.ca (i := 0) (b := b700) (C := #[.int .i64 a0.f0, .int .i64 a0.f1, .string a0.f2, .int .i64 a0.f3, .int .i64 a0.f4, .string a0.f5, .bool a0.f6, .slice A0_0 a0.f7.length c0_0, .int .u64 a0.f8, .int .u64 a0.f9, .int .u64 a0.f10, .int .i64 a0.f11, .bool a0.f12, .int .i64 a0.f13]) (T := 63) (fr := (0, 0)) KR) 4 12 (.tmp 29) (.bool a0.f12) rfl KR KR KR ?_; clear ha a; intro a ha
              refine stepp ha 31 (.bool ((x948 == 6) != a0.f12)) KR KR ?_; clear ha a; intro a ha
              refine stepp ha 32 (.bool ((x948 == 6) != a0.f12)) KR KR ?_; clear ha a; intro a ha
              refine stepp ha 33 (.bool ((x948 == 6) != a0.f12)) KR KR ?_; clear ha a; intro a ha
              refine endl ?_
              refine thenN (hK965 _ _ ?_); clear hK965
              by_cases hp969 : (x948 == 6) = a0.f12
              · skip
                replace h := ite_pos' h hp969
                refine condF ha KR KR (t := ((x948 == 6) != a0.f12)) (bne_f hp969) ?_
                refine wp_skip ?_
                refine thenN (hK963 _ _ ?_); clear hK963
                refine wp_seq_k (fun K970 hK971 => ?_)
                obtain ⟨t972, ht973, h_⟩ := bind_some' h; clear h; have h := h_; clear h_
                obtain ⟨t976, ht977, h_⟩ := bind_some' h; clear h; have h := h_; clear h_
                obtain ⟨hA980, h_⟩ := asrt_some h; clear h; have h := h_; clear h_
                refine regionG 10 KR KR ha HW [.fix (.pointer (some ⟨b700, 8, none⟩)), .fix (.int .u64 a0.f8), .fix (.string t972), .fix (.pointer (some ⟨b700, 9, none⟩)), .fix (.int .u64 a0.f9), .fix (.pointer (some ⟨b700, 10, none⟩)), .fix (.int .u64 a0.f10), .fix (.int .u64 (bor .u64 a0.f9 a0.f10)), .fix (.string t976), .fix (.string (t972 ++ t976))] ?_ ?_
                · skip
                  refine ⟨?_, ?_, ?_, ?_, ?_, ?_, ?_, ?_, ?_, ?_, trivial⟩
                  · skip
                    intro a wr hn hd HW hs; have ha := hasNil hn hd
                    have ha := ha.add (seeE hs 1 (.pointer (some ⟨b700, 0, none⟩)) KR KR)
                    refine yStep ha 34 KR ?_; intro l_ ha HK
                    refine stepp ha 34 (.pointer (some ⟨b700, 8, none⟩)) KR KR ?_; intro ax hax; exact HK _ _ _ hax rfl (Below.refl _ _)
                  · skip
                    intro a wr hn hd HW hs; have ha := hasNil hn hd
                    have ha := ha.add (seeF hs 34 0 (.pointer (some ⟨b700, 8, none⟩)) KR KR)
                    refine yStep ha 35 KR ?_; intro l_ ha HK
                    refine stepl ha 35 (HW.ca (i := 0) (b := b700) (C := #[.int .i64 a0.f0, .int .i64 a0.f1, .string a0.f2, .int .i64 a0.f3, .int .i64 a0.f4, .string a0.f5, .bool a0.f6, .slice A0_0 a0.f7.length c0_0, .int .u64 a0.f8, .int .u64 a0.f9, .int .u64 a0.f10, .int .i64 a0.f11, .bool a0.f12, .int .i64 a0.f13]) (T := 63) (fr := (0, 0)) KR) 32 8 (.tmp 34) (.int .u64 a0.f8) rfl KR KR KR ?_; intro ax hax; exact HK _ _ _ hax rfl (Below.refl _ _)
                  · skip
                    intro a wr hn hd HW hs; have ha := hasNil hn hd
                    have ha := ha.add (seeF hs 35 1 (.int .u64 a0.f8) KR KR)
                    refine yStep ha 36 KR ?_; intro l_ ha HK
                    refine stepc ha 36 KR KR (prout_key.calls K a0.f8 t972 _ ht973) ?_; rintro e W974 ⟨rfl, HX975⟩
                    refine ⟨_, rfl, ?_⟩; intro ax hax; exact HK _ _ _ hax rfl HX975.below
                  · skip
                    intro a wr hn hd HW hs; have ha := hasNil hn hd
                    have ha := ha.add (seeE hs 1 (.pointer (some ⟨b700, 0, none⟩)) KR KR)
                    refine yStep ha 37 KR ?_; intro l_ ha HK
                    refine stepp ha 37 (.pointer (some ⟨b700, 9, none⟩)) KR KR ?_; intro ax hax; exact HK _ _ _ hax rfl (Below.refl _ _)
                  · skip
                    intro a wr hn hd HW hs; have ha := hasNil hn hd
                    have ha := ha.add (seeF hs 37 3 (.pointer (some ⟨b700, 9, none⟩)) KR KR)
                    refine yStep ha 38 KR ?_; intro l_ ha HK
                    refine stepl ha 38 (HW.ca (i := 0) (b := b700) (C := #[.int .i64 a0.f0, .int .i64 a0.f1, .string a0.f2, .int .i64 a0.f3, .int .i64 a0.f4, .string a0.f5, .bool a0.f6, .slice A0_0 a0.f7.length c0_0, .int .u64 a0.f8, .int .u64 a0.f9, .int .u64 a0.f10, .int .i64 a0.f11, .bool a0.f12, .int .i64 a0.f13]) (T := 63) (fr := (0, 0)) KR) 32 9 (.tmp 37) (.int .u64 a0.f9) rfl KR KR KR ?_; intro ax hax; exact HK _ _ _ hax rfl (Below.refl _ _)
                  · skip
                    intro a wr hn hd HW hs; have ha := hasNil hn hd
                    have ha := ha.add (seeE hs 1 (.pointer (some ⟨b700, 0, none⟩)) KR KR)
                    refine yStep ha 39 KR ?_; intro l_ ha HK
                    refine stepp ha 39 (.pointer (some ⟨b700, 10, none⟩)) KR KR ?_; intro ax hax; exact HK _ _ _ hax rfl (Below.refl _ _)
                  · skip
                    intro a wr hn hd HW hs; have ha := hasNil hn hd
                    have ha := ha.add (seeF hs 39 5 (.pointer (some ⟨b700, 10, none⟩)) KR KR)
                    refine yStep ha 40 KR ?_; intro l_ ha HK
                    refine stepl ha 40 (HW.ca (i := 0) (b := b700) (C := #[.int .i64 a0.f0, .int .i64 a0.f1, .string a0.f2, .int .i64 a0.f3, .int .i64 a0.f4, .string a0.f5, .bool a0.f6, .slice A0_0 a0.f7.length c0_0, .int .u64 a0.f8, .int .u64 a0.f9, .int .u64 a0.f10, .int .i64 a0.f11, .bool a0.f12, .int .i64 a0.f13]) (T := 63) (fr := (0, 0)) KR) 32 10 (.tmp 39) (.int .u64 a0.f10) rfl KR KR KR ?_; intro ax hax; exact HK _ _ _ hax rfl (Below.refl _ _)
                  · skip
                    intro a wr hn hd HW hs; have ha := hasNil hn hd
                    have ha := ha.add (seeF hs 38 4 (.int .u64 a0.f9) KR KR)
                    have ha := ha.add (seeF hs 40 6 (.int .u64 a0.f10) KR KR)
                    refine yStep ha 41 KR ?_; intro l_ ha HK
                    refine stepp ha 41 (.int .u64 (bor .u64 a0.f9 a0.f10)) KR KR ?_; intro ax hax; exact HK _ _ _ hax rfl (Below.refl _ _)
                  · skip
                    intro a wr hn hd HW hs; have ha := hasNil hn hd
                    have ha := ha.add (seeF hs 41 7 (.int .u64 (bor .u64 a0.f9 a0.f10)) KR KR)
                    refine yStep ha 42 KR ?_; intro l_ ha HK
                    refine stepc ha 42 KR KR (prout_key.calls K (bor .u64 a0.f9 a0.f10) t976 _ ht977) ?_; rintro e W978 ⟨rfl, HX979⟩
                    refine ⟨_, rfl, ?_⟩; intro ax hax; exact HK _ _ _ hax rfl HX979.below
                  · skip
                    intro a wr hn hd HW hs; have ha := hasNil hn hd
                    have ha := ha.add (seeF hs 36 2 (.string t972) KR KR)
                    have ha := ha.add (seeF hs 42 8 (.string t976) KR KR)
                    refine yStep ha 43 KR ?_; intro l_ ha HK
                    refine stepsa ha 43 9 9 (.tmp 36) (.tmp 42) t972 t976 rfl KR KR (show (t972).size + (t976).size ≤ 9223372036854775807 from hA980) KR ?_; intro ax hax; exact HK _ _ _ hax rfl (Below.refl _ _)
                · skip
                  intro a W981 ha HW he hf
                  replace ha := ha.add (he 1 (.pointer (some ⟨b700, 0, none⟩)) KR KR)
                  replace ha := ha.add (he 5 (.int .i64 x948) KR KR)
                  replace ha := ha.add (he 10 (.agg #[.int .i64 t706.f0, .int .i64 t706.f1, .int .i64 t706.f2, .int .i64 t706.f3, .int .i64 t706.f4, .int .i64 t706.f5, .int .i64 t706.f6]) KR KR)
                  replace ha := ha.add (he 11 (.int .i64 x948) KR KR)
                  replace ha := ha.add (he 20 (.int .i64 (rdL (0 : Int) ([t706.f0, t706.f1, t706.f2, t706.f3, t706.f4, t706.f5, t706.f6] : List Int) x948)) KR KR)
                  replace ha := ha.add (he 21 (.bool ((rdL (0 : Int) ([t706.f0, t706.f1, t706.f2, t706.f3, t706.f4, t706.f5, t706.f6] : List Int) x948) == 0)) KR KR)
                  replace ha := ha.add (he 24 (.int .i64 (rdL (0 : Int) ([t706.f0, t706.f1, t706.f2, t706.f3, t706.f4, t706.f5, t706.f6] : List Int) x948)) KR KR)
                  replace ha := ha.add (he 25 (.bool ((rdL (0 : Int) ([t706.f0, t706.f1, t706.f2, t706.f3, t706.f4, t706.f5, t706.f6] : List Int) x948) == 8)) KR KR)
                  replace ha := ha.add (he 26 (.bool true) KR KR)
                  replace ha := ha.add (he 27 (.int .i64 x948) KR KR)
                  replace ha := ha.add (he 28 (.bool (x948 == 6)) KR KR)
                  replace ha := ha.add (he 29 (.pointer (some ⟨b700, 12, none⟩)) KR KR)
                  replace ha := ha.add (he 30 (.bool a0.f12) KR KR)
                  replace ha := ha.add (he 31 (.bool ((x948 == 6) != a0.f12)) KR KR)
                  replace ha := ha.add (he 32 (.bool ((x948 == 6) != a0.f12)) KR KR)
                  replace ha := ha.add (gotF (m := 10) (j := 9) (d := 43) (v := .string (t972 ++ t976)) hf KR KR KR)
                  clear he hf
                  refine stepp ha 3 (.string (t972 ++ t976)) KR KR ?_; clear ha a; intro a ha
                  refine endl ?_
                  refine thenN (hK971 _ _ ?_); clear hK971
                  refine wp_seq_k (fun K982 hK983 => ?_)
                  refine wp_region_lit ?_
                  refine stepp ha 7 (.int .u64 0) KR KR ?_; clear ha a; intro a ha
                  refine endl ?_
                  refine thenN (hK983 _ _ ?_); clear hK983
                  refine wp_seq_k (fun K984 hK985 => ?_)
                  refine cutn (fun a W990 => ∃ (x989 : Int), prout_List.j0 K a0 again947 x948 t972 t976 x989 = some r ∧ Has 69 [(1, .pointer (some ⟨b700, 0, none⟩)), (3, .string (t972 ++ t976)), (5, .int .i64 x948), (7, .int .u64 x989), (10, .agg #[.int .i64 t706.f0, .int .i64 t706.f1, .int .i64 t706.f2, .int .i64 t706.f3, .int .i64 t706.f4, .int .i64 t706.f5, .int .i64 t706.f6]), (11, .int .i64 x948), (20, .int .i64 (rdL (0 : Int) ([t706.f0, t706.f1, t706.f2, t706.f3, t706.f4, t706.f5, t706.f6] : List Int) x948)), (21, .bool ((rdL (0 : Int) ([t706.f0, t706.f1, t706.f2, t706.f3, t706.f4, t706.f5, t706.f6] : List Int) x948) == 0)), (24, .int .i64 (rdL (0 : Int) ([t706.f0, t706.f1, t706.f2, t706.f3, t706.f4, t706.f5, t706.f6] : List Int) x948)), (25, .bool ((rdL (0 : Int) ([t706.f0, t706.f1, t706.f2, t706.f3, t706.f4, t706.f5, t706.f6] : List Int) x948) == 8)), (26, .bool true), (27, .int .i64 x948), (28, .bool (x948 == 6)), (29, .pointer (some ⟨b700, 12, none⟩)), (30, .bool a0.f12), (31, .bool ((x948 == 6) != a0.f12)), (32, .bool ((x948 == 6) != a0.f12))] a ∧ Wd w W990 [(b700, .cells #[.int .i64 a0.f0, .int .i64 a0.f1, .string a0.f2, .int .i64 a0.f3, .int .i64 a0.f4, .string a0.f5, .bool a0.f6, .slice A0_0 a0.f7.length c0_0, .int .u64 a0.f8, .int .u64 a0.f9, .int .u64 a0.f10, .int .i64 a0.f11, .bool a0.f12, .int .i64 a0.f13] 63 (0, 0))] []) ?_ ?_
                  · skip
                    refine wp_seq_k (fun K986 hK987 => ?_)
                    refine wp_region_lit ?_
                    refine stepp ha 44 (.pointer (some ⟨b700, 13, none⟩)) KR KR ?_; clear ha a; intro a ha
                    refine stepl ha 45 (HW.ca (i := 0) (b := b700) (C := #[.int .i64 a0.f0, .int .i64 a0.f1, .string a0.f2, .int .i64 a0.f3, .int .i64 a0.f4, .string a0.f5, .bool a0.f6, .slice A0_0 a0.f7.length c0_0, .int .u64 a0.f8, .int .u64 a0.f9, .int .u64 a0.f10, .int .i64 a0.f11, .bool a0.f12, .int .i64 a0.f13]) (T := 63) (fr := (0, 0)) KR) 3 13 (.tmp 44) (.int .i64 a0.f13) rfl KR KR KR ?_; clear ha a; intro a ha
                    refine stepp ha 46 (.bool (a0.f13 == 2)) KR KR ?_; clear ha a; intro a ha
                    refine endl ?_
                    refine thenN (hK987 _ _ ?_); clear hK987
                    by_cases hp988 : a0.f13 = 2
                    · skip
                      replace h := ite_pos' h hp988
                      refine condT ha KR KR (t := (a0.f13 == 2)) (ieq_t hp988) ?_
                      refine wp_region_lit ?_
                      refine stepp ha 7 (.int .u64 16777216) KR KR ?_; clear ha a; intro a ha
                      refine endl ?_
                      exact thenN ⟨16777216, h, ha.sub (subs_cons KR (subs_cons KR (subs_cons KR (subs_cons KR (subs_cons KR (subs_cons KR (subs_cons KR (subs_cons KR (subs_cons KR (subs_cons KR (subs_cons KR (subs_cons KR (subs_cons KR (subs_cons KR (subs_cons KR (subs_cons KR (subs_cons KR (subs_nil _)))))))))))))))))), HW.pick [0] [] (by decide) (by decide) KR KR⟩
                    · skip
                      replace h := ite_neg' h hp988
                      refine condF ha KR KR (t := (a0.f13 == 2)) (ieq_f hp988) ?_
                      refine wp_skip ?_
                      exact thenN ⟨0, h, ha.sub (subs_cons KR (subs_cons KR (subs_cons KR (subs_cons KR (subs_cons KR (subs_cons KR (subs_cons KR (subs_cons KR (subs_cons KR (subs_cons KR (subs_cons KR (subs_cons KR (subs_cons KR (subs_cons KR (subs_cons KR (subs_cons KR (subs_cons KR (subs_nil _)))))))))))))))))), HW.pick [0] [] (by decide) (by decide) KR KR⟩
                  · skip
                    intro a W990 hJ
                    obtain ⟨x989, h, ha, HW⟩ := hJ
                    replace h : prout_List.j0 K a0 again947 x948 t972 t976 x989 = some r := h
                    unfold prout_List.j0 at h
                    refine hK985 _ _ ?_; clear hK985
                    refine wp_seq_k (fun K991 hK992 => ?_)
                    refine wp_region_lit ?_
                    refine stepp ha 47 (.string (t972 ++ t976)) KR KR ?_; clear ha a; intro a ha
                    refine stepp ha 48 (.int .u64 x989) KR KR ?_; clear ha a; intro a ha
                    obtain ⟨t993, ht994, h_⟩ := bind_some' h; clear h; have h := h_; clear h_
                    refine stepc ha 49 KR KR (prout_key.calls K x989 t993 _ ht994) ?_; clear ha a; rintro e W995 ⟨rfl, HX996⟩
                    refine ⟨_, rfl, ?_⟩; intro a ha; replace HW := HW.callw HX996; clear HX996
                    obtain ⟨hA997, h_⟩ := asrt_some h; clear h; have h := h_; clear h_
                    refine stepsa ha 50 9 9 (.tmp 47) (.tmp 49) (t972 ++ t976) t993 rfl KR KR (show (t972 ++ t976).size + (t993).size ≤ 9223372036854775807 from hA997) KR ?_; clear ha a; intro a ha
                    refine stepp ha 3 (.string ((t972 ++ t976) ++ t993)) KR KR ?_; clear ha a; intro a ha
                    refine endl ?_
                    refine thenN (hK992 _ _ ?_); clear hK992
                    refine wp_seq_k (fun K998 hK999 => ?_)
                    refine wp_region_lit ?_
                    refine stepp ha 52 (.int .i64 x948) KR KR ?_; clear ha a; intro a ha
                    refine stepp ha 53 (.pointer (some ⟨b700, 11, none⟩)) KR KR ?_; clear ha a; intro a ha
                    refine stepl ha 54 (HW.ca (i := 0) (b := b700) (C := #[.int .i64 a0.f0, .int .i64 a0.f1, .string a0.f2, .int .i64 a0.f3, .int .i64 a0.f4, .string a0.f5, .bool a0.f6, .slice A0_0 a0.f7.length c0_0, .int .u64 a0.f8, .int .u64 a0.f9, .int .u64 a0.f10, .int .i64 a0.f11, .bool a0.f12, .int .i64 a0.f13]) (T := 63) (fr := (0, 0)) KR) 3 11 (.tmp 53) (.int .i64 a0.f11) rfl KR KR KR ?_; clear ha a; intro a ha
                    refine stepp ha 55 (.string ((t972 ++ t976) ++ t993)) KR KR ?_; clear ha a; intro a ha
                    obtain ⟨t1000, ht1001, h_⟩ := bind_some' h; clear h; have h := h_; clear h_
                    refine stepc ha 56 KR KR (prout_Change.calls K x948 a0.f11 ((t972 ++ t976) ++ t993) t1000 _ ht1001) ?_; clear ha a; rintro e W1005 ⟨A1002, c1003, rfl, HX1006⟩
                    refine ⟨_, rfl, ?_⟩; intro a ha; replace HW := HW.callw HX1006; clear HX1006
                    refine stepp ha 51 (.tuple #[.agg #[.int .i64 t1000.1.f0, .int .i64 t1000.1.f1, .string t1000.1.f2, .int .i64 t1000.1.f3, .int .i64 t1000.1.f4, .string t1000.1.f5, .bool t1000.1.f6, .slice A1002 t1000.1.f7.length c1003, .int .u64 t1000.1.f8, .int .u64 t1000.1.f9, .int .u64 t1000.1.f10, .int .i64 t1000.1.f11, .bool t1000.1.f12, .int .i64 t1000.1.f13], .int .i64 t1000.2]) KR KR ?_; clear ha a; intro a ha
                    refine stepp ha 57 (.agg #[.int .i64 t1000.1.f0, .int .i64 t1000.1.f1, .string t1000.1.f2, .int .i64 t1000.1.f3, .int .i64 t1000.1.f4, .string t1000.1.f5, .bool t1000.1.f6, .slice A1002 t1000.1.f7.length c1003, .int .u64 t1000.1.f8, .int .u64 t1000.1.f9, .int .u64 t1000.1.f10, .int .i64 t1000.1.f11, .bool t1000.1.f12, .int .i64 t1000.1.f13]) KR KR ?_; clear ha a; intro a ha
                    refine stepp ha 58 (.int .i64 t1000.2) KR KR ?_; clear ha a; intro a ha
                    refine stepnew ha HW 8 #[.int .i64 0, .int .i64 0, .string (⟨#[]⟩ : ByteArray), .int .i64 0, .int .i64 0, .string (⟨#[]⟩ : ByteArray), .bool false, .slice none 0 0, .int .u64 0, .int .u64 0, .int .u64 0, .int .i64 0, .bool false, .int .i64 0] 63 KR KR ?_; clear ha HW a; intro b1007 a W1008 HW ha
                    refine stepst ha HW 0 (b := b1007) (C := #[.int .i64 0, .int .i64 0, .string (⟨#[]⟩ : ByteArray), .int .i64 0, .int .i64 0, .string (⟨#[]⟩ : ByteArray), .bool false, .slice none 0 0, .int .u64 0, .int .u64 0, .int .u64 0, .int .i64 0, .bool false, .int .i64 0]) (T := 63) KR 63 0 (.tmp 8) (.tmp 57) (.agg #[.int .i64 t1000.1.f0, .int .i64 t1000.1.f1, .string t1000.1.f2, .int .i64 t1000.1.f3, .int .i64 t1000.1.f4, .string t1000.1.f5, .bool t1000.1.f6, .slice A1002 t1000.1.f7.length c1003, .int .u64 t1000.1.f8, .int .u64 t1000.1.f9, .int .u64 t1000.1.f10, .int .i64 t1000.1.f11, .bool t1000.1.f12, .int .i64 t1000.1.f13]) #[.int .i64 t1000.1.f0, .int .i64 t1000.1.f1, .string t1000.1.f2, .int .i64 t1000.1.f3, .int .i64 t1000.1.f4, .string t1000.1.f5, .bool t1000.1.f6, .slice A1002 t1000.1.f7.length c1003, .int .u64 t1000.1.f8, .int .u64 t1000.1.f9, .int .u64 t1000.1.f10, .int .i64 t1000.1.f11, .bool t1000.1.f12, .int .i64 t1000.1.f13] rfl KR KR KR KR KR KR KR ?_; clear ha HW a; intro a W1009 HW ha
                    refine stepp ha 9 (.int .i64 t1000.2) KR KR ?_; clear ha a; intro a ha
                    refine endl ?_
                    refine thenN (hK999 _ _ ?_); clear hK999
                    refine wp_seq_k (fun K1010 hK1011 => ?_)
                    refine wp_region_lit ?_
                    refine stepp ha 59 (.int .i64 t1000.2) KR KR ?_; clear ha a; intro a ha
                    refine stepp ha 60 (.bool (t1000.2 == 0)) KR KR ?_; clear ha a; intro a ha
                    refine stepp ha 61 (.bool (t1000.2 == 0)) KR KR ?_; clear ha a; intro a ha
                    by_cases hp1012 : t1000.2 = 0
                    · skip
                      replace h := ite_pos' h hp1012
                      replace ha := ha.bool 61 KR (ieq_t hp1012)
                      refine stepl ha 62 (HW.ca (i := 0) (b := b1007) (C := #[.int .i64 t1000.1.f0, .int .i64 t1000.1.f1, .string t1000.1.f2, .int .i64 t1000.1.f3, .int .i64 t1000.1.f4, .string t1000.1.f5, .bool t1000.1.f6, .slice A1002 t1000.1.f7.length c1003, .int .u64 t1000.1.f8, .int .u64 t1000.1.f9, .int .u64 t1000.1.f10, .int .i64 t1000.1.f11, .bool t1000.1.f12, .int .i64 t1000.1.f13]) (T := 63) (fr := (0, 0)) KR) 63 0 (.tmp 8) (.agg #[.int .i64 t1000.1.f0, .int .i64 t1000.1.f1, .string t1000.1.f2, .int .i64 t1000.1.f3, .int .i64 t1000.1.f4, .string t1000.1.f5, .bool t1000.1.f6, .slice A1002 t1000.1.f7.length c1003, .int .u64 t1000.1.f8, .int .u64 t1000.1.f9, .int .u64 t1000.1.f10, .int .i64 t1000.1.f11, .bool t1000.1.f12, .int .i64 t1000.1.f13]) rfl KR KR KR ?_; clear ha a; intro a ha
                      refine stepl ha 63 (HW.ca (i := 1) (b := b700) (C := #[.int .i64 a0.f0, .int .i64 a0.f1, .string a0.f2, .int .i64 a0.f3, .int .i64 a0.f4, .string a0.f5, .bool a0.f6, .slice A0_0 a0.f7.length c0_0, .int .u64 a0.f8, .int .u64 a0.f9, .int .u64 a0.f10, .int .i64 a0.f11, .bool a0.f12, .int .i64 a0.f13]) (T := 63) (fr := (0, 0)) KR) 63 0 (.tmp 1) (.agg #[.int .i64 a0.f0, .int .i64 a0.f1, .string a0.f2, .int .i64 a0.f3, .int .i64 a0.f4, .string a0.f5, .bool a0.f6, .slice A0_0 a0.f7.length c0_0, .int .u64 a0.f8, .int .u64 a0.f9, .int .u64 a0.f10, .int .i64 a0.f11, .bool a0.f12, .int .i64 a0.f13]) rfl KR KR KR ?_; clear ha a; intro a ha
                      obtain ⟨t1013, ht1014, h_⟩ := bind_some' h; clear h; have h := h_; clear h_
                      refine stepc ha 64 KR KR (prout_same.calls (⟨t1000.1.f0, t1000.1.f1, t1000.1.f2, t1000.1.f3, t1000.1.f4, t1000.1.f5, t1000.1.f6, t1000.1.f7, t1000.1.f8, t1000.1.f9, t1000.1.f10, t1000.1.f11, t1000.1.f12, t1000.1.f13⟩ : T_api_Cmd) a0 A1002 c1003 A0_0 c0_0 t1013 _ (HW.rdo (i := 0) (q := ⟨112, 2, .slice A1002 t1000.1.f7.length c1003, t1000.1.f7.length, encs T_api_Range.enc t1000.1.f7⟩) KR) ((HW.rd0 hr0_0)) ht1014) ?_; clear ha a; rintro e W1015 ⟨rfl, HX1016⟩
                      refine ⟨_, rfl, ?_⟩; intro a ha; replace HW := HW.callw HX1016; clear HX1016
                      refine stepp ha 65 (.bool t1013) KR KR ?_; clear ha a; intro a ha
                      refine endl ?_
                      refine thenN (hK1011 _ _ ?_); clear hK1011
                      by_cases hp1017 : t1013 = true
                      · skip
                        replace h := ite_pos' h hp1017
                        refine condT ha KR KR (t := t1013) (hp1017) ?_
                        refine wp_seq_k (fun K1018 hK1019 => ?_)
                        refine wp_region_lit ?_
                        refine stepp ha 66 (.int .i64 x948) KR KR ?_; clear ha a; intro a ha
                        refine stepp ha 67 (.string ((t972 ++ t976) ++ t993)) KR KR ?_; clear ha a; intro a ha
                        refine stepp ha 2 (.int .i64 x948) KR KR ?_; clear ha a; intro a ha
                        refine stepp ha 3 (.string ((t972 ++ t976) ++ t993)) KR KR ?_; clear ha a; intro a ha
                        refine stepp ha 4 (.int .i64 0) KR KR ?_; clear ha a; intro a ha
                        refine endl ?_
                        refine thenN (hK1019 _ _ ?_); clear hK1019
                        refine wp_ret ?_
                        refine blkR ?_
                        refine thenR ?_
                        refine thenR ?_
                        refine blkR ?_
                        refine thenR ?_
                        obtain rfl := Option.some.inj h
                        exact finv ha _ _ rfl (.tmp (v := .int .i64 x948) KR (.tmp (v := .string ((t972 ++ t976) ++ t993)) KR (.tmp (v := .int .i64 0) KR .nil))) (.tuple #[.int .i64 x948, .string ((t972 ++ t976) ++ t993), .int .i64 0]) rfl ⟨rfl, HW.pick [] [] (by decide) (by decide) rfl KR⟩
                      · skip
                        replace h := ite_neg' h hp1017
                        refine condF ha KR KR (t := t1013) (bool_f hp1017) ?_
                        refine wp_skip ?_
                        refine blkN ?_
                        refine thenN (hK958 _ _ ?_); clear hK958
                        refine wp_region_lit ?_
                        refine stepp ha 68 (.int .i64 (IntKind.wrap .i64 (x948 + 1))) KR KR ?_; clear ha a; intro a ha
                        refine stepp ha 11 (.int .i64 (IntKind.wrap .i64 (x948 + 1))) KR KR ?_; clear ha a; intro a ha
                        refine endl ?_
                        exact thenN ⟨k950, Nat.lt_succ_self k950, IntKind.wrap .i64 (x948 + 1), (by rw [← hag951]; exact h), ha.sub (subs_cons KR (subs_cons KR (subs_cons KR (subs_nil _)))), HW.pick [1] [] (by decide) (by decide) KR KR⟩
                    · skip
                      replace h := ite_neg' h hp1012
                      replace ha := ha.bool 61 KR (ieq_f hp1012)
                      refine stepo ha 62 KR ?_; clear ha a; intro a ha
                      refine stepo ha 63 KR ?_; clear ha a; intro a ha
                      refine stepo ha 64 KR ?_; clear ha a; intro a ha
                      refine stepp ha 65 (.bool false) KR KR ?_; clear ha a; intro a ha
                      refine endl ?_
                      refine thenN (hK1011 _ _ ?_); clear hK1011
                      refine condF ha KR KR (t := false) (rfl) ?_
                      refine wp_skip ?_
                      refine blkN ?_
                      refine thenN (hK958 _ _ ?_); clear hK958
                      refine wp_region_lit ?_
                      refine stepp ha 68 (.int .i64 (IntKind.wrap .i64 (x948 + 1))) KR KR ?_; clear ha a; intro a ha
                      refine stepp ha 11 (.int .i64 (IntKind.wrap .i64 (x948 + 1))) KR KR ?_; clear ha a; intro a ha
                      refine endl ?_
                      exact thenN ⟨k950, Nat.lt_succ_self k950, IntKind.wrap .i64 (x948 + 1), (by rw [← hag951]; exact h), ha.sub (subs_cons KR (subs_cons KR (subs_cons KR (subs_nil _)))), HW.pick [1] [] (by decide) (by decide) KR KR⟩
              · skip
                replace h := ite_neg' h hp969
                refine condT ha KR KR (t := ((x948 == 6) != a0.f12)) (bne_t hp969) ?_
                refine wp_exit ?_
                refine thenE ?_
                refine inBlk ?_
                refine thenN (hK958 _ _ ?_); clear hK958
                refine wp_region_lit ?_
                refine stepp ha 68 (.int .i64 (IntKind.wrap .i64 (x948 + 1))) KR KR ?_; clear ha a; intro a ha
                refine stepp ha 11 (.int .i64 (IntKind.wrap .i64 (x948 + 1))) KR KR ?_; clear ha a; intro a ha
                refine endl ?_
                exact thenN ⟨k950, Nat.lt_succ_self k950, IntKind.wrap .i64 (x948 + 1), (by rw [← hag951]; exact h), ha.sub (subs_cons KR (subs_cons KR (subs_cons KR (subs_nil _)))), HW.pick [0] [] (by decide) (by decide) KR KR⟩
            · skip
              replace h := ite_neg' h hp968
              replace ha := ha.bool 26 KR (ieq_f hp968)
              refine stepo ha 27 KR ?_; clear ha a; intro a ha
              refine stepo ha 28 KR ?_; clear ha a; intro a ha
              refine stepo ha 29 KR ?_; clear ha a; intro a ha
              refine stepo ha 30 KR ?_; clear ha a; intro a ha
              refine stepo ha 31 KR ?_; clear ha a; intro a ha
              refine stepp ha 32 (.bool false) KR KR ?_; clear ha a; intro a ha
              refine stepp ha 33 (.bool false) KR KR ?_; clear ha a; intro a ha
              refine endl ?_
              refine thenN (hK965 _ _ ?_); clear hK965
              refine condF ha KR KR (t := false) (rfl) ?_
              refine wp_skip ?_
              refine thenN (hK963 _ _ ?_); clear hK963
              refine wp_seq_k (fun K1020 hK1021 => ?_)
              obtain ⟨t1022, ht1023, h_⟩ := bind_some' h; clear h; have h := h_; clear h_
              obtain ⟨t1026, ht1027, h_⟩ := bind_some' h; clear h; have h := h_; clear h_
              obtain ⟨hA1030, h_⟩ := asrt_some h; clear h; have h := h_; clear h_
              refine regionG 10 KR KR ha HW [.fix (.pointer (some ⟨b700, 8, none⟩)), .fix (.int .u64 a0.f8), .fix (.string t1022), .fix (.pointer (some ⟨b700, 9, none⟩)), .fix (.int .u64 a0.f9), .fix (.pointer (some ⟨b700, 10, none⟩)), .fix (.int .u64 a0.f10), .fix (.int .u64 (bor .u64 a0.f9 a0.f10)), .fix (.string t1026), .fix (.string (t1022 ++ t1026))] ?_ ?_
              · skip
                refine ⟨?_, ?_, ?_, ?_, ?_, ?_, ?_, ?_, ?_, ?_, trivial⟩
                · skip
                  intro a wr hn hd HW hs; have ha := hasNil hn hd
                  have ha := ha.add (seeE hs 1 (.pointer (some ⟨b700, 0, none⟩)) KR KR)
                  refine yStep ha 34 KR ?_; intro l_ ha HK
                  refine stepp ha 34 (.pointer (some ⟨b700, 8, none⟩)) KR KR ?_; intro ax hax; exact HK _ _ _ hax rfl (Below.refl _ _)
                · skip
                  intro a wr hn hd HW hs; have ha := hasNil hn hd
                  have ha := ha.add (seeF hs 34 0 (.pointer (some ⟨b700, 8, none⟩)) KR KR)
                  refine yStep ha 35 KR ?_; intro l_ ha HK
                  refine stepl ha 35 (HW.ca (i := 0) (b := b700) (C := #[.int .i64 a0.f0, .int .i64 a0.f1, .string a0.f2, .int .i64 a0.f3, .int .i64 a0.f4, .string a0.f5, .bool a0.f6, .slice A0_0 a0.f7.length c0_0, .int .u64 a0.f8, .int .u64 a0.f9, .int .u64 a0.f10, .int .i64 a0.f11, .bool a0.f12, .int .i64 a0.f13]) (T := 63) (fr := (0, 0)) KR) 32 8 (.tmp 34) (.int .u64 a0.f8) rfl KR KR KR ?_; intro ax hax; exact HK _ _ _ hax rfl (Below.refl _ _)
                · skip
                  intro a wr hn hd HW hs; have ha := hasNil hn hd
                  have ha := ha.add (seeF hs 35 1 (.int .u64 a0.f8) KR KR)
                  refine yStep ha 36 KR ?_; intro l_ ha HK
                  refine stepc ha 36 KR KR (prout_key.calls K a0.f8 t1022 _ ht1023) ?_; rintro e W1024 ⟨rfl, HX1025⟩
                  refine ⟨_, rfl, ?_⟩; intro ax hax; exact HK _ _ _ hax rfl HX1025.below
                · skip
                  intro a wr hn hd HW hs; have ha := hasNil hn hd
                  have ha := ha.add (seeE hs 1 (.pointer (some ⟨b700, 0, none⟩)) KR KR)
                  refine yStep ha 37 KR ?_; intro l_ ha HK
                  refine stepp ha 37 (.pointer (some ⟨b700, 9, none⟩)) KR KR ?_; intro ax hax; exact HK _ _ _ hax rfl (Below.refl _ _)
                · skip
                  intro a wr hn hd HW hs; have ha := hasNil hn hd
                  have ha := ha.add (seeF hs 37 3 (.pointer (some ⟨b700, 9, none⟩)) KR KR)
                  refine yStep ha 38 KR ?_; intro l_ ha HK
                  refine stepl ha 38 (HW.ca (i := 0) (b := b700) (C := #[.int .i64 a0.f0, .int .i64 a0.f1, .string a0.f2, .int .i64 a0.f3, .int .i64 a0.f4, .string a0.f5, .bool a0.f6, .slice A0_0 a0.f7.length c0_0, .int .u64 a0.f8, .int .u64 a0.f9, .int .u64 a0.f10, .int .i64 a0.f11, .bool a0.f12, .int .i64 a0.f13]) (T := 63) (fr := (0, 0)) KR) 32 9 (.tmp 37) (.int .u64 a0.f9) rfl KR KR KR ?_; intro ax hax; exact HK _ _ _ hax rfl (Below.refl _ _)
                · skip
                  intro a wr hn hd HW hs; have ha := hasNil hn hd
                  have ha := ha.add (seeE hs 1 (.pointer (some ⟨b700, 0, none⟩)) KR KR)
                  refine yStep ha 39 KR ?_; intro l_ ha HK
                  refine stepp ha 39 (.pointer (some ⟨b700, 10, none⟩)) KR KR ?_; intro ax hax; exact HK _ _ _ hax rfl (Below.refl _ _)
                · skip
                  intro a wr hn hd HW hs; have ha := hasNil hn hd
                  have ha := ha.add (seeF hs 39 5 (.pointer (some ⟨b700, 10, none⟩)) KR KR)
                  refine yStep ha 40 KR ?_; intro l_ ha HK
                  refine stepl ha 40 (HW.ca (i := 0) (b := b700) (C := #[.int .i64 a0.f0, .int .i64 a0.f1, .string a0.f2, .int .i64 a0.f3, .int .i64 a0.f4, .string a0.f5, .bool a0.f6, .slice A0_0 a0.f7.length c0_0, .int .u64 a0.f8, .int .u64 a0.f9, .int .u64 a0.f10, .int .i64 a0.f11, .bool a0.f12, .int .i64 a0.f13]) (T := 63) (fr := (0, 0)) KR) 32 10 (.tmp 39) (.int .u64 a0.f10) rfl KR KR KR ?_; intro ax hax; exact HK _ _ _ hax rfl (Below.refl _ _)
                · skip
                  intro a wr hn hd HW hs; have ha := hasNil hn hd
                  have ha := ha.add (seeF hs 38 4 (.int .u64 a0.f9) KR KR)
                  have ha := ha.add (seeF hs 40 6 (.int .u64 a0.f10) KR KR)
                  refine yStep ha 41 KR ?_; intro l_ ha HK
                  refine stepp ha 41 (.int .u64 (bor .u64 a0.f9 a0.f10)) KR KR ?_; intro ax hax; exact HK _ _ _ hax rfl (Below.refl _ _)
                · skip
                  intro a wr hn hd HW hs; have ha := hasNil hn hd
                  have ha := ha.add (seeF hs 41 7 (.int .u64 (bor .u64 a0.f9 a0.f10)) KR KR)
                  refine yStep ha 42 KR ?_; intro l_ ha HK
                  refine stepc ha 42 KR KR (prout_key.calls K (bor .u64 a0.f9 a0.f10) t1026 _ ht1027) ?_; rintro e W1028 ⟨rfl, HX1029⟩
                  refine ⟨_, rfl, ?_⟩; intro ax hax; exact HK _ _ _ hax rfl HX1029.below
                · skip
                  intro a wr hn hd HW hs; have ha := hasNil hn hd
                  have ha := ha.add (seeF hs 36 2 (.string t1022) KR KR)
                  have ha := ha.add (seeF hs 42 8 (.string t1026) KR KR)
                  refine yStep ha 43 KR ?_; intro l_ ha HK
                  refine stepsa ha 43 9 9 (.tmp 36) (.tmp 42) t1022 t1026 rfl KR KR (show (t1022).size + (t1026).size ≤ 9223372036854775807 from hA1030) KR ?_; intro ax hax; exact HK _ _ _ hax rfl (Below.refl _ _)
              · skip
                intro a W1031 ha HW he hf
                replace ha := ha.add (he 1 (.pointer (some ⟨b700, 0, none⟩)) KR KR)
                replace ha := ha.add (he 5 (.int .i64 x948) KR KR)
                replace ha := ha.add (he 10 (.agg #[.int .i64 t706.f0, .int .i64 t706.f1, .int .i64 t706.f2, .int .i64 t706.f3, .int .i64 t706.f4, .int .i64 t706.f5, .int .i64 t706.f6]) KR KR)
                replace ha := ha.add (he 11 (.int .i64 x948) KR KR)
                replace ha := ha.add (he 20 (.int .i64 (rdL (0 : Int) ([t706.f0, t706.f1, t706.f2, t706.f3, t706.f4, t706.f5, t706.f6] : List Int) x948)) KR KR)
                replace ha := ha.add (he 21 (.bool ((rdL (0 : Int) ([t706.f0, t706.f1, t706.f2, t706.f3, t706.f4, t706.f5, t706.f6] : List Int) x948) == 0)) KR KR)
                replace ha := ha.add (he 24 (.int .i64 (rdL (0 : Int) ([t706.f0, t706.f1, t706.f2, t706.f3, t706.f4, t706.f5, t706.f6] : List Int) x948)) KR KR)
                replace ha := ha.add (he 25 (.bool ((rdL (0 : Int) ([t706.f0, t706.f1, t706.f2, t706.f3, t706.f4, t706.f5, t706.f6] : List Int) x948) == 8)) KR KR)
                replace ha := ha.add (he 26 (.bool false) KR KR)
                replace ha := ha.add (he 32 (.bool false) KR KR)
                replace ha := ha.add (gotF (m := 10) (j := 9) (d := 43) (v := .string (t1022 ++ t1026)) hf KR KR KR)
                clear he hf
                refine stepp ha 3 (.string (t1022 ++ t1026)) KR KR ?_; clear ha a; intro a ha
                refine endl ?_
                refine thenN (hK1021 _ _ ?_); clear hK1021
                refine wp_seq_k (fun K1032 hK1033 => ?_)
                refine wp_region_lit ?_
                refine stepp ha 7 (.int .u64 0) KR KR ?_; clear ha a; intro a ha
                refine endl ?_
                refine thenN (hK1033 _ _ ?_); clear hK1033
                refine wp_seq_k (fun K1034 hK1035 => ?_)
                refine cutn (fun a W1040 => ∃ (x1039 : Int), prout_List.j1 K a0 again947 x948 t1022 t1026 x1039 = some r ∧ Has 69 [(1, .pointer (some ⟨b700, 0, none⟩)), (3, .string (t1022 ++ t1026)), (5, .int .i64 x948), (7, .int .u64 x1039), (10, .agg #[.int .i64 t706.f0, .int .i64 t706.f1, .int .i64 t706.f2, .int .i64 t706.f3, .int .i64 t706.f4, .int .i64 t706.f5, .int .i64 t706.f6]), (11, .int .i64 x948), (20, .int .i64 (rdL (0 : Int) ([t706.f0, t706.f1, t706.f2, t706.f3, t706.f4, t706.f5, t706.f6] : List Int) x948)), (21, .bool ((rdL (0 : Int) ([t706.f0, t706.f1, t706.f2, t706.f3, t706.f4, t706.f5, t706.f6] : List Int) x948) == 0)), (24, .int .i64 (rdL (0 : Int) ([t706.f0, t706.f1, t706.f2, t706.f3, t706.f4, t706.f5, t706.f6] : List Int) x948)), (25, .bool ((rdL (0 : Int) ([t706.f0, t706.f1, t706.f2, t706.f3, t706.f4, t706.f5, t706.f6] : List Int) x948) == 8)), (26, .bool false), (32, .bool false)] a ∧ Wd w W1040 [(b700, .cells #[.int .i64 a0.f0, .int .i64 a0.f1, .string a0.f2, .int .i64 a0.f3, .int .i64 a0.f4, .string a0.f5, .bool a0.f6, .slice A0_0 a0.f7.length c0_0, .int .u64 a0.f8, .int .u64 a0.f9, .int .u64 a0.f10, .int .i64 a0.f11, .bool a0.f12, .int .i64 a0.f13] 63 (0, 0))] []) ?_ ?_
                · skip
                  refine wp_seq_k (fun K1036 hK1037 => ?_)
                  refine wp_region_lit ?_
                  refine stepp ha 44 (.pointer (some ⟨b700, 13, none⟩)) KR KR ?_; clear ha a; intro a ha
                  refine stepl ha 45 (HW.ca (i := 0) (b := b700) (C := #[.int .i64 a0.f0, .int .i64 a0.f1, .string a0.f2, .int .i64 a0.f3, .int .i64 a0.f4, .string a0.f5, .bool a0.f6, .slice A0_0 a0.f7.length c0_0, .int .u64 a0.f8, .int .u64 a0.f9, .int .u64 a0.f10, .int .i64 a0.f11, .bool a0.f12, .int .i64 a0.f13]) (T := 63) (fr := (0, 0)) KR) 3 13 (.tmp 44) (.int .i64 a0.f13) rfl KR KR KR ?_; clear ha a; intro a ha
                  refine stepp ha 46 (.bool (a0.f13 == 2)) KR KR ?_; clear ha a; intro a ha
                  refine endl ?_
                  refine thenN (hK1037 _ _ ?_); clear hK1037
                  by_cases hp1038 : a0.f13 = 2
                  · skip
                    replace h := ite_pos' h hp1038
                    refine condT ha KR KR (t := (a0.f13 == 2)) (ieq_t hp1038) ?_
                    refine wp_region_lit ?_
                    refine stepp ha 7 (.int .u64 16777216) KR KR ?_; clear ha a; intro a ha
                    refine endl ?_
                    exact thenN ⟨16777216, h, ha.sub (subs_cons KR (subs_cons KR (subs_cons KR (subs_cons KR (subs_cons KR (subs_cons KR (subs_cons KR (subs_cons KR (subs_cons KR (subs_cons KR (subs_cons KR (subs_cons KR (subs_nil _))))))))))))), HW.pick [0] [] (by decide) (by decide) KR KR⟩
                  · skip
                    replace h := ite_neg' h hp1038
                    refine condF ha KR KR (t := (a0.f13 == 2)) (ieq_f hp1038) ?_
                    refine wp_skip ?_
                    exact thenN ⟨0, h, ha.sub (subs_cons KR (subs_cons KR (subs_cons KR (subs_cons KR (subs_cons KR (subs_cons KR (subs_cons KR (subs_cons KR (subs_cons KR (subs_cons KR (subs_cons KR (subs_cons KR (subs_nil _))))))))))))), HW.pick [0] [] (by decide) (by decide) KR KR⟩
                · skip
                  intro a W1040 hJ
                  obtain ⟨x1039, h, ha, HW⟩ := hJ
                  replace h : prout_List.j1 K a0 again947 x948 t1022 t1026 x1039 = some r := h
                  unfold prout_List.j1 at h
                  refine hK1035 _ _ ?_; clear hK1035
                  refine wp_seq_k (fun K1041 hK1042 => ?_)
                  refine wp_region_lit ?_
                  refine stepp ha 47 (.string (t1022 ++ t1026)) KR KR ?_; clear ha a; intro a ha
                  refine stepp ha 48 (.int .u64 x1039) KR KR ?_; clear ha a; intro a ha
                  obtain ⟨t1043, ht1044, h_⟩ := bind_some' h; clear h; have h := h_; clear h_
                  refine stepc ha 49 KR KR (prout_key.calls K x1039 t1043 _ ht1044) ?_; clear ha a; rintro e W1045 ⟨rfl, HX1046⟩
                  refine ⟨_, rfl, ?_⟩; intro a ha; replace HW := HW.callw HX1046; clear HX1046
                  obtain ⟨hA1047, h_⟩ := asrt_some h; clear h; have h := h_; clear h_
                  refine stepsa ha 50 9 9 (.tmp 47) (.tmp 49) (t1022 ++ t1026) t1043 rfl KR KR (show (t1022 ++ t1026).size + (t1043).size ≤ 9223372036854775807 from hA1047) KR ?_; clear ha a; intro a ha
                  refine stepp ha 3 (.string ((t1022 ++ t1026) ++ t1043)) KR KR ?_; clear ha a; intro a ha
                  refine endl ?_
                  refine thenN (hK1042 _ _ ?_); clear hK1042
                  refine wp_seq_k (fun K1048 hK1049 => ?_)
                  refine wp_region_lit ?_
                  refine stepp ha 52 (.int .i64 x948) KR KR ?_; clear ha a; intro a ha
                  refine stepp ha 53 (.pointer (some ⟨b700, 11, none⟩)) KR KR ?_; clear ha a; intro a ha
                  refine stepl ha 54 (HW.ca (i := 0) (b := b700) (C := #[.int .i64 a0.f0, .int .i64 a0.f1, .string a0.f2, .int .i64 a0.f3, .int .i64 a0.f4, .string a0.f5, .bool a0.f6, .slice A0_0 a0.f7.length c0_0, .int .u64 a0.f8, .int .u64 a0.f9, .int .u64 a0.f10, .int .i64 a0.f11, .bool a0.f12, .int .i64 a0.f13]) (T := 63) (fr := (0, 0)) KR) 3 11 (.tmp 53) (.int .i64 a0.f11) rfl KR KR KR ?_; clear ha a; intro a ha
                  refine stepp ha 55 (.string ((t1022 ++ t1026) ++ t1043)) KR KR ?_; clear ha a; intro a ha
                  obtain ⟨t1050, ht1051, h_⟩ := bind_some' h; clear h; have h := h_; clear h_
                  refine stepc ha 56 KR KR (prout_Change.calls K x948 a0.f11 ((t1022 ++ t1026) ++ t1043) t1050 _ ht1051) ?_; clear ha a; rintro e W1055 ⟨A1052, c1053, rfl, HX1056⟩
                  refine ⟨_, rfl, ?_⟩; intro a ha; replace HW := HW.callw HX1056; clear HX1056
                  refine stepp ha 51 (.tuple #[.agg #[.int .i64 t1050.1.f0, .int .i64 t1050.1.f1, .string t1050.1.f2, .int .i64 t1050.1.f3, .int .i64 t1050.1.f4, .string t1050.1.f5, .bool t1050.1.f6, .slice A1052 t1050.1.f7.length c1053, .int .u64 t1050.1.f8, .int .u64 t1050.1.f9, .int .u64 t1050.1.f10, .int .i64 t1050.1.f11, .bool t1050.1.f12, .int .i64 t1050.1.f13], .int .i64 t1050.2]) KR KR ?_; clear ha a; intro a ha
                  refine stepp ha 57 (.agg #[.int .i64 t1050.1.f0, .int .i64 t1050.1.f1, .string t1050.1.f2, .int .i64 t1050.1.f3, .int .i64 t1050.1.f4, .string t1050.1.f5, .bool t1050.1.f6, .slice A1052 t1050.1.f7.length c1053, .int .u64 t1050.1.f8, .int .u64 t1050.1.f9, .int .u64 t1050.1.f10, .int .i64 t1050.1.f11, .bool t1050.1.f12, .int .i64 t1050.1.f13]) KR KR ?_; clear ha a; intro a ha
                  refine stepp ha 58 (.int .i64 t1050.2) KR KR ?_; clear ha a; intro a ha
                  refine stepnew ha HW 8 #[.int .i64 0, .int .i64 0, .string (⟨#[]⟩ : ByteArray), .int .i64 0, .int .i64 0, .string (⟨#[]⟩ : ByteArray), .bool false, .slice none 0 0, .int .u64 0, .int .u64 0, .int .u64 0, .int .i64 0, .bool false, .int .i64 0] 63 KR KR ?_; clear ha HW a; intro b1057 a W1058 HW ha
                  refine stepst ha HW 0 (b := b1057) (C := #[.int .i64 0, .int .i64 0, .string (⟨#[]⟩ : ByteArray), .int .i64 0, .int .i64 0, .string (⟨#[]⟩ : ByteArray), .bool false, .slice none 0 0, .int .u64 0, .int .u64 0, .int .u64 0, .int .i64 0, .bool false, .int .i64 0]) (T := 63) KR 63 0 (.tmp 8) (.tmp 57) (.agg #[.int .i64 t1050.1.f0, .int .i64 t1050.1.f1, .string t1050.1.f2, .int .i64 t1050.1.f3, .int .i64 t1050.1.f4, .string t1050.1.f5, .bool t1050.1.f6, .slice A1052 t1050.1.f7.length c1053, .int .u64 t1050.1.f8, .int .u64 t1050.1.f9, .int .u64 t1050.1.f10, .int .i64 t1050.1.f11, .bool t1050.1.f12, .int .i64 t1050.1.f13]) #[.int .i64 t1050.1.f0, .int .i64 t1050.1.f1, .string t1050.1.f2, .int .i64 t1050.1.f3, .int .i64 t1050.1.f4, .string t1050.1.f5, .bool t1050.1.f6, .slice A1052 t1050.1.f7.length c1053, .int .u64 t1050.1.f8, .int .u64 t1050.1.f9, .int .u64 t1050.1.f10, .int .i64 t1050.1.f11, .bool t1050.1.f12, .int .i64 t1050.1.f13] rfl KR KR KR KR KR KR KR ?_; clear ha HW a; intro a W1059 HW ha
                  refine stepp ha 9 (.int .i64 t1050.2) KR KR ?_; clear ha a; intro a ha
                  refine endl ?_
                  refine thenN (hK1049 _ _ ?_); clear hK1049
                  refine wp_seq_k (fun K1060 hK1061 => ?_)
                  refine wp_region_lit ?_
                  refine stepp ha 59 (.int .i64 t1050.2) KR KR ?_; clear ha a; intro a ha
                  refine stepp ha 60 (.bool (t1050.2 == 0)) KR KR ?_; clear ha a; intro a ha
                  refine stepp ha 61 (.bool (t1050.2 == 0)) KR KR ?_; clear ha a; intro a ha
                  by_cases hp1062 : t1050.2 = 0
                  · skip
                    replace h := ite_pos' h hp1062
                    replace ha := ha.bool 61 KR (ieq_t hp1062)
                    refine stepl ha 62 (HW.ca (i := 0) (b := b1057) (C := #[.int .i64 t1050.1.f0, .int .i64 t1050.1.f1, .string t1050.1.f2, .int .i64 t1050.1.f3, .int .i64 t1050.1.f4, .string t1050.1.f5, .bool t1050.1.f6, .slice A1052 t1050.1.f7.length c1053, .int .u64 t1050.1.f8, .int .u64 t1050.1.f9, .int .u64 t1050.1.f10, .int .i64 t1050.1.f11, .bool t1050.1.f12, .int .i64 t1050.1.f13]) (T := 63) (fr := (0, 0)) KR) 63 0 (.tmp 8) (.agg #[.int .i64 t1050.1.f0, .int .i64 t1050.1.f1, .string t1050.1.f2, .int .i64 t1050.1.f3, .int .i64 t1050.1.f4, .string t1050.1.f5, .bool t1050.1.f6, .slice A1052 t1050.1.f7.length c1053, .int .u64 t1050.1.f8, .int .u64 t1050.1.f9, .int .u64 t1050.1.f10, .int .i64 t1050.1.f11, .bool t1050.1.f12, .int .i64 t1050.1.f13]) rfl KR KR KR ?_; clear ha a; intro a ha
                    refine stepl ha 63 (HW.ca (i := 1) (b := b700) (C := #[.int .i64 a0.f0, .int .i64 a0.f1, .string a0.f2, .int .i64 a0.f3, .int .i64 a0.f4, .string a0.f5, .bool a0.f6, .slice A0_0 a0.f7.length c0_0, .int .u64 a0.f8, .int .u64 a0.f9, .int .u64 a0.f10, .int .i64 a0.f11, .bool a0.f12, .int .i64 a0.f13]) (T := 63) (fr := (0, 0)) KR) 63 0 (.tmp 1) (.agg #[.int .i64 a0.f0, .int .i64 a0.f1, .string a0.f2, .int .i64 a0.f3, .int .i64 a0.f4, .string a0.f5, .bool a0.f6, .slice A0_0 a0.f7.length c0_0, .int .u64 a0.f8, .int .u64 a0.f9, .int .u64 a0.f10, .int .i64 a0.f11, .bool a0.f12, .int .i64 a0.f13]) rfl KR KR KR ?_; clear ha a; intro a ha
                    obtain ⟨t1063, ht1064, h_⟩ := bind_some' h; clear h; have h := h_; clear h_
                    refine stepc ha 64 KR KR (prout_same.calls (⟨t1050.1.f0, t1050.1.f1, t1050.1.f2, t1050.1.f3, t1050.1.f4, t1050.1.f5, t1050.1.f6, t1050.1.f7, t1050.1.f8, t1050.1.f9, t1050.1.f10, t1050.1.f11, t1050.1.f12, t1050.1.f13⟩ : T_api_Cmd) a0 A1052 c1053 A0_0 c0_0 t1063 _ (HW.rdo (i := 0) (q := ⟨112, 2, .slice A1052 t1050.1.f7.length c1053, t1050.1.f7.length, encs T_api_Range.enc t1050.1.f7⟩) KR) ((HW.rd0 hr0_0)) ht1064) ?_; clear ha a; rintro e W1065 ⟨rfl, HX1066⟩
                    refine ⟨_, rfl, ?_⟩; intro a ha; replace HW := HW.callw HX1066; clear HX1066
                    refine stepp ha 65 (.bool t1063) KR KR ?_; clear ha a; intro a ha
                    refine endl ?_
                    refine thenN (hK1061 _ _ ?_); clear hK1061
                    by_cases hp1067 : t1063 = true
                    · skip
                      replace h := ite_pos' h hp1067
                      refine condT ha KR KR (t := t1063) (hp1067) ?_
                      refine wp_seq_k (fun K1068 hK1069 => ?_)
                      refine wp_region_lit ?_
                      refine stepp ha 66 (.int .i64 x948) KR KR ?_; clear ha a; intro a ha
                      refine stepp ha 67 (.string ((t1022 ++ t1026) ++ t1043)) KR KR ?_; clear ha a; intro a ha
                      refine stepp ha 2 (.int .i64 x948) KR KR ?_; clear ha a; intro a ha
                      refine stepp ha 3 (.string ((t1022 ++ t1026) ++ t1043)) KR KR ?_; clear ha a; intro a ha
                      refine stepp ha 4 (.int .i64 0) KR KR ?_; clear ha a; intro a ha
                      refine endl ?_
                      refine thenN (hK1069 _ _ ?_); clear hK1069
                      refine wp_ret ?_
                      refine blkR ?_
                      refine thenR ?_
                      refine thenR ?_
                      refine blkR ?_
                      refine thenR ?_
                      obtain rfl := Option.some.inj h
                      exact finv ha _ _ rfl (.tmp (v := .int .i64 x948) KR (.tmp (v := .string ((t1022 ++ t1026) ++ t1043)) KR (.tmp (v := .int .i64 0) KR .nil))) (.tuple #[.int .i64 x948, .string ((t1022 ++ t1026) ++ t1043), .int .i64 0]) rfl ⟨rfl, HW.pick [] [] (by decide) (by decide) rfl KR⟩
                    · skip
                      replace h := ite_neg' h hp1067
                      refine condF ha KR KR (t := t1063) (bool_f hp1067) ?_
                      refine wp_skip ?_
                      refine blkN ?_
                      refine thenN (hK958 _ _ ?_); clear hK958
                      refine wp_region_lit ?_
                      refine stepp ha 68 (.int .i64 (IntKind.wrap .i64 (x948 + 1))) KR KR ?_; clear ha a; intro a ha
                      refine stepp ha 11 (.int .i64 (IntKind.wrap .i64 (x948 + 1))) KR KR ?_; clear ha a; intro a ha
                      refine endl ?_
                      exact thenN ⟨k950, Nat.lt_succ_self k950, IntKind.wrap .i64 (x948 + 1), (by rw [← hag951]; exact h), ha.sub (subs_cons KR (subs_cons KR (subs_cons KR (subs_nil _)))), HW.pick [1] [] (by decide) (by decide) KR KR⟩
                  · skip
                    replace h := ite_neg' h hp1062
                    replace ha := ha.bool 61 KR (ieq_f hp1062)
                    refine stepo ha 62 KR ?_; clear ha a; intro a ha
                    refine stepo ha 63 KR ?_; clear ha a; intro a ha
                    refine stepo ha 64 KR ?_; clear ha a; intro a ha
                    refine stepp ha 65 (.bool false) KR KR ?_; clear ha a; intro a ha
                    refine endl ?_
                    refine thenN (hK1061 _ _ ?_); clear hK1061
                    refine condF ha KR KR (t := false) (rfl) ?_
                    refine wp_skip ?_
                    refine blkN ?_
                    refine thenN (hK958 _ _ ?_); clear hK958
                    refine wp_region_lit ?_
                    refine stepp ha 68 (.int .i64 (IntKind.wrap .i64 (x948 + 1))) KR KR ?_; clear ha a; intro a ha
                    refine stepp ha 11 (.int .i64 (IntKind.wrap .i64 (x948 + 1))) KR KR ?_; clear ha a; intro a ha
                    refine endl ?_
                    exact thenN ⟨k950, Nat.lt_succ_self k950, IntKind.wrap .i64 (x948 + 1), (by rw [← hag951]; exact h), ha.sub (subs_cons KR (subs_cons KR (subs_cons KR (subs_nil _)))), HW.pick [1] [] (by decide) (by decide) KR KR⟩
        · skip
          replace h := ite_neg' h hp966
          replace ha := ha.bool 19 KR (ineq_t hp966)
          refine stepo ha 20 KR ?_; clear ha a; intro a ha
          refine stepo ha 21 KR ?_; clear ha a; intro a ha
          refine stepp ha 22 (.bool true) KR KR ?_; clear ha a; intro a ha
          refine stepp ha 23 (.bool true) KR KR ?_; clear ha a; intro a ha
          refine stepo ha 24 KR ?_; clear ha a; intro a ha
          refine stepo ha 25 KR ?_; clear ha a; intro a ha
          refine stepo ha 26 KR ?_; clear ha a; intro a ha
          refine stepo ha 27 KR ?_; clear ha a; intro a ha
          refine stepo ha 28 KR ?_; clear ha a; intro a ha
          refine stepo ha 29 KR ?_; clear ha a; intro a ha
          refine stepo ha 30 KR ?_; clear ha a; intro a ha
          refine stepo ha 31 KR ?_; clear ha a; intro a ha
          refine stepo ha 32 KR ?_; clear ha a; intro a ha
          refine stepp ha 33 (.bool true) KR KR ?_; clear ha a; intro a ha
          refine endl ?_
          refine thenN (hK965 _ _ ?_); clear hK965
          refine condT ha KR KR (t := true) (rfl) ?_
          refine wp_exit ?_
          refine thenE ?_
          refine inBlk ?_
          refine thenN (hK958 _ _ ?_); clear hK958
          refine wp_region_lit ?_
          refine stepp ha 68 (.int .i64 (IntKind.wrap .i64 (x948 + 1))) KR KR ?_; clear ha a; intro a ha
          refine stepp ha 11 (.int .i64 (IntKind.wrap .i64 (x948 + 1))) KR KR ?_; clear ha a; intro a ha
          refine endl ?_
          exact thenN ⟨k950, Nat.lt_succ_self k950, IntKind.wrap .i64 (x948 + 1), (by rw [← hag951]; exact h), ha.sub (subs_cons KR (subs_cons KR (subs_cons KR (subs_nil _)))), HW.pick [0] [] (by decide) (by decide) KR KR⟩
      · skip
        replace h := ite_neg' h hp956
        refine condF ha KR KR (t := decide (x948 < 7)) (decide_eq_false hp956) ?_
        refine wp_exit ?_
        refine thenE ?_
        refine thenE ?_
        refine inBlk ?_
        refine thenN (hK703 _ _ ?_); clear hK703
        refine wp_seq_k (fun K1070 hK1071 => ?_)
        refine wp_region_lit ?_
        refine stepp ha 2 (.int .i64 0) KR KR ?_; clear ha a; intro a ha
        refine stepp ha 3 (.string (⟨#[]⟩ : ByteArray)) KR KR ?_; clear ha a; intro a ha
        refine stepp ha 4 (.int .i64 180) KR KR ?_; clear ha a; intro a ha
        refine endl ?_
        refine thenN (hK1071 _ _ ?_); clear hK1071
        refine wp_ret ?_
        obtain rfl := Option.some.inj h
        exact finv ha _ _ rfl (.tmp (v := .int .i64 0) KR (.tmp (v := .string (⟨#[]⟩ : ByteArray)) KR (.tmp (v := .int .i64 180) KR .nil))) (.tuple #[.int .i64 0, .string (⟨#[]⟩ : ByteArray), .int .i64 180]) rfl ⟨rfl, HW.pick [] [] (by decide) (by decide) rfl KR⟩
/-! ### headgate/headgatelaw18.wakes: function 10 -/
def headgatelaw18_wakes.f (K : Nat)  : Option Bool :=
  (prout_List.f K (⟨8, 0, (⟨#[]⟩ : ByteArray), 0, 0, (⟨#[]⟩ : ByteArray), false, ([] : List T_api_Range), 1, 2, 0, 0, false, 2⟩ : T_api_Cmd)).bind fun t1076 => ((prout_Change.f K t1076.1 0 t1076.2.1).bind fun t1082 => (if t1076.2.2 = 0 then (if t1082.2 = 0 then (if t1076.1 = 0 then (if (t1076.2.1.size : Int) = 24 then (asrt (7 < (t1076.2.1.size : Int)) (if (bt t1076.2.1 7) = 1 then (asrt (15 < (t1076.2.1.size : Int)) (if (bt t1076.2.1 15) = 2 then (asrt (20 < (t1076.2.1.size : Int)) (if (bt t1076.2.1 20) = 1 then (if t1082.1.f9 = 2 then ((prout_Keys.f K 5 ([(⟨(⟨#[97]⟩ : ByteArray), 7⟩ : T_api_Reg)] : List T_api_Reg)).bind fun t1108 => (some ((t1108.size : Int) == 16))) else (some false)) else (some false))) else (some false))) else (some false))) else (some false)) else (some false)) else (some false)) else (some false)))
set_option maxRecDepth 100000 in
set_option maxHeartbeats 4000000 in
theorem headgatelaw18_wakes.calls (K : Nat)   (r : Bool) (w : World)  (h : headgatelaw18_wakes.f K  = some r) :
    Calls Tryd.prog 10 #[] w (fun e W' => e = .returned (.bool r) ∧ Wd w W' [] [] ) := by
  refine sxstart (n := 60) (l := []) Tryd.func10 rfl rfl (Nat.le_of_ble_eq_true KR) (subsA_nil _) ?_
  intro a ha
  have HW := Wd.refl w
  unfold headgatelaw18_wakes.f at h
  refine wp_seq_k (fun K1072 hK1073 => ?_)
  refine wp_region_lit ?_
  refine stepp ha 0 (.bool false) KR KR ?_; clear ha a; intro a ha
  refine endl ?_
  refine thenN (hK1073 _ _ ?_); clear hK1073
  refine wp_seq_k (fun K1074 hK1075 => ?_)
  refine wp_region_lit ?_
  refine stepp ha 7 (.agg #[.int .i64 8, .int .i64 0, .string (⟨#[]⟩ : ByteArray), .int .i64 0, .int .i64 0, .string (⟨#[]⟩ : ByteArray), .bool false, .slice none 0 0, .int .u64 1, .int .u64 2, .int .u64 0, .int .i64 0, .bool false, .int .i64 2]) KR KR ?_; clear ha a; intro a ha
  obtain ⟨t1076, ht1077, h_⟩ := bind_some' h; clear h; have h := h_; clear h_
  refine stepc ha 8 KR KR (prout_List.calls K (⟨8, 0, (⟨#[]⟩ : ByteArray), 0, 0, (⟨#[]⟩ : ByteArray), false, ([] : List T_api_Range), 1, 2, 0, 0, false, 2⟩ : T_api_Cmd) none 0 t1076 _ (Rd.nil _ _) ht1077) ?_; clear ha a; rintro e W1078 ⟨rfl, HX1079⟩
  refine ⟨_, rfl, ?_⟩; intro a ha; replace HW := HW.callw HX1079; clear HX1079
  refine stepp ha 6 (.tuple #[.int .i64 t1076.1, .string t1076.2.1, .int .i64 t1076.2.2]) KR KR ?_; clear ha a; intro a ha
  refine stepp ha 9 (.int .i64 t1076.1) KR KR ?_; clear ha a; intro a ha
  refine stepp ha 10 (.string t1076.2.1) KR KR ?_; clear ha a; intro a ha
  refine stepp ha 11 (.int .i64 t1076.2.2) KR KR ?_; clear ha a; intro a ha
  refine stepp ha 1 (.int .i64 t1076.1) KR KR ?_; clear ha a; intro a ha
  refine stepp ha 2 (.string t1076.2.1) KR KR ?_; clear ha a; intro a ha
  refine stepp ha 3 (.int .i64 t1076.2.2) KR KR ?_; clear ha a; intro a ha
  refine endl ?_
  refine thenN (hK1075 _ _ ?_); clear hK1075
  refine wp_seq_k (fun K1080 hK1081 => ?_)
  refine wp_region_lit ?_
  refine stepp ha 13 (.int .i64 t1076.1) KR KR ?_; clear ha a; intro a ha
  refine stepp ha 14 (.string t1076.2.1) KR KR ?_; clear ha a; intro a ha
  obtain ⟨t1082, ht1083, h_⟩ := bind_some' h; clear h; have h := h_; clear h_
  refine stepc ha 15 KR KR (prout_Change.calls K t1076.1 0 t1076.2.1 t1082 _ ht1083) ?_; clear ha a; rintro e W1087 ⟨A1084, c1085, rfl, HX1088⟩
  refine ⟨_, rfl, ?_⟩; intro a ha; replace HW := HW.callw HX1088; clear HX1088
  refine stepp ha 12 (.tuple #[.agg #[.int .i64 t1082.1.f0, .int .i64 t1082.1.f1, .string t1082.1.f2, .int .i64 t1082.1.f3, .int .i64 t1082.1.f4, .string t1082.1.f5, .bool t1082.1.f6, .slice A1084 t1082.1.f7.length c1085, .int .u64 t1082.1.f8, .int .u64 t1082.1.f9, .int .u64 t1082.1.f10, .int .i64 t1082.1.f11, .bool t1082.1.f12, .int .i64 t1082.1.f13], .int .i64 t1082.2]) KR KR ?_; clear ha a; intro a ha
  refine stepp ha 16 (.agg #[.int .i64 t1082.1.f0, .int .i64 t1082.1.f1, .string t1082.1.f2, .int .i64 t1082.1.f3, .int .i64 t1082.1.f4, .string t1082.1.f5, .bool t1082.1.f6, .slice A1084 t1082.1.f7.length c1085, .int .u64 t1082.1.f8, .int .u64 t1082.1.f9, .int .u64 t1082.1.f10, .int .i64 t1082.1.f11, .bool t1082.1.f12, .int .i64 t1082.1.f13]) KR KR ?_; clear ha a; intro a ha
  refine stepp ha 17 (.int .i64 t1082.2) KR KR ?_; clear ha a; intro a ha
  refine stepnew ha HW 4 #[.int .i64 0, .int .i64 0, .string (⟨#[]⟩ : ByteArray), .int .i64 0, .int .i64 0, .string (⟨#[]⟩ : ByteArray), .bool false, .slice none 0 0, .int .u64 0, .int .u64 0, .int .u64 0, .int .i64 0, .bool false, .int .i64 0] 63 KR KR ?_; clear ha HW a; intro b1089 a W1090 HW ha
  refine stepst ha HW 0 (b := b1089) (C := #[.int .i64 0, .int .i64 0, .string (⟨#[]⟩ : ByteArray), .int .i64 0, .int .i64 0, .string (⟨#[]⟩ : ByteArray), .bool false, .slice none 0 0, .int .u64 0, .int .u64 0, .int .u64 0, .int .i64 0, .bool false, .int .i64 0]) (T := 63) KR 63 0 (.tmp 4) (.tmp 16) (.agg #[.int .i64 t1082.1.f0, .int .i64 t1082.1.f1, .string t1082.1.f2, .int .i64 t1082.1.f3, .int .i64 t1082.1.f4, .string t1082.1.f5, .bool t1082.1.f6, .slice A1084 t1082.1.f7.length c1085, .int .u64 t1082.1.f8, .int .u64 t1082.1.f9, .int .u64 t1082.1.f10, .int .i64 t1082.1.f11, .bool t1082.1.f12, .int .i64 t1082.1.f13]) #[.int .i64 t1082.1.f0, .int .i64 t1082.1.f1, .string t1082.1.f2, .int .i64 t1082.1.f3, .int .i64 t1082.1.f4, .string t1082.1.f5, .bool t1082.1.f6, .slice A1084 t1082.1.f7.length c1085, .int .u64 t1082.1.f8, .int .u64 t1082.1.f9, .int .u64 t1082.1.f10, .int .i64 t1082.1.f11, .bool t1082.1.f12, .int .i64 t1082.1.f13] rfl KR KR KR KR KR KR KR ?_; clear ha HW a; intro a W1091 HW ha
  refine stepp ha 5 (.int .i64 t1082.2) KR KR ?_; clear ha a; intro a ha
  refine endl ?_
  refine thenN (hK1081 _ _ ?_); clear hK1081
  refine wp_seq_k (fun K1092 hK1093 => ?_)
  refine wp_region_lit ?_
  refine stepp ha 18 (.int .i64 t1076.2.2) KR KR ?_; clear ha a; intro a ha
  refine stepp ha 19 (.bool (t1076.2.2 == 0)) KR KR ?_; clear ha a; intro a ha
  refine stepp ha 20 (.bool (t1076.2.2 == 0)) KR KR ?_; clear ha a; intro a ha
  by_cases hp1094 : t1076.2.2 = 0
  · skip
    replace h := ite_pos' h hp1094
    replace ha := ha.bool 20 KR (ieq_t hp1094)
    refine stepp ha 21 (.int .i64 t1082.2) KR KR ?_; clear ha a; intro a ha
    refine stepp ha 22 (.bool (t1082.2 == 0)) KR KR ?_; clear ha a; intro a ha
    refine stepp ha 23 (.bool (t1082.2 == 0)) KR KR ?_; clear ha a; intro a ha
    refine stepp ha 24 (.bool (t1082.2 == 0)) KR KR ?_; clear ha a; intro a ha
    by_cases hp1095 : t1082.2 = 0
    · skip
      replace h := ite_pos' h hp1095
      replace ha := ha.bool 24 KR (ieq_t hp1095)
      refine stepp ha 25 (.int .i64 t1076.1) KR KR ?_; clear ha a; intro a ha
      refine stepp ha 26 (.bool (t1076.1 == 0)) KR KR ?_; clear ha a; intro a ha
      refine stepp ha 27 (.bool (t1076.1 == 0)) KR KR ?_; clear ha a; intro a ha
      refine stepp ha 28 (.bool (t1076.1 == 0)) KR KR ?_; clear ha a; intro a ha
      by_cases hp1096 : t1076.1 = 0
      · skip
        replace h := ite_pos' h hp1096
        replace ha := ha.bool 28 KR (ieq_t hp1096)
        refine stepp ha 29 (.string t1076.2.1) KR KR ?_; clear ha a; intro a ha
        refine stepp ha 30 (.int .i64 (t1076.2.1.size : Int)) KR KR ?_; clear ha a; intro a ha
        refine stepp ha 31 (.bool ((t1076.2.1.size : Int) == 24)) KR KR ?_; clear ha a; intro a ha
        refine stepp ha 32 (.bool ((t1076.2.1.size : Int) == 24)) KR KR ?_; clear ha a; intro a ha
        refine stepp ha 33 (.bool ((t1076.2.1.size : Int) == 24)) KR KR ?_; clear ha a; intro a ha
        by_cases hp1097 : (t1076.2.1.size : Int) = 24
        · skip
          replace h := ite_pos' h hp1097
          replace ha := ha.bool 33 KR (ieq_t hp1097)
          refine stepp ha 34 (.string t1076.2.1) KR KR ?_; clear ha a; intro a ha
          obtain ⟨hA1098, h_⟩ := asrt_some h; clear h; have h := h_; clear h_
          refine stepsi ha 35 9 (.tmp 34) (.const (.int .i64 7)) t1076.2.1 .i64 7 rfl KR KR KR (by decide) (show (7 : Int) < ((t1076.2.1).size : Int) from hA1098) KR ?_; clear ha a; intro a ha
          refine stepp ha 36 (.bool ((bt t1076.2.1 7) == 1)) KR KR ?_; clear ha a; intro a ha
          refine stepp ha 37 (.bool ((bt t1076.2.1 7) == 1)) KR KR ?_; clear ha a; intro a ha
          refine stepp ha 38 (.bool ((bt t1076.2.1 7) == 1)) KR KR ?_; clear ha a; intro a ha
          by_cases hp1099 : (bt t1076.2.1 7) = 1
          · skip
            replace h := ite_pos' h hp1099
            replace ha := ha.bool 38 KR (ieq_t hp1099)
            refine stepp ha 39 (.string t1076.2.1) KR KR ?_; clear ha a; intro a ha
            obtain ⟨hA1100, h_⟩ := asrt_some h; clear h; have h := h_; clear h_
            refine stepsi ha 40 9 (.tmp 39) (.const (.int .i64 15)) t1076.2.1 .i64 15 rfl KR KR KR (by decide) (show (15 : Int) < ((t1076.2.1).size : Int) from hA1100) KR ?_; clear ha a; intro a ha
            refine stepp ha 41 (.bool ((bt t1076.2.1 15) == 2)) KR KR ?_; clear ha a; intro a ha
            refine stepp ha 42 (.bool ((bt t1076.2.1 15) == 2)) KR KR ?_; clear ha a; intro a ha
            refine stepp ha 43 (.bool ((bt t1076.2.1 15) == 2)) KR KR ?_; clear ha a; intro a ha
            by_cases hp1101 : (bt t1076.2.1 15) = 2
            · skip
              replace h := ite_pos' h hp1101
              replace ha := ha.bool 43 KR (ieq_t hp1101)
              refine stepp ha 44 (.string t1076.2.1) KR KR ?_; clear ha a; intro a ha
              obtain ⟨hA1102, h_⟩ := asrt_some h; clear h; have h := h_; clear h_
              refine stepsi ha 45 9 (.tmp 44) (.const (.int .i64 20)) t1076.2.1 .i64 20 rfl KR KR KR (by decide) (show (20 : Int) < ((t1076.2.1).size : Int) from hA1102) KR ?_; clear ha a; intro a ha
              refine stepp ha 46 (.bool ((bt t1076.2.1 20) == 1)) KR KR ?_; clear ha a; intro a ha
              refine stepp ha 47 (.bool ((bt t1076.2.1 20) == 1)) KR KR ?_; clear ha a; intro a ha
              refine stepp ha 48 (.bool ((bt t1076.2.1 20) == 1)) KR KR ?_; clear ha a; intro a ha
              by_cases hp1103 : (bt t1076.2.1 20) = 1
              · skip
                replace h := ite_pos' h hp1103
                replace ha := ha.bool 48 KR (ieq_t hp1103)
                refine stepp ha 49 (.pointer (some ⟨b1089, 9, none⟩)) KR KR ?_; clear ha a; intro a ha
                refine stepl ha 50 (HW.ca (i := 0) (b := b1089) (C := #[.int .i64 t1082.1.f0, .int .i64 t1082.1.f1, .string t1082.1.f2, .int .i64 t1082.1.f3, .int .i64 t1082.1.f4, .string t1082.1.f5, .bool t1082.1.f6, .slice A1084 t1082.1.f7.length c1085, .int .u64 t1082.1.f8, .int .u64 t1082.1.f9, .int .u64 t1082.1.f10, .int .i64 t1082.1.f11, .bool t1082.1.f12, .int .i64 t1082.1.f13]) (T := 63) (fr := (0, 0)) KR) 32 9 (.tmp 49) (.int .u64 t1082.1.f9) rfl KR KR KR ?_; clear ha a; intro a ha
                refine stepp ha 51 (.bool (t1082.1.f9 == 2)) KR KR ?_; clear ha a; intro a ha
                refine stepp ha 52 (.bool (t1082.1.f9 == 2)) KR KR ?_; clear ha a; intro a ha
                refine stepp ha 53 (.bool (t1082.1.f9 == 2)) KR KR ?_; clear ha a; intro a ha
                by_cases hp1104 : t1082.1.f9 = 2
                · skip
                  replace h := ite_pos' h hp1104
                  replace ha := ha.bool 53 KR (ieq_t hp1104)
                  refine stepp ha 54 (.agg #[.string (⟨#[97]⟩ : ByteArray), .int .u64 7]) KR KR ?_; clear ha a; intro a ha
                  refine stepbs ha HW 55 36 2 1 #[.string (⟨#[97]⟩ : ByteArray), .int .u64 7] [.string (⟨#[97]⟩ : ByteArray), .int .u64 7] (by decide) KR KR KR KR ?_; clear ha HW a; intro b1105 a W1106 HW ha
                  replace HW : Wd w W1106 [(b1089, .cells #[.int .i64 t1082.1.f0, .int .i64 t1082.1.f1, .string t1082.1.f2, .int .i64 t1082.1.f3, .int .i64 t1082.1.f4, .string t1082.1.f5, .bool t1082.1.f6, .slice A1084 t1082.1.f7.length c1085, .int .u64 t1082.1.f8, .int .u64 t1082.1.f9, .int .u64 t1082.1.f10, .int .i64 t1082.1.f11, .bool t1082.1.f12, .int .i64 t1082.1.f13] 63 (0, 0))] [⟨36, 2, .slice (some ⟨b1105, 0, none⟩) ([(⟨(⟨#[97]⟩ : ByteArray), 7⟩ : T_api_Reg)] : List T_api_Reg).length 1, ([(⟨(⟨#[97]⟩ : ByteArray), 7⟩ : T_api_Reg)] : List T_api_Reg).length, encs T_api_Reg.enc ([(⟨(⟨#[97]⟩ : ByteArray), 7⟩ : T_api_Reg)] : List T_api_Reg)⟩, ⟨112, 2, .slice A1084 t1082.1.f7.length c1085, t1082.1.f7.length, encs T_api_Range.enc t1082.1.f7⟩] := HW
                  replace ha := ha.turn 55 (v := .slice (some ⟨b1105, 0, none⟩) ([(⟨(⟨#[97]⟩ : ByteArray), 7⟩ : T_api_Reg)] : List T_api_Reg).length 1) KR rfl
                  obtain ⟨t1108, ht1109, h_⟩ := bind_some' h; clear h; have h := h_; clear h_
                  refine stepc ha 56 KR KR (prout_Keys.calls K 5 ([(⟨(⟨#[97]⟩ : ByteArray), 7⟩ : T_api_Reg)] : List T_api_Reg) (some ⟨b1105, 0, none⟩) 1 t1108 _ (HW.rdo (i := 0) (q := ⟨36, 2, .slice (some ⟨b1105, 0, none⟩) ([(⟨(⟨#[97]⟩ : ByteArray), 7⟩ : T_api_Reg)] : List T_api_Reg).length 1, ([(⟨(⟨#[97]⟩ : ByteArray), 7⟩ : T_api_Reg)] : List T_api_Reg).length, encs T_api_Reg.enc ([(⟨(⟨#[97]⟩ : ByteArray), 7⟩ : T_api_Reg)] : List T_api_Reg)⟩) KR) ht1109) ?_; clear ha a; rintro e W1110 ⟨rfl, HX1111⟩
                  refine ⟨_, rfl, ?_⟩; intro a ha; replace HW := HW.callw HX1111; clear HX1111
                  refine stepp ha 57 (.int .i64 (t1108.size : Int)) KR KR ?_; clear ha a; intro a ha
                  refine stepp ha 58 (.bool ((t1108.size : Int) == 16)) KR KR ?_; clear ha a; intro a ha
                  refine stepp ha 59 (.bool ((t1108.size : Int) == 16)) KR KR ?_; clear ha a; intro a ha
                  refine stepp ha 0 (.bool ((t1108.size : Int) == 16)) KR KR ?_; clear ha a; intro a ha
                  refine endl ?_
                  refine thenN (hK1093 _ _ ?_); clear hK1093
                  refine wp_ret ?_
                  obtain rfl := Option.some.inj h
                  exact finv ha _ _ rfl (.tmp (v := .bool ((t1108.size : Int) == 16)) KR .nil) (.bool ((t1108.size : Int) == 16)) rfl ⟨rfl, HW.pick [] [] (by decide) (by decide) rfl KR⟩
                · skip
                  replace h := ite_neg' h hp1104
                  replace ha := ha.bool 53 KR (ieq_f hp1104)
                  refine stepo ha 54 KR ?_; clear ha a; intro a ha
                  refine stepo ha 55 KR ?_; clear ha a; intro a ha
                  refine stepo ha 56 KR ?_; clear ha a; intro a ha
                  refine stepo ha 57 KR ?_; clear ha a; intro a ha
                  refine stepo ha 58 KR ?_; clear ha a; intro a ha
                  refine stepp ha 59 (.bool false) KR KR ?_; clear ha a; intro a ha
                  refine stepp ha 0 (.bool false) KR KR ?_; clear ha a; intro a ha
                  refine endl ?_
                  refine thenN (hK1093 _ _ ?_); clear hK1093
                  refine wp_ret ?_
                  obtain rfl := Option.some.inj h
                  exact finv ha _ _ rfl (.tmp (v := .bool false) KR .nil) (.bool false) rfl ⟨rfl, HW.pick [] [] (by decide) (by decide) rfl KR⟩
              · skip
                replace h := ite_neg' h hp1103
                replace ha := ha.bool 48 KR (ieq_f hp1103)
                refine stepo ha 49 KR ?_; clear ha a; intro a ha
                refine stepo ha 50 KR ?_; clear ha a; intro a ha
                refine stepo ha 51 KR ?_; clear ha a; intro a ha
                refine stepp ha 52 (.bool false) KR KR ?_; clear ha a; intro a ha
                refine stepp ha 53 (.bool false) KR KR ?_; clear ha a; intro a ha
                refine stepo ha 54 KR ?_; clear ha a; intro a ha
                refine stepo ha 55 KR ?_; clear ha a; intro a ha
                refine stepo ha 56 KR ?_; clear ha a; intro a ha
                refine stepo ha 57 KR ?_; clear ha a; intro a ha
                refine stepo ha 58 KR ?_; clear ha a; intro a ha
                refine stepp ha 59 (.bool false) KR KR ?_; clear ha a; intro a ha
                refine stepp ha 0 (.bool false) KR KR ?_; clear ha a; intro a ha
                refine endl ?_
                refine thenN (hK1093 _ _ ?_); clear hK1093
                refine wp_ret ?_
                obtain rfl := Option.some.inj h
                exact finv ha _ _ rfl (.tmp (v := .bool false) KR .nil) (.bool false) rfl ⟨rfl, HW.pick [] [] (by decide) (by decide) rfl KR⟩
            · skip
              replace h := ite_neg' h hp1101
              replace ha := ha.bool 43 KR (ieq_f hp1101)
              refine stepo ha 44 KR ?_; clear ha a; intro a ha
              refine stepo ha 45 KR ?_; clear ha a; intro a ha
              refine stepo ha 46 KR ?_; clear ha a; intro a ha
              refine stepp ha 47 (.bool false) KR KR ?_; clear ha a; intro a ha
              refine stepp ha 48 (.bool false) KR KR ?_; clear ha a; intro a ha
              refine stepo ha 49 KR ?_; clear ha a; intro a ha
              refine stepo ha 50 KR ?_; clear ha a; intro a ha
              refine stepo ha 51 KR ?_; clear ha a; intro a ha
              refine stepp ha 52 (.bool false) KR KR ?_; clear ha a; intro a ha
              refine stepp ha 53 (.bool false) KR KR ?_; clear ha a; intro a ha
              refine stepo ha 54 KR ?_; clear ha a; intro a ha
              refine stepo ha 55 KR ?_; clear ha a; intro a ha
              refine stepo ha 56 KR ?_; clear ha a; intro a ha
              refine stepo ha 57 KR ?_; clear ha a; intro a ha
              refine stepo ha 58 KR ?_; clear ha a; intro a ha
              refine stepp ha 59 (.bool false) KR KR ?_; clear ha a; intro a ha
              refine stepp ha 0 (.bool false) KR KR ?_; clear ha a; intro a ha
              refine endl ?_
              refine thenN (hK1093 _ _ ?_); clear hK1093
              refine wp_ret ?_
              obtain rfl := Option.some.inj h
              exact finv ha _ _ rfl (.tmp (v := .bool false) KR .nil) (.bool false) rfl ⟨rfl, HW.pick [] [] (by decide) (by decide) rfl KR⟩
          · skip
            replace h := ite_neg' h hp1099
            replace ha := ha.bool 38 KR (ieq_f hp1099)
            refine stepo ha 39 KR ?_; clear ha a; intro a ha
            refine stepo ha 40 KR ?_; clear ha a; intro a ha
            refine stepo ha 41 KR ?_; clear ha a; intro a ha
            refine stepp ha 42 (.bool false) KR KR ?_; clear ha a; intro a ha
            refine stepp ha 43 (.bool false) KR KR ?_; clear ha a; intro a ha
            refine stepo ha 44 KR ?_; clear ha a; intro a ha
            refine stepo ha 45 KR ?_; clear ha a; intro a ha
            refine stepo ha 46 KR ?_; clear ha a; intro a ha
            refine stepp ha 47 (.bool false) KR KR ?_; clear ha a; intro a ha
            refine stepp ha 48 (.bool false) KR KR ?_; clear ha a; intro a ha
            refine stepo ha 49 KR ?_; clear ha a; intro a ha
            refine stepo ha 50 KR ?_; clear ha a; intro a ha
            refine stepo ha 51 KR ?_; clear ha a; intro a ha
            refine stepp ha 52 (.bool false) KR KR ?_; clear ha a; intro a ha
            refine stepp ha 53 (.bool false) KR KR ?_; clear ha a; intro a ha
            refine stepo ha 54 KR ?_; clear ha a; intro a ha
            refine stepo ha 55 KR ?_; clear ha a; intro a ha
            refine stepo ha 56 KR ?_; clear ha a; intro a ha
            refine stepo ha 57 KR ?_; clear ha a; intro a ha
            refine stepo ha 58 KR ?_; clear ha a; intro a ha
            refine stepp ha 59 (.bool false) KR KR ?_; clear ha a; intro a ha
            refine stepp ha 0 (.bool false) KR KR ?_; clear ha a; intro a ha
            refine endl ?_
            refine thenN (hK1093 _ _ ?_); clear hK1093
            refine wp_ret ?_
            obtain rfl := Option.some.inj h
            exact finv ha _ _ rfl (.tmp (v := .bool false) KR .nil) (.bool false) rfl ⟨rfl, HW.pick [] [] (by decide) (by decide) rfl KR⟩
        · skip
          replace h := ite_neg' h hp1097
          replace ha := ha.bool 33 KR (ieq_f hp1097)
          refine stepo ha 34 KR ?_; clear ha a; intro a ha
          refine stepo ha 35 KR ?_; clear ha a; intro a ha
          refine stepo ha 36 KR ?_; clear ha a; intro a ha
          refine stepp ha 37 (.bool false) KR KR ?_; clear ha a; intro a ha
          refine stepp ha 38 (.bool false) KR KR ?_; clear ha a; intro a ha
          refine stepo ha 39 KR ?_; clear ha a; intro a ha
          refine stepo ha 40 KR ?_; clear ha a; intro a ha
          refine stepo ha 41 KR ?_; clear ha a; intro a ha
          refine stepp ha 42 (.bool false) KR KR ?_; clear ha a; intro a ha
          refine stepp ha 43 (.bool false) KR KR ?_; clear ha a; intro a ha
          refine stepo ha 44 KR ?_; clear ha a; intro a ha
          refine stepo ha 45 KR ?_; clear ha a; intro a ha
          refine stepo ha 46 KR ?_; clear ha a; intro a ha
          refine stepp ha 47 (.bool false) KR KR ?_; clear ha a; intro a ha
          refine stepp ha 48 (.bool false) KR KR ?_; clear ha a; intro a ha
          refine stepo ha 49 KR ?_; clear ha a; intro a ha
          refine stepo ha 50 KR ?_; clear ha a; intro a ha
          refine stepo ha 51 KR ?_; clear ha a; intro a ha
          refine stepp ha 52 (.bool false) KR KR ?_; clear ha a; intro a ha
          refine stepp ha 53 (.bool false) KR KR ?_; clear ha a; intro a ha
          refine stepo ha 54 KR ?_; clear ha a; intro a ha
          refine stepo ha 55 KR ?_; clear ha a; intro a ha
          refine stepo ha 56 KR ?_; clear ha a; intro a ha
          refine stepo ha 57 KR ?_; clear ha a; intro a ha
          refine stepo ha 58 KR ?_; clear ha a; intro a ha
          refine stepp ha 59 (.bool false) KR KR ?_; clear ha a; intro a ha
          refine stepp ha 0 (.bool false) KR KR ?_; clear ha a; intro a ha
          refine endl ?_
          refine thenN (hK1093 _ _ ?_); clear hK1093
          refine wp_ret ?_
          obtain rfl := Option.some.inj h
          exact finv ha _ _ rfl (.tmp (v := .bool false) KR .nil) (.bool false) rfl ⟨rfl, HW.pick [] [] (by decide) (by decide) rfl KR⟩
      · skip
        replace h := ite_neg' h hp1096
        replace ha := ha.bool 28 KR (ieq_f hp1096)
        refine stepo ha 29 KR ?_; clear ha a; intro a ha
        refine stepo ha 30 KR ?_; clear ha a; intro a ha
        refine stepo ha 31 KR ?_; clear ha a; intro a ha
        refine stepp ha 32 (.bool false) KR KR ?_; clear ha a; intro a ha
        refine stepp ha 33 (.bool false) KR KR ?_; clear ha a; intro a ha
        refine stepo ha 34 KR ?_; clear ha a; intro a ha
        refine stepo ha 35 KR ?_; clear ha a; intro a ha
        refine stepo ha 36 KR ?_; clear ha a; intro a ha
        refine stepp ha 37 (.bool false) KR KR ?_; clear ha a; intro a ha
        refine stepp ha 38 (.bool false) KR KR ?_; clear ha a; intro a ha
        refine stepo ha 39 KR ?_; clear ha a; intro a ha
        refine stepo ha 40 KR ?_; clear ha a; intro a ha
        refine stepo ha 41 KR ?_; clear ha a; intro a ha
        refine stepp ha 42 (.bool false) KR KR ?_; clear ha a; intro a ha
        refine stepp ha 43 (.bool false) KR KR ?_; clear ha a; intro a ha
        refine stepo ha 44 KR ?_; clear ha a; intro a ha
        refine stepo ha 45 KR ?_; clear ha a; intro a ha
        refine stepo ha 46 KR ?_; clear ha a; intro a ha
        refine stepp ha 47 (.bool false) KR KR ?_; clear ha a; intro a ha
        refine stepp ha 48 (.bool false) KR KR ?_; clear ha a; intro a ha
        refine stepo ha 49 KR ?_; clear ha a; intro a ha
        refine stepo ha 50 KR ?_; clear ha a; intro a ha
        refine stepo ha 51 KR ?_; clear ha a; intro a ha
        refine stepp ha 52 (.bool false) KR KR ?_; clear ha a; intro a ha
        refine stepp ha 53 (.bool false) KR KR ?_; clear ha a; intro a ha
        refine stepo ha 54 KR ?_; clear ha a; intro a ha
        refine stepo ha 55 KR ?_; clear ha a; intro a ha
        refine stepo ha 56 KR ?_; clear ha a; intro a ha
        refine stepo ha 57 KR ?_; clear ha a; intro a ha
        refine stepo ha 58 KR ?_; clear ha a; intro a ha
        refine stepp ha 59 (.bool false) KR KR ?_; clear ha a; intro a ha
        refine stepp ha 0 (.bool false) KR KR ?_; clear ha a; intro a ha
        refine endl ?_
        refine thenN (hK1093 _ _ ?_); clear hK1093
        refine wp_ret ?_
        obtain rfl := Option.some.inj h
        exact finv ha _ _ rfl (.tmp (v := .bool false) KR .nil) (.bool false) rfl ⟨rfl, HW.pick [] [] (by decide) (by decide) rfl KR⟩
    · skip
      replace h := ite_neg' h hp1095
      replace ha := ha.bool 24 KR (ieq_f hp1095)
      refine stepo ha 25 KR ?_; clear ha a; intro a ha
      refine stepo ha 26 KR ?_; clear ha a; intro a ha
      refine stepp ha 27 (.bool false) KR KR ?_; clear ha a; intro a ha
      refine stepp ha 28 (.bool false) KR KR ?_; clear ha a; intro a ha
      refine stepo ha 29 KR ?_; clear ha a; intro a ha
      refine stepo ha 30 KR ?_; clear ha a; intro a ha
      refine stepo ha 31 KR ?_; clear ha a; intro a ha
      refine stepp ha 32 (.bool false) KR KR ?_; clear ha a; intro a ha
      refine stepp ha 33 (.bool false) KR KR ?_; clear ha a; intro a ha
      refine stepo ha 34 KR ?_; clear ha a; intro a ha
      refine stepo ha 35 KR ?_; clear ha a; intro a ha
      refine stepo ha 36 KR ?_; clear ha a; intro a ha
      refine stepp ha 37 (.bool false) KR KR ?_; clear ha a; intro a ha
      refine stepp ha 38 (.bool false) KR KR ?_; clear ha a; intro a ha
      refine stepo ha 39 KR ?_; clear ha a; intro a ha
      refine stepo ha 40 KR ?_; clear ha a; intro a ha
      refine stepo ha 41 KR ?_; clear ha a; intro a ha
      refine stepp ha 42 (.bool false) KR KR ?_; clear ha a; intro a ha
      refine stepp ha 43 (.bool false) KR KR ?_; clear ha a; intro a ha
      refine stepo ha 44 KR ?_; clear ha a; intro a ha
      refine stepo ha 45 KR ?_; clear ha a; intro a ha
      refine stepo ha 46 KR ?_; clear ha a; intro a ha
      refine stepp ha 47 (.bool false) KR KR ?_; clear ha a; intro a ha
      refine stepp ha 48 (.bool false) KR KR ?_; clear ha a; intro a ha
      refine stepo ha 49 KR ?_; clear ha a; intro a ha
      refine stepo ha 50 KR ?_; clear ha a; intro a ha
      refine stepo ha 51 KR ?_; clear ha a; intro a ha
      refine stepp ha 52 (.bool false) KR KR ?_; clear ha a; intro a ha
      refine stepp ha 53 (.bool false) KR KR ?_; clear ha a; intro a ha
      refine stepo ha 54 KR ?_; clear ha a; intro a ha
      refine stepo ha 55 KR ?_; clear ha a; intro a ha
      refine stepo ha 56 KR ?_; clear ha a; intro a ha
      refine stepo ha 57 KR ?_; clear ha a; intro a ha
      refine stepo ha 58 KR ?_; clear ha a; intro a ha
      refine stepp ha 59 (.bool false) KR KR ?_; clear ha a; intro a ha
      refine stepp ha 0 (.bool false) KR KR ?_; clear ha a; intro a ha
      refine endl ?_
      refine thenN (hK1093 _ _ ?_); clear hK1093
      refine wp_ret ?_
      obtain rfl := Option.some.inj h
      exact finv ha _ _ rfl (.tmp (v := .bool false) KR .nil) (.bool false) rfl ⟨rfl, HW.pick [] [] (by decide) (by decide) rfl KR⟩
  · skip
    replace h := ite_neg' h hp1094
    replace ha := ha.bool 20 KR (ieq_f hp1094)
    refine stepo ha 21 KR ?_; clear ha a; intro a ha
    refine stepo ha 22 KR ?_; clear ha a; intro a ha
    refine stepp ha 23 (.bool false) KR KR ?_; clear ha a; intro a ha
    refine stepp ha 24 (.bool false) KR KR ?_; clear ha a; intro a ha
    refine stepo ha 25 KR ?_; clear ha a; intro a ha
    refine stepo ha 26 KR ?_; clear ha a; intro a ha
    refine stepp ha 27 (.bool false) KR KR ?_; clear ha a; intro a ha
    refine stepp ha 28 (.bool false) KR KR ?_; clear ha a; intro a ha
    refine stepo ha 29 KR ?_; clear ha a; intro a ha
    refine stepo ha 30 KR ?_; clear ha a; intro a ha
    refine stepo ha 31 KR ?_; clear ha a; intro a ha
    refine stepp ha 32 (.bool false) KR KR ?_; clear ha a; intro a ha
    refine stepp ha 33 (.bool false) KR KR ?_; clear ha a; intro a ha
    refine stepo ha 34 KR ?_; clear ha a; intro a ha
    refine stepo ha 35 KR ?_; clear ha a; intro a ha
    refine stepo ha 36 KR ?_; clear ha a; intro a ha
    refine stepp ha 37 (.bool false) KR KR ?_; clear ha a; intro a ha
    refine stepp ha 38 (.bool false) KR KR ?_; clear ha a; intro a ha
    refine stepo ha 39 KR ?_; clear ha a; intro a ha
    refine stepo ha 40 KR ?_; clear ha a; intro a ha
    refine stepo ha 41 KR ?_; clear ha a; intro a ha
    refine stepp ha 42 (.bool false) KR KR ?_; clear ha a; intro a ha
    refine stepp ha 43 (.bool false) KR KR ?_; clear ha a; intro a ha
    refine stepo ha 44 KR ?_; clear ha a; intro a ha
    refine stepo ha 45 KR ?_; clear ha a; intro a ha
    refine stepo ha 46 KR ?_; clear ha a; intro a ha
    refine stepp ha 47 (.bool false) KR KR ?_; clear ha a; intro a ha
    refine stepp ha 48 (.bool false) KR KR ?_; clear ha a; intro a ha
    refine stepo ha 49 KR ?_; clear ha a; intro a ha
    refine stepo ha 50 KR ?_; clear ha a; intro a ha
    refine stepo ha 51 KR ?_; clear ha a; intro a ha
    refine stepp ha 52 (.bool false) KR KR ?_; clear ha a; intro a ha
    refine stepp ha 53 (.bool false) KR KR ?_; clear ha a; intro a ha
    refine stepo ha 54 KR ?_; clear ha a; intro a ha
    refine stepo ha 55 KR ?_; clear ha a; intro a ha
    refine stepo ha 56 KR ?_; clear ha a; intro a ha
    refine stepo ha 57 KR ?_; clear ha a; intro a ha
    refine stepo ha 58 KR ?_; clear ha a; intro a ha
    refine stepp ha 59 (.bool false) KR KR ?_; clear ha a; intro a ha
    refine stepp ha 0 (.bool false) KR KR ?_; clear ha a; intro a ha
    refine endl ?_
    refine thenN (hK1093 _ _ ?_); clear hK1093
    refine wp_ret ?_
    obtain rfl := Option.some.inj h
    exact finv ha _ _ rfl (.tmp (v := .bool false) KR .nil) (.bool false) rfl ⟨rfl, HW.pick [] [] (by decide) (by decide) rfl KR⟩
/-! ### headgate/prout.Holder: function 12 -/
def prout_Holder.j0 (K : Nat) (t1134 : ByteArray) (t1140 : Int) (x1236 : Int) : Option ByteArray :=
  (fields_PutBig.f K 16 4).bind fun t1240 => (asrt (t1134.size + t1240.size ≤ 9223372036854775807) ((prout_key.f K x1236).bind fun t1245 => (asrt ((t1134 ++ t1240).size + t1245.size ≤ 9223372036854775807) ((fields_PutBig.f K 0 4).bind fun t1250 => (asrt (((t1134 ++ t1240) ++ t1245).size + t1250.size ≤ 9223372036854775807) (asrt ((((t1134 ++ t1240) ++ t1245) ++ t1250).size + (strOfNums ([0, IntKind.wrap .u8 t1140, 0, 0] : List Int)).size ≤ 9223372036854775807) (some ((((t1134 ++ t1240) ++ t1245) ++ t1250) ++ (strOfNums ([0, IntKind.wrap .u8 t1140, 0, 0] : List Int))))))))))
def prout_Holder.b0 (K : Nat) (a1 : T_api_Hold) (a2 : List T_api_Reg) (t1134 : ByteArray) (t1140 : Int) (again1209 : Int → Option ByteArray) (x1210 : Int) : Option ByteArray :=
  if x1210 < (a2.length : Int) then (asrt (0 ≤ x1210) (if ((rdL T_api_Reg.z a2 x1210).f0) = a1.f1 then (if a1.f1 = (⟨#[]⟩ : ByteArray) then (again1209 (IntKind.wrap .i64 (x1210 + 1))) else (prout_Holder.j0 K t1134 t1140 ((rdL T_api_Reg.z a2 x1210).f1))) else (again1209 (IntKind.wrap .i64 (x1210 + 1))))) else (prout_Holder.j0 K t1134 t1140 0)
def prout_Holder.l0 (K : Nat) (a1 : T_api_Hold) (a2 : List T_api_Reg) (t1134 : ByteArray) (t1140 : Int) : Nat → Int → Option ByteArray
  | 0, _ => none
  | k_ + 1, x1210 => prout_Holder.b0 K a1 a2 t1134 t1140 (prout_Holder.l0 K a1 a2 t1134 t1140 k_) x1210
def prout_Holder.f (K : Nat) (a0 : Int) (a1 : T_api_Hold) (a2 : List T_api_Reg) : Option ByteArray :=
  (fields_PutBig.f K (IntKind.wrap .u64 a0) 4).bind fun t1134 => ((cdb_Number.f a1.f0).bind fun t1140 => (if t1140 = 0 then ((fields_PutBig.f K 0 4).bind fun t1151 => (asrt (t1134.size + t1151.size ≤ 9223372036854775807) (some (t1134 ++ t1151)))) else (prout_Holder.l0 K a1 a2 t1134 t1140 K 0)))
set_option maxRecDepth 100000 in
set_option maxHeartbeats 4000000 in
theorem prout_Holder.calls (K : Nat) (a0 : Int) (a1 : T_api_Hold) (a2 : List T_api_Reg) (A2_0 : Option Addr) (c2_0 : Nat) (r : ByteArray) (w : World) (hG0 : CA w 0 0 (encs (encI .i64) G_cdb_numbers).toArray) (hr2_0 : Rd 2 w (.slice A2_0 a2.length c2_0) a2.length (encs T_api_Reg.enc a2)) (h : prout_Holder.f K a0 a1 a2 = some r) :
    Calls Tryd.prog 12 #[.int .u32 a0, .agg #[.int .i64 a1.f0, .string a1.f1], .slice A2_0 a2.length c2_0] w (fun e W' => e = .returned (.string r) ∧ Wd w W' [] [] ) := by
  refine sxstart (n := 55) (l := [(0, .int .u32 a0), (1, .agg #[.int .i64 a1.f0, .string a1.f1]), (2, .slice A2_0 a2.length c2_0)]) Tryd.func12 rfl rfl (Nat.le_of_ble_eq_true KR) (subsA_cons rfl (subsA_cons rfl (subsA_cons rfl (subsA_nil _)))) ?_
  intro a ha
  have HW := Wd.refl w
  unfold prout_Holder.f at h
  refine wp_seq_k (fun K1128 hK1129 => ?_)
  refine wp_region_lit ?_
  refine stepnew ha HW 4 #[.int .i64 a1.f0, .string a1.f1] 24 KR KR ?_; clear ha HW a; intro b1130 a W1131 HW ha
  refine stepp ha 6 (.string (⟨#[]⟩ : ByteArray)) KR KR ?_; clear ha a; intro a ha
  refine endl ?_
  refine thenN (hK1129 _ _ ?_); clear hK1129
  refine wp_seq_k (fun K1132 hK1133 => ?_)
  refine wp_region_lit ?_
  refine stepp ha 12 (.int .u32 a0) KR KR ?_; clear ha a; intro a ha
  refine stepp ha 13 (.int .u64 (IntKind.wrap .u64 a0)) KR KR ?_; clear ha a; intro a ha
  obtain ⟨t1134, ht1135, h_⟩ := bind_some' h; clear h; have h := h_; clear h_
  refine stepc ha 14 KR KR (fields_PutBig.calls K (IntKind.wrap .u64 a0) 4 t1134 _ ht1135) ?_; clear ha a; rintro e W1136 ⟨rfl, HX1137⟩
  refine ⟨_, rfl, ?_⟩; intro a ha; replace HW := HW.callw HX1137; clear HX1137
  refine stepp ha 7 (.string t1134) KR KR ?_; clear ha a; intro a ha
  refine endl ?_
  refine thenN (hK1133 _ _ ?_); clear hK1133
  refine wp_seq_k (fun K1138 hK1139 => ?_)
  refine wp_region_lit ?_
  refine stepp ha 15 (.pointer (some ⟨b1130, 0, none⟩)) KR KR ?_; clear ha a; intro a ha
  refine stepl ha 16 (HW.ca (i := 0) (b := b1130) (C := #[.int .i64 a1.f0, .string a1.f1]) (T := 24) (fr := (0, 0)) KR) 3 0 (.tmp 15) (.int .i64 a1.f0) rfl KR KR KR ?_; clear ha a; intro a ha
  obtain ⟨t1140, ht1141, h_⟩ := bind_some' h; clear h; have h := h_; clear h_
  refine stepc ha 17 KR KR (cdb_Number.calls a1.f0 t1140 _ (HW.ca0 hG0) ht1141) ?_; clear ha a; rintro e W1142 ⟨rfl, HX1143⟩
  refine ⟨_, rfl, ?_⟩; intro a ha; replace HW := HW.callw HX1143; clear HX1143
  refine stepp ha 8 (.int .i64 t1140) KR KR ?_; clear ha a; intro a ha
  refine endl ?_
  refine thenN (hK1139 _ _ ?_); clear hK1139
  refine wp_seq_k (fun K1144 hK1145 => ?_)
  refine wp_seq_k (fun K1146 hK1147 => ?_)
  refine wp_region_lit ?_
  refine stepp ha 18 (.int .i64 t1140) KR KR ?_; clear ha a; intro a ha
  refine stepp ha 19 (.bool (t1140 == 0)) KR KR ?_; clear ha a; intro a ha
  refine endl ?_
  refine thenN (hK1147 _ _ ?_); clear hK1147
  by_cases hp1148 : t1140 = 0
  · skip
    replace h := ite_pos' h hp1148
    refine condT ha KR KR (t := (t1140 == 0)) (ieq_t hp1148) ?_
    refine wp_seq_k (fun K1149 hK1150 => ?_)
    refine wp_region_lit ?_
    refine stepp ha 20 (.string t1134) KR KR ?_; clear ha a; intro a ha
    obtain ⟨t1151, ht1152, h_⟩ := bind_some' h; clear h; have h := h_; clear h_
    refine stepc ha 21 KR KR (fields_PutBig.calls K 0 4 t1151 _ ht1152) ?_; clear ha a; rintro e W1153 ⟨rfl, HX1154⟩
    refine ⟨_, rfl, ?_⟩; intro a ha; replace HW := HW.callw HX1154; clear HX1154
    obtain ⟨hA1155, h_⟩ := asrt_some h; clear h; have h := h_; clear h_
    refine stepsa ha 22 9 9 (.tmp 20) (.tmp 21) t1134 t1151 rfl KR KR (show (t1134).size + (t1151).size ≤ 9223372036854775807 from hA1155) KR ?_; clear ha a; intro a ha
    refine stepp ha 6 (.string (t1134 ++ t1151)) KR KR ?_; clear ha a; intro a ha
    refine endl ?_
    refine thenN (hK1150 _ _ ?_); clear hK1150
    refine wp_ret ?_
    refine thenR ?_
    obtain rfl := Option.some.inj h
    exact finv ha _ _ rfl (.tmp (v := .string (t1134 ++ t1151)) KR .nil) (.string (t1134 ++ t1151)) rfl ⟨rfl, HW.pick [] [] (by decide) (by decide) rfl KR⟩
  · skip
    replace h := ite_neg' h hp1148
    refine condF ha KR KR (t := (t1140 == 0)) (ieq_f hp1148) ?_
    refine wp_skip ?_
    refine thenN (hK1145 _ _ ?_); clear hK1145
    refine wp_seq_k (fun K1156 hK1157 => ?_)
    refine wp_region_lit ?_
    refine stepp ha 9 (.int .u64 0) KR KR ?_; clear ha a; intro a ha
    refine endl ?_
    refine thenN (hK1157 _ _ ?_); clear hK1157
    refine wp_seq_k (fun K1158 hK1159 => ?_)
    refine cutn (fun a W1237 => ∃ (x1236 : Int), prout_Holder.j0 K t1134 t1140 x1236 = some r ∧ Has 55 [(7, .string t1134), (8, .int .i64 t1140), (9, .int .u64 x1236)] a ∧ Wd w W1237 [] []) ?_ ?_
    · skip
      refine wp_seq_k (fun K1160 hK1161 => ?_)
      refine wp_region_lit ?_
      refine stepp ha 23 (.slice A2_0 a2.length c2_0) KR KR ?_; clear ha a; intro a ha
      refine stepp ha 24 (.int .i64 (a2.length : Int)) KR KR ?_; clear ha a; intro a ha
      refine stepp ha 25 (.int .i64 0) KR KR ?_; clear ha a; intro a ha
      refine endl ?_
      refine thenN (hK1161 _ _ ?_); clear hK1161
      refine wp_block ?_
      refine loopk (fun k => fun a W1211 => ∃ (x1210 : Int), prout_Holder.l0 K a1 a2 t1134 t1140 k x1210 = some r ∧ Has 55 [(4, .pointer (some ⟨b1130, 0, none⟩)), (7, .string t1134), (8, .int .i64 t1140), (9, .int .u64 0), (23, .slice A2_0 a2.length c2_0), (24, .int .i64 (a2.length : Int)), (25, .int .i64 x1210)] a ∧ Wd w W1211 [(b1130, .cells #[.int .i64 a1.f0, .string a1.f1] 24 (0, 0))] []) K ?_ ?_
      · skip
        exact ⟨0, h, ha.sub (subs_cons KR (subs_cons KR (subs_cons KR (subs_cons KR (subs_cons KR (subs_cons KR (subs_cons KR (subs_nil _)))))))), HW.pick [0] [] (by decide) (by decide) KR KR⟩
      · skip
        intro k a W1211 hI
        obtain ⟨x1210, h, ha, HW⟩ := hI
        cases k with
        | zero => exact (none_some (show none = some r from h)).elim
        | succ k1212 =>
          replace h : prout_Holder.b0 K a1 a2 t1134 t1140 (prout_Holder.l0 K a1 a2 t1134 t1140 k1212) x1210 = some r := h
          obtain ⟨again1209, hag1213⟩ : ∃ g_, g_ = prout_Holder.l0 K a1 a2 t1134 t1140 k1212 := ⟨_, rfl⟩
          rw [← hag1213] at h
          unfold prout_Holder.b0 at h
          refine wp_seq_k (fun K1214 hK1215 => ?_)
          refine wp_region_lit ?_
          refine stepp ha 26 (.bool (decide (x1210 < (a2.length : Int)))) KR KR ?_; clear ha a; intro a ha
          refine endl ?_
          refine thenN (hK1215 _ _ ?_); clear hK1215
          refine wp_seq_k (fun K1216 hK1217 => ?_)
          by_cases hp1218 : x1210 < (a2.length : Int)
          · skip
            replace h := ite_pos' h hp1218
            refine condT ha KR KR (t := decide (x1210 < (a2.length : Int))) (decide_eq_true hp1218) ?_
            refine wp_skip ?_
            refine thenN (hK1217 _ _ ?_); clear hK1217
            refine wp_seq_k (fun K1219 hK1220 => ?_)
            refine wp_block ?_
            refine wp_seq_k (fun K1221 hK1222 => ?_)
            refine wp_region_lit ?_
            obtain ⟨hA1223, h_⟩ := asrt_some h; clear h; have h := h_; clear h_
            refine stepie T_api_Reg.enc T_api_Reg.z ha 27 (fun _ => rfl) (v := .slice A2_0 a2.length c2_0) (xs := a2) ((HW.rd0 hr2_0)) 22 36 (.tmp 23) (.tmp 25) .i64 x1210 rfl KR KR KR KR hA1223 (show (x1210 : Int) < ((a2).length : Int) from hp1218) KR ?_; clear ha a; intro b1224 off1225 a hC1226 ha
            refine stepl ha 28 hC1226 36 0 (.tmp 27) (.agg #[.string ((rdL T_api_Reg.z a2 x1210).f0), .int .u64 ((rdL T_api_Reg.z a2 x1210).f1)]) rfl KR KR KR ?_; clear ha a; intro a ha
            refine stepnew ha HW 11 #[.string (⟨#[]⟩ : ByteArray), .int .u64 0] 36 KR KR ?_; clear ha HW a; intro b1227 a W1228 HW ha
            refine stepst ha HW 0 (b := b1227) (C := #[.string (⟨#[]⟩ : ByteArray), .int .u64 0]) (T := 36) KR 36 0 (.tmp 11) (.tmp 28) (.agg #[.string ((rdL T_api_Reg.z a2 x1210).f0), .int .u64 ((rdL T_api_Reg.z a2 x1210).f1)]) #[.string ((rdL T_api_Reg.z a2 x1210).f0), .int .u64 ((rdL T_api_Reg.z a2 x1210).f1)] rfl KR KR KR KR KR KR KR ?_; clear ha HW a; intro a W1229 HW ha
            refine endl ?_
            refine thenN (hK1222 _ _ ?_); clear hK1222
            refine wp_seq_k (fun K1230 hK1231 => ?_)
            refine wp_region_lit ?_
            refine stepp ha 29 (.pointer (some ⟨b1227, 0, none⟩)) KR KR ?_; clear ha a; intro a ha
            refine stepl ha 30 (HW.ca (i := 0) (b := b1227) (C := #[.string ((rdL T_api_Reg.z a2 x1210).f0), .int .u64 ((rdL T_api_Reg.z a2 x1210).f1)]) (T := 36) (fr := (0, 0)) KR) 9 0 (.tmp 29) (.string ((rdL T_api_Reg.z a2 x1210).f0)) rfl KR KR KR ?_; clear ha a; intro a ha
            refine stepp ha 31 (.pointer (some ⟨b1130, 1, none⟩)) KR KR ?_; clear ha a; intro a ha
            refine stepl ha 32 (HW.ca (i := 1) (b := b1130) (C := #[.int .i64 a1.f0, .string a1.f1]) (T := 24) (fr := (0, 0)) KR) 9 1 (.tmp 31) (.string a1.f1) rfl KR KR KR ?_; clear ha a; intro a ha
            refine stepp ha 33 (.bool (((rdL T_api_Reg.z a2 x1210).f0).toList == a1.f1.toList)) KR KR ?_; clear ha a; intro a ha
            refine stepp ha 34 (.bool (((rdL T_api_Reg.z a2 x1210).f0).toList == a1.f1.toList)) KR KR ?_; clear ha a; intro a ha
            by_cases hp1232 : ((rdL T_api_Reg.z a2 x1210).f0) = a1.f1
            · skip
              replace h := ite_pos' h hp1232
              replace ha := ha.bool 34 KR (str_eq_t hp1232)
              refine stepp ha 35 (.pointer (some ⟨b1130, 1, none⟩)) KR KR ?_; clear ha a; intro a ha
              refine stepl ha 36 (HW.ca (i := 1) (b := b1130) (C := #[.int .i64 a1.f0, .string a1.f1]) (T := 24) (fr := (0, 0)) KR) 9 1 (.tmp 35) (.string a1.f1) rfl KR KR KR ?_; clear ha a; intro a ha
              refine stepp ha 37 (.bool (!(a1.f1.toList == (⟨#[]⟩ : ByteArray).toList))) KR KR ?_; clear ha a; intro a ha
              refine stepp ha 38 (.bool (!(a1.f1.toList == (⟨#[]⟩ : ByteArray).toList))) KR KR ?_; clear ha a; intro a ha
              refine endl ?_
              refine thenN (hK1231 _ _ ?_); clear hK1231
              by_cases hp1233 : a1.f1 = (⟨#[]⟩ : ByteArray)
              · skip
                replace h := ite_pos' h hp1233
                refine condF ha KR KR (t := (!(a1.f1.toList == (⟨#[]⟩ : ByteArray).toList))) (str_ne_f hp1233) ?_
                refine wp_skip ?_
                refine blkN ?_
                refine thenN (hK1220 _ _ ?_); clear hK1220
                refine wp_region_lit ?_
                refine stepp ha 41 (.int .i64 (IntKind.wrap .i64 (x1210 + 1))) KR KR ?_; clear ha a; intro a ha
                refine stepp ha 25 (.int .i64 (IntKind.wrap .i64 (x1210 + 1))) KR KR ?_; clear ha a; intro a ha
                refine endl ?_
                exact thenN ⟨k1212, Nat.lt_succ_self k1212, IntKind.wrap .i64 (x1210 + 1), (by rw [← hag1213]; exact h), ha.sub (subs_cons KR (subs_cons KR (subs_cons KR (subs_cons KR (subs_cons KR (subs_cons KR (subs_cons KR (subs_nil _)))))))), HW.pick [1] [] (by decide) (by decide) KR KR⟩
              · skip
                replace h := ite_neg' h hp1233
                refine condT ha KR KR (t := (!(a1.f1.toList == (⟨#[]⟩ : ByteArray).toList))) (str_ne_t hp1233) ?_
                refine wp_seq_k (fun K1234 hK1235 => ?_)
                refine wp_region_lit ?_
                refine stepp ha 39 (.pointer (some ⟨b1227, 1, none⟩)) KR KR ?_; clear ha a; intro a ha
                refine stepl ha 40 (HW.ca (i := 0) (b := b1227) (C := #[.string ((rdL T_api_Reg.z a2 x1210).f0), .int .u64 ((rdL T_api_Reg.z a2 x1210).f1)]) (T := 36) (fr := (0, 0)) KR) 32 1 (.tmp 39) (.int .u64 ((rdL T_api_Reg.z a2 x1210).f1)) rfl KR KR KR ?_; clear ha a; intro a ha
                refine stepp ha 9 (.int .u64 ((rdL T_api_Reg.z a2 x1210).f1)) KR KR ?_; clear ha a; intro a ha
                refine endl ?_
                refine thenN (hK1235 _ _ ?_); clear hK1235
                refine wp_exit ?_
                refine inBlkNe rfl ?_
                refine thenE ?_
                refine thenE ?_
                refine inBlk ?_
                exact thenN ⟨(rdL T_api_Reg.z a2 x1210).f1, h, ha.sub (subs_cons KR (subs_cons KR (subs_cons KR (subs_nil _)))), HW.pick [] [] (by decide) (by decide) KR KR⟩
            · skip
              replace h := ite_neg' h hp1232
              replace ha := ha.bool 34 KR (str_eq_f hp1232)
              refine stepo ha 35 KR ?_; clear ha a; intro a ha
              refine stepo ha 36 KR ?_; clear ha a; intro a ha
              refine stepo ha 37 KR ?_; clear ha a; intro a ha
              refine stepp ha 38 (.bool false) KR KR ?_; clear ha a; intro a ha
              refine endl ?_
              refine thenN (hK1231 _ _ ?_); clear hK1231
              refine condF ha KR KR (t := false) (rfl) ?_
              refine wp_skip ?_
              refine blkN ?_
              refine thenN (hK1220 _ _ ?_); clear hK1220
              refine wp_region_lit ?_
              refine stepp ha 41 (.int .i64 (IntKind.wrap .i64 (x1210 + 1))) KR KR ?_; clear ha a; intro a ha
              refine stepp ha 25 (.int .i64 (IntKind.wrap .i64 (x1210 + 1))) KR KR ?_; clear ha a; intro a ha
              refine endl ?_
              exact thenN ⟨k1212, Nat.lt_succ_self k1212, IntKind.wrap .i64 (x1210 + 1), (by rw [← hag1213]; exact h), ha.sub (subs_cons KR (subs_cons KR (subs_cons KR (subs_cons KR (subs_cons KR (subs_cons KR (subs_cons KR (subs_nil _)))))))), HW.pick [1] [] (by decide) (by decide) KR KR⟩
          · skip
            replace h := ite_neg' h hp1218
            refine condF ha KR KR (t := decide (x1210 < (a2.length : Int))) (decide_eq_false hp1218) ?_
            refine wp_exit ?_
            refine thenE ?_
            refine thenE ?_
            refine inBlk ?_
            exact thenN ⟨0, h, ha.sub (subs_cons KR (subs_cons KR (subs_cons KR (subs_nil _)))), HW.pick [] [] (by decide) (by decide) KR KR⟩
    · skip
      intro a W1237 hJ
      obtain ⟨x1236, h, ha, HW⟩ := hJ
      replace h : prout_Holder.j0 K t1134 t1140 x1236 = some r := h
      unfold prout_Holder.j0 at h
      refine hK1159 _ _ ?_; clear hK1159
      refine wp_seq_k (fun K1238 hK1239 => ?_)
      obtain ⟨t1240, ht1241, h_⟩ := bind_some' h; clear h; have h := h_; clear h_
      obtain ⟨hA1244, h_⟩ := asrt_some h; clear h; have h := h_; clear h_
      obtain ⟨t1245, ht1246, h_⟩ := bind_some' h; clear h; have h := h_; clear h_
      obtain ⟨hA1249, h_⟩ := asrt_some h; clear h; have h := h_; clear h_
      obtain ⟨t1250, ht1251, h_⟩ := bind_some' h; clear h; have h := h_; clear h_
      obtain ⟨hA1254, h_⟩ := asrt_some h; clear h; have h := h_; clear h_
      obtain ⟨hA1259, h_⟩ := asrt_some h; clear h; have h := h_; clear h_
      refine regionG 13 KR KR ha HW [.fix (.string t1134), .fix (.string t1240), .fix (.string (t1134 ++ t1240)), .fix (.int .u64 x1236), .fix (.string t1245), .fix (.string ((t1134 ++ t1240) ++ t1245)), .fix (.string t1250), .fix (.string (((t1134 ++ t1240) ++ t1245) ++ t1250)), .fix (.int .i64 t1140), .fix (.int .u8 (IntKind.wrap .u8 t1140)), .lit w 5 ([0, IntKind.wrap .u8 t1140, 0, 0] : List Int).length #[.int .u8 0, .int .u8 (IntKind.wrap .u8 t1140), .int .u8 0, .int .u8 0] [] [], .fix (.string (strOfNums ([0, IntKind.wrap .u8 t1140, 0, 0] : List Int))), .fix (.string ((((t1134 ++ t1240) ++ t1245) ++ t1250) ++ (strOfNums ([0, IntKind.wrap .u8 t1140, 0, 0] : List Int))))] ?_ ?_
      · skip
        refine ⟨?_, ?_, ?_, ?_, ?_, ?_, ?_, ?_, ?_, ?_, ?_, ?_, ?_, trivial⟩
        · skip
          intro a wr hn hd HW hs; have ha := hasNil hn hd
          have ha := ha.add (seeE hs 7 (.string t1134) KR KR)
          refine yStep ha 42 KR ?_; intro l_ ha HK
          refine stepp ha 42 (.string t1134) KR KR ?_; intro ax hax; exact HK _ _ _ hax rfl (Below.refl _ _)
        · skip
          intro a wr hn hd HW hs; have ha := hasNil hn hd
          refine yStep ha 43 KR ?_; intro l_ ha HK
          refine stepc ha 43 KR KR (fields_PutBig.calls K 16 4 t1240 _ ht1241) ?_; rintro e W1242 ⟨rfl, HX1243⟩
          refine ⟨_, rfl, ?_⟩; intro ax hax; exact HK _ _ _ hax rfl HX1243.below
        · skip
          intro a wr hn hd HW hs; have ha := hasNil hn hd
          have ha := ha.add (seeF hs 42 0 (.string t1134) KR KR)
          have ha := ha.add (seeF hs 43 1 (.string t1240) KR KR)
          refine yStep ha 44 KR ?_; intro l_ ha HK
          refine stepsa ha 44 9 9 (.tmp 42) (.tmp 43) t1134 t1240 rfl KR KR (show (t1134).size + (t1240).size ≤ 9223372036854775807 from hA1244) KR ?_; intro ax hax; exact HK _ _ _ hax rfl (Below.refl _ _)
        · skip
          intro a wr hn hd HW hs; have ha := hasNil hn hd
          have ha := ha.add (seeE hs 9 (.int .u64 x1236) KR KR)
          refine yStep ha 45 KR ?_; intro l_ ha HK
          refine stepp ha 45 (.int .u64 x1236) KR KR ?_; intro ax hax; exact HK _ _ _ hax rfl (Below.refl _ _)
        · skip
          intro a wr hn hd HW hs; have ha := hasNil hn hd
          have ha := ha.add (seeF hs 45 3 (.int .u64 x1236) KR KR)
          refine yStep ha 46 KR ?_; intro l_ ha HK
          refine stepc ha 46 KR KR (prout_key.calls K x1236 t1245 _ ht1246) ?_; rintro e W1247 ⟨rfl, HX1248⟩
          refine ⟨_, rfl, ?_⟩; intro ax hax; exact HK _ _ _ hax rfl HX1248.below
        · skip
          intro a wr hn hd HW hs; have ha := hasNil hn hd
          have ha := ha.add (seeF hs 44 2 (.string (t1134 ++ t1240)) KR KR)
          have ha := ha.add (seeF hs 46 4 (.string t1245) KR KR)
          refine yStep ha 47 KR ?_; intro l_ ha HK
          refine stepsa ha 47 9 9 (.tmp 44) (.tmp 46) (t1134 ++ t1240) t1245 rfl KR KR (show (t1134 ++ t1240).size + (t1245).size ≤ 9223372036854775807 from hA1249) KR ?_; intro ax hax; exact HK _ _ _ hax rfl (Below.refl _ _)
        · skip
          intro a wr hn hd HW hs; have ha := hasNil hn hd
          refine yStep ha 48 KR ?_; intro l_ ha HK
          refine stepc ha 48 KR KR (fields_PutBig.calls K 0 4 t1250 _ ht1251) ?_; rintro e W1252 ⟨rfl, HX1253⟩
          refine ⟨_, rfl, ?_⟩; intro ax hax; exact HK _ _ _ hax rfl HX1253.below
        · skip
          intro a wr hn hd HW hs; have ha := hasNil hn hd
          have ha := ha.add (seeF hs 47 5 (.string ((t1134 ++ t1240) ++ t1245)) KR KR)
          have ha := ha.add (seeF hs 48 6 (.string t1250) KR KR)
          refine yStep ha 49 KR ?_; intro l_ ha HK
          refine stepsa ha 49 9 9 (.tmp 47) (.tmp 48) ((t1134 ++ t1240) ++ t1245) t1250 rfl KR KR (show ((t1134 ++ t1240) ++ t1245).size + (t1250).size ≤ 9223372036854775807 from hA1254) KR ?_; intro ax hax; exact HK _ _ _ hax rfl (Below.refl _ _)
        · skip
          intro a wr hn hd HW hs; have ha := hasNil hn hd
          have ha := ha.add (seeE hs 8 (.int .i64 t1140) KR KR)
          refine yStep ha 50 KR ?_; intro l_ ha HK
          refine stepp ha 50 (.int .i64 t1140) KR KR ?_; intro ax hax; exact HK _ _ _ hax rfl (Below.refl _ _)
        · skip
          intro a wr hn hd HW hs; have ha := hasNil hn hd
          have ha := ha.add (seeF hs 50 8 (.int .i64 t1140) KR KR)
          refine yStep ha 51 KR ?_; intro l_ ha HK
          refine stepp ha 51 (.int .u8 (IntKind.wrap .u8 t1140)) KR KR ?_; intro ax hax; exact HK _ _ _ hax rfl (Below.refl _ _)
        · skip
          intro a wr hn hd HW hs; have ha := hasNil hn hd
          have ha := ha.add (seeF hs 51 9 (.int .u8 (IntKind.wrap .u8 t1140)) KR KR)
          refine yStep ha 52 KR ?_; intro l_ ha HK
          refine stepbk ha (Wd.refl wr) 52 5 4 #[.int .u8 0, .int .u8 (IntKind.wrap .u8 t1140), .int .u8 0, .int .u8 0] KR KR ?_; intro b1255 ax W1256 HV hax
          exact HK _ _ _ hax ⟨b1255, rfl, HW.callw HV⟩ HV.below
        · skip
          intro a wr hn hd HW hs; have ha := hasNil hn hd
          obtain ⟨b1255, he_, hR1258⟩ := seeL (enc := (encI .u8)) hs 52 10 1 5 #[.int .u8 0, .int .u8 (IntKind.wrap .u8 t1140), .int .u8 0, .int .u8 0] ([0, IntKind.wrap .u8 t1140, 0, 0] : List Int) (w1 := w) (bs1 := []) (os1 := []) KR KR (fun _ => rfl) rfl; have ha := ha.add he_
          refine yStep ha 53 KR ?_; intro l_ ha HK
          refine stepbt ha 53 56 9 5 (.tmp 52) (v := .slice (some ⟨b1255, 0, none⟩) ([0, IntKind.wrap .u8 t1140, 0, 0] : List Int).length (([0, IntKind.wrap .u8 t1140, 0, 0] : List Int).length)) (xs := ([0, IntKind.wrap .u8 t1140, 0, 0] : List Int)) hR1258 rfl KR KR KR KR KR ?_; intro ax hax; exact HK _ _ _ hax rfl (Below.refl _ _)
        · skip
          intro a wr hn hd HW hs; have ha := hasNil hn hd
          have ha := ha.add (seeF hs 49 7 (.string (((t1134 ++ t1240) ++ t1245) ++ t1250)) KR KR)
          have ha := ha.add (seeF hs 53 11 (.string (strOfNums ([0, IntKind.wrap .u8 t1140, 0, 0] : List Int))) KR KR)
          refine yStep ha 54 KR ?_; intro l_ ha HK
          refine stepsa ha 54 9 9 (.tmp 49) (.tmp 53) (((t1134 ++ t1240) ++ t1245) ++ t1250) (strOfNums ([0, IntKind.wrap .u8 t1140, 0, 0] : List Int)) rfl KR KR (show (((t1134 ++ t1240) ++ t1245) ++ t1250).size + (strOfNums ([0, IntKind.wrap .u8 t1140, 0, 0] : List Int)).size ≤ 9223372036854775807 from hA1259) KR ?_; intro ax hax; exact HK _ _ _ hax rfl (Below.refl _ _)
      · skip
        intro a W1260 ha HW he hf
        replace ha := ha.add (gotF (m := 13) (j := 12) (d := 54) (v := .string ((((t1134 ++ t1240) ++ t1245) ++ t1250) ++ (strOfNums ([0, IntKind.wrap .u8 t1140, 0, 0] : List Int)))) hf KR KR KR)
        clear he hf
        refine stepp ha 6 (.string ((((t1134 ++ t1240) ++ t1245) ++ t1250) ++ (strOfNums ([0, IntKind.wrap .u8 t1140, 0, 0] : List Int)))) KR KR ?_; clear ha a; intro a ha
        refine endl ?_
        refine thenN (hK1239 _ _ ?_); clear hK1239
        refine wp_ret ?_
        obtain rfl := Option.some.inj h
        exact finv ha _ _ rfl (.tmp (v := .string ((((t1134 ++ t1240) ++ t1245) ++ t1250) ++ (strOfNums ([0, IntKind.wrap .u8 t1140, 0, 0] : List Int)))) KR .nil) (.string ((((t1134 ++ t1240) ++ t1245) ++ t1250) ++ (strOfNums ([0, IntKind.wrap .u8 t1140, 0, 0] : List Int)))) rfl ⟨rfl, HW.pick [] [] (by decide) (by decide) rfl KR⟩
end Go.Proofs.YtpjcipadjegmlaaDoor.F
