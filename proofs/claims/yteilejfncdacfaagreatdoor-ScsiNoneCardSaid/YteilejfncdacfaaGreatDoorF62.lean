/- headgate/headgateref15.Parse, headgate/headgateref19.Need: plain functions, and that the calls come to what they say. No condition. -/
import Derived.Test.YteilejfncdacfaaGreatDoorFT
import Derived.Test.YteilejfncdacfaaGreatDoorF82
namespace Go.Proofs.YteilejfncdacfaaGreatDoor.F
open Go Go.RowKit Go.Proofs.YteilejfncdacfaaGreatDoor.X
set_option linter.unusedVariables false
set_option linter.unusedSimpArgs false
/-! ### headgate/headgateref15.Parse: function 62 -/
def headgateref15_Parse.j5 (K : Nat) (a0 : ByteArray) (x7047 : Int) (x7048 : Int) (x7049 : Bool) (x7050 : Int) (x7051 : Int) : Option (T_headgateref15_Ask × Int) :=
  if (bt a0 0) ≥ 136 then (if (bt a0 0) ≤ 147 then (if x7047 ≥ 2147483648 then (some ((⟨0, 0, 0, false, 0, 0, 0⟩ : T_headgateref15_Ask), 150)) else (if x7048 ≥ 2147483648 then (some ((⟨0, 0, 0, false, 0, 0, 0⟩ : T_headgateref15_Ask), 150)) else (some ((⟨IntKind.wrap .i64 (bt a0 0), x7047, x7048, x7049, x7050, x7051, 0⟩ : T_headgateref15_Ask), 0)))) else (some ((⟨IntKind.wrap .i64 (bt a0 0), x7047, x7048, x7049, x7050, x7051, 0⟩ : T_headgateref15_Ask), 0))) else (some ((⟨IntKind.wrap .i64 (bt a0 0), x7047, x7048, x7049, x7050, x7051, 0⟩ : T_headgateref15_Ask), 0))
def headgateref15_Parse.j0 (K : Nat) (a0 : ByteArray) (x6935 : Int) : Option (T_headgateref15_Ask × Int) :=
  (headgateref15_num.f K a0 3 2).bind fun t6937 => (headgateref15_Parse.j5 K a0 0 0 false x6935 t6937)
def headgateref15_Parse.j3 (K : Nat) (a0 : ByteArray) (t6979 : Int) (t6983 : Int) (x6995 : Bool) : Option (T_headgateref15_Ask × Int) :=
  if (bt a0 0) = 147 then (asrt (1 < (a0.size : Int)) (if (Int.tmod (bt a0 1) 2) = 0 then (some ((⟨0, 0, 0, false, 0, 0, 0⟩ : T_headgateref15_Ask), 150)) else (headgateref15_Parse.j5 K a0 t6979 t6983 x6995 0 0))) else (headgateref15_Parse.j5 K a0 t6979 t6983 x6995 0 0)
def headgateref15_Parse.j4 (K : Nat) (a0 : ByteArray) (x7037 : Bool) : Option (T_headgateref15_Ask × Int) :=
  if x7037 = true then ((headgateref15_reservation.f K a0 (⟨IntKind.wrap .i64 (bt a0 0), 0, 0, false, 0, 0, 0⟩ : T_headgateref15_Ask)).bind fun t7042 => (some ((⟨t7042.1.f0, t7042.1.f1, t7042.1.f2, t7042.1.f3, t7042.1.f4, t7042.1.f5, t7042.1.f6⟩ : T_headgateref15_Ask), t7042.2))) else (headgateref15_Parse.j5 K a0 0 0 false 0 0)
def headgateref15_Parse.j2 (K : Nat) (a0 : ByteArray) (x6974 : Bool) : Option (T_headgateref15_Ask × Int) :=
  if x6974 = true then ((headgateref15_num.f K a0 2 8).bind fun t6979 => ((headgateref15_num.f K a0 10 4).bind fun t6983 => (if (bt a0 0) = 138 then (asrt (1 < (a0.size : Int)) (headgateref15_Parse.j3 K a0 t6979 t6983 ((Int.tmod (IntKind.wrap .u8 (Int.tdiv (bt a0 1) 8)) 2) == 1))) else (headgateref15_Parse.j3 K a0 t6979 t6983 false)))) else (if (bt a0 0) = 137 then ((headgateref15_num.f K a0 2 8).bind fun t7008 => (asrt (13 < (a0.size : Int)) (headgateref15_Parse.j5 K a0 t7008 (IntKind.wrap .i64 (bt a0 13)) false 0 0))) else (if (bt a0 0) = 66 then ((headgateref15_num.f K a0 7 2).bind fun t7019 => (headgateref15_Parse.j5 K a0 0 0 false 0 t7019)) else (if (bt a0 0) = 160 then ((headgateref15_num.f K a0 6 4).bind fun t7027 => (headgateref15_Parse.j5 K a0 0 0 false 0 t7027)) else (if (bt a0 0) = 94 then (headgateref15_Parse.j4 K a0 ((bt a0 0) == 94)) else (headgateref15_Parse.j4 K a0 ((bt a0 0) == 95))))))
def headgateref15_Parse.j1 (K : Nat) (a0 : ByteArray) (x6947 : Bool) : Option (T_headgateref15_Ask × Int) :=
  if x6947 = true then ((headgateref15_num.f K a0 2 4).bind fun t6952 => ((headgateref15_num.f K a0 7 2).bind fun t6956 => (if (bt a0 0) = 42 then (asrt (1 < (a0.size : Int)) (headgateref15_Parse.j5 K a0 t6952 t6956 ((Int.tmod (IntKind.wrap .u8 (Int.tdiv (bt a0 1) 8)) 2) == 1) 0 0)) else (headgateref15_Parse.j5 K a0 t6952 t6956 false 0 0)))) else (if (bt a0 0) = 136 then (headgateref15_Parse.j2 K a0 ((bt a0 0) == 136)) else (if (bt a0 0) = 138 then (headgateref15_Parse.j2 K a0 ((bt a0 0) == 138)) else (headgateref15_Parse.j2 K a0 ((bt a0 0) == 147))))
def headgateref15_Parse.f (K : Nat) (a0 : ByteArray) : Option (T_headgateref15_Ask × Int) :=
  (headgateref15_Length.f K a0).bind fun t6892 => (if t6892 = 0 then (some ((⟨0, 0, 0, false, 0, 0, 0⟩ : T_headgateref15_Ask), 150)) else (if (a0.size : Int) = t6892 then (asrt (0 ≤ (IntKind.wrap .i64 (t6892 - 1))) (asrt ((IntKind.wrap .i64 (t6892 - 1)) < (a0.size : Int)) (if (bt a0 (IntKind.wrap .i64 (t6892 - 1))) = 0 then (asrt (0 < (a0.size : Int)) (if (bt a0 0) = 18 then (asrt (1 < (a0.size : Int)) (if (Int.tmod (bt a0 1) 2) = 1 then (asrt (2 < (a0.size : Int)) (headgateref15_Parse.j0 K a0 (IntKind.wrap .i64 (256 + (IntKind.wrap .i64 (bt a0 2)))))) else (headgateref15_Parse.j0 K a0 0))) else (if (bt a0 0) = 40 then (headgateref15_Parse.j1 K a0 ((bt a0 0) == 40)) else (headgateref15_Parse.j1 K a0 ((bt a0 0) == 42))))) else (some ((⟨0, 0, 0, false, 0, 0, 0⟩ : T_headgateref15_Ask), 150))))) else (some ((⟨0, 0, 0, false, 0, 0, 0⟩ : T_headgateref15_Ask), 150))))
set_option maxRecDepth 100000 in
set_option maxHeartbeats 4000000 in
theorem headgateref15_Parse.calls (K : Nat) (a0 : ByteArray)  (r : T_headgateref15_Ask × Int) (w : World)  (h : headgateref15_Parse.f K a0 = some r) :
    Calls Tryz.prog 62 #[.string a0] w (fun e W' => e = .returned (.tuple #[.agg #[.int .i64 r.1.f0, .int .i64 r.1.f1, .int .i64 r.1.f2, .bool r.1.f3, .int .i64 r.1.f4, .int .i64 r.1.f5, .int .i64 r.1.f6], .int .i64 r.2]) ∧ Wd w W' [] [] ) := by
  refine sxstart (n := 142) (l := [(0, .string a0)]) Tryz.func62 rfl rfl (Nat.le_of_ble_eq_true KR) (subsA_cons rfl (subsA_nil _)) ?_
  intro a ha
  have HW := Wd.refl w
  unfold headgateref15_Parse.f at h
  refine wp_seq_k (fun K6886 hK6887 => ?_)
  refine wp_region_lit ?_
  refine stepnew ha HW 2 #[.int .i64 0, .int .i64 0, .int .i64 0, .bool false, .int .i64 0, .int .i64 0, .int .i64 0] 73 KR KR ?_; clear ha HW a; intro b6888 a W6889 HW ha
  refine stepp ha 3 (.int .i64 0) KR KR ?_; clear ha a; intro a ha
  refine endl ?_
  refine thenN (hK6887 _ _ ?_); clear hK6887
  refine wp_seq_k (fun K6890 hK6891 => ?_)
  refine wp_region_lit ?_
  refine stepp ha 6 (.string a0) KR KR ?_; clear ha a; intro a ha
  obtain ⟨t6892, ht6893, h_⟩ := bind_some' h; clear h; have h := h_; clear h_
  refine stepc ha 7 KR KR (headgateref15_Length.calls K a0 t6892 _ ht6893) ?_; clear ha a; rintro e W6894 ⟨rfl, HX6895⟩
  refine ⟨_, rfl, ?_⟩; intro a ha; replace HW := HW.callw HX6895; clear HX6895
  refine stepp ha 4 (.int .i64 t6892) KR KR ?_; clear ha a; intro a ha
  refine endl ?_
  refine thenN (hK6891 _ _ ?_); clear hK6891
  refine wp_seq_k (fun K6896 hK6897 => ?_)
  refine wp_seq_k (fun K6898 hK6899 => ?_)
  refine wp_region_lit ?_
  refine stepp ha 8 (.int .i64 t6892) KR KR ?_; clear ha a; intro a ha
  refine stepp ha 9 (.bool (t6892 == 0)) KR KR ?_; clear ha a; intro a ha
  refine stepp ha 10 (.bool (t6892 == 0)) KR KR ?_; clear ha a; intro a ha
  by_cases hp6900 : t6892 = 0
  · skip
    replace h := ite_pos' h hp6900
    replace ha := ha.bool 10 KR (ieq_t hp6900)
    refine stepo ha 11 KR ?_; clear ha a; intro a ha
    refine stepo ha 12 KR ?_; clear ha a; intro a ha
    refine stepo ha 13 KR ?_; clear ha a; intro a ha
    refine stepo ha 14 KR ?_; clear ha a; intro a ha
    refine stepp ha 15 (.bool true) KR KR ?_; clear ha a; intro a ha
    refine stepp ha 16 (.bool true) KR KR ?_; clear ha a; intro a ha
    refine stepo ha 17 KR ?_; clear ha a; intro a ha
    refine stepo ha 18 KR ?_; clear ha a; intro a ha
    refine stepo ha 19 KR ?_; clear ha a; intro a ha
    refine stepo ha 20 KR ?_; clear ha a; intro a ha
    refine stepo ha 21 KR ?_; clear ha a; intro a ha
    refine stepp ha 22 (.bool true) KR KR ?_; clear ha a; intro a ha
    refine endl ?_
    refine thenN (hK6899 _ _ ?_); clear hK6899
    refine condT ha KR KR (t := true) (rfl) ?_
    refine wp_seq_k (fun K6904 hK6905 => ?_)
    refine wp_region_lit ?_
    refine stepp ha 23 (.agg #[.int .i64 0, .int .i64 0, .int .i64 0, .bool false, .int .i64 0, .int .i64 0, .int .i64 0]) KR KR ?_; clear ha a; intro a ha
    refine stepst ha HW 0 (b := b6888) (C := #[.int .i64 0, .int .i64 0, .int .i64 0, .bool false, .int .i64 0, .int .i64 0, .int .i64 0]) (T := 73) KR 73 0 (.tmp 2) (.tmp 23) (.agg #[.int .i64 0, .int .i64 0, .int .i64 0, .bool false, .int .i64 0, .int .i64 0, .int .i64 0]) #[.int .i64 0, .int .i64 0, .int .i64 0, .bool false, .int .i64 0, .int .i64 0, .int .i64 0] rfl KR KR KR KR KR KR KR ?_; clear ha HW a; intro a W6906 HW ha
    refine stepp ha 3 (.int .i64 150) KR KR ?_; clear ha a; intro a ha
    refine endl ?_
    refine thenN (hK6905 _ _ ?_); clear hK6905
    refine wp_ret ?_
    refine thenR ?_
    obtain rfl := Option.some.inj h
    exact finv ha _ _ rfl (.cell (ad := ⟨b6888, 0, none⟩) (v := .agg #[.int .i64 0, .int .i64 0, .int .i64 0, .bool false, .int .i64 0, .int .i64 0, .int .i64 0]) KR (run_loadVar_ca0 (HW.ca (i := 0) (b := b6888) (C := #[.int .i64 0, .int .i64 0, .int .i64 0, .bool false, .int .i64 0, .int .i64 0, .int .i64 0]) (T := 73) (fr := (0, 0)) KR) 73 0 (.agg #[.int .i64 0, .int .i64 0, .int .i64 0, .bool false, .int .i64 0, .int .i64 0, .int .i64 0]) KR) (.tmp (v := .int .i64 150) KR .nil)) (.tuple #[.agg #[.int .i64 0, .int .i64 0, .int .i64 0, .bool false, .int .i64 0, .int .i64 0, .int .i64 0], .int .i64 150]) rfl ⟨rfl, HW.pick [] [] (by decide) (by decide) rfl KR⟩
  · skip
    replace h := ite_neg' h hp6900
    replace ha := ha.bool 10 KR (ieq_f hp6900)
    refine stepp ha 11 (.string a0) KR KR ?_; clear ha a; intro a ha
    refine stepp ha 12 (.int .i64 (a0.size : Int)) KR KR ?_; clear ha a; intro a ha
    refine stepp ha 13 (.int .i64 t6892) KR KR ?_; clear ha a; intro a ha
    refine stepp ha 14 (.bool ((a0.size : Int) != t6892)) KR KR ?_; clear ha a; intro a ha
    refine stepp ha 15 (.bool ((a0.size : Int) != t6892)) KR KR ?_; clear ha a; intro a ha
    refine stepp ha 16 (.bool ((a0.size : Int) != t6892)) KR KR ?_; clear ha a; intro a ha
    by_cases hp6901 : (a0.size : Int) = t6892
    · skip
      replace h := ite_pos' h hp6901
      replace ha := ha.bool 16 KR (ineq_f hp6901)
      refine stepp ha 17 (.string a0) KR KR ?_; clear ha a; intro a ha
      refine stepp ha 18 (.int .i64 t6892) KR KR ?_; clear ha a; intro a ha
      refine stepp ha 19 (.int .i64 (IntKind.wrap .i64 (t6892 - 1))) KR KR ?_; clear ha a; intro a ha
      obtain ⟨hA6902, h_⟩ := asrt_some h; clear h; have h := h_; clear h_
      obtain ⟨hA6903, h_⟩ := asrt_some h; clear h; have h := h_; clear h_
      refine stepsi ha 20 9 (.tmp 17) (.tmp 19) a0 .i64 (IntKind.wrap .i64 (t6892 - 1)) rfl KR KR KR hA6902 (show (IntKind.wrap .i64 (t6892 - 1) : Int) < ((a0).size : Int) from hA6903) KR ?_; clear ha a; intro a ha
      refine stepp ha 21 (.bool ((bt a0 (IntKind.wrap .i64 (t6892 - 1))) != 0)) KR KR ?_; clear ha a; intro a ha
      refine stepp ha 22 (.bool ((bt a0 (IntKind.wrap .i64 (t6892 - 1))) != 0)) KR KR ?_; clear ha a; intro a ha
      refine endl ?_
      refine thenN (hK6899 _ _ ?_); clear hK6899
      by_cases hp6907 : (bt a0 (IntKind.wrap .i64 (t6892 - 1))) = 0
      · skip
        replace h := ite_pos' h hp6907
        refine condF ha KR KR (t := ((bt a0 (IntKind.wrap .i64 (t6892 - 1))) != 0)) (ineq_f hp6907) ?_
        refine wp_skip ?_
        refine thenN (hK6897 _ _ ?_); clear hK6897
        refine wp_seq_k (fun K6914 hK6915 => ?_)
        refine wp_region_lit ?_
        refine stepp ha 24 (.string a0) KR KR ?_; clear ha a; intro a ha
        obtain ⟨hA6916, h_⟩ := asrt_some h; clear h; have h := h_; clear h_
        refine stepsi ha 25 9 (.tmp 24) (.const (.int .i64 0)) a0 .i64 0 rfl KR KR KR (by decide) (show (0 : Int) < ((a0).size : Int) from hA6916) KR ?_; clear ha a; intro a ha
        refine stepp ha 26 (.int .i64 (IntKind.wrap .i64 (bt a0 0))) KR KR ?_; clear ha a; intro a ha
        refine stepp ha 27 (.agg #[.int .i64 (IntKind.wrap .i64 (bt a0 0)), .int .i64 0, .int .i64 0, .bool false, .int .i64 0, .int .i64 0, .int .i64 0]) KR KR ?_; clear ha a; intro a ha
        refine stepnew ha HW 5 #[.int .i64 0, .int .i64 0, .int .i64 0, .bool false, .int .i64 0, .int .i64 0, .int .i64 0] 73 KR KR ?_; clear ha HW a; intro b6917 a W6918 HW ha
        refine stepst ha HW 0 (b := b6917) (C := #[.int .i64 0, .int .i64 0, .int .i64 0, .bool false, .int .i64 0, .int .i64 0, .int .i64 0]) (T := 73) KR 73 0 (.tmp 5) (.tmp 27) (.agg #[.int .i64 (IntKind.wrap .i64 (bt a0 0)), .int .i64 0, .int .i64 0, .bool false, .int .i64 0, .int .i64 0, .int .i64 0]) #[.int .i64 (IntKind.wrap .i64 (bt a0 0)), .int .i64 0, .int .i64 0, .bool false, .int .i64 0, .int .i64 0, .int .i64 0] rfl KR KR KR KR KR KR KR ?_; clear ha HW a; intro a W6919 HW ha
        refine endl ?_
        refine thenN (hK6915 _ _ ?_); clear hK6915
        refine wp_seq_k (fun K6920 hK6921 => ?_)
        refine cutn (fun a W7052 => ∃ (x7047 : Int), ∃ (x7048 : Int), ∃ (x7049 : Bool), ∃ (x7050 : Int), ∃ (x7051 : Int), headgateref15_Parse.j5 K a0 x7047 x7048 x7049 x7050 x7051 = some r ∧ Has 142 [(0, .string a0), (2, .pointer (some ⟨b6888, 0, none⟩)), (5, .pointer (some ⟨b6917, 0, none⟩))] a ∧ Wd w W7052 [(b6888, .cells #[.int .i64 0, .int .i64 0, .int .i64 0, .bool false, .int .i64 0, .int .i64 0, .int .i64 0] 73 (0, 0)), (b6917, .cells #[.int .i64 (IntKind.wrap .i64 (bt a0 0)), .int .i64 x7047, .int .i64 x7048, .bool x7049, .int .i64 x7050, .int .i64 x7051, .int .i64 0] 73 (0, 0))] []) ?_ ?_
        · skip
          refine wp_seq_k (fun K6922 hK6923 => ?_)
          refine wp_region_lit ?_
          refine stepp ha 28 (.string a0) KR KR ?_; clear ha a; intro a ha
          refine stepsi ha 29 9 (.tmp 28) (.const (.int .i64 0)) a0 .i64 0 rfl KR KR KR (by decide) (show (0 : Int) < ((a0).size : Int) from hA6916) KR ?_; clear ha a; intro a ha
          refine endl ?_
          refine thenN (hK6923 _ _ ?_); clear hK6923
          refine wp_block ?_
          refine wp_seq_k (fun K6924 hK6925 => ?_)
          refine wp_region_lit ?_
          refine stepp ha 31 (.bool ((bt a0 0) == 18)) KR KR ?_; clear ha a; intro a ha
          refine stepp ha 30 (.bool ((bt a0 0) == 18)) KR KR ?_; clear ha a; intro a ha
          refine endl ?_
          refine thenN (hK6925 _ _ ?_); clear hK6925
          by_cases hp6926 : (bt a0 0) = 18
          · skip
            replace h := ite_pos' h hp6926
            refine condT ha KR KR (t := ((bt a0 0) == 18)) (ieq_t hp6926) ?_
            refine wp_seq_k (fun K6927 hK6928 => ?_)
            refine cutn (fun a W6936 => ∃ (x6935 : Int), headgateref15_Parse.j0 K a0 x6935 = some r ∧ Has 142 [(0, .string a0), (2, .pointer (some ⟨b6888, 0, none⟩)), (5, .pointer (some ⟨b6917, 0, none⟩))] a ∧ Wd w W6936 [(b6888, .cells #[.int .i64 0, .int .i64 0, .int .i64 0, .bool false, .int .i64 0, .int .i64 0, .int .i64 0] 73 (0, 0)), (b6917, .cells #[.int .i64 (IntKind.wrap .i64 (bt a0 0)), .int .i64 0, .int .i64 0, .bool false, .int .i64 x6935, .int .i64 0, .int .i64 0] 73 (0, 0))] []) ?_ ?_
            · skip
              refine wp_seq_k (fun K6929 hK6930 => ?_)
              refine wp_region_lit ?_
              refine stepp ha 32 (.string a0) KR KR ?_; clear ha a; intro a ha
              obtain ⟨hA6931, h_⟩ := asrt_some h; clear h; have h := h_; clear h_
              refine stepsi ha 33 9 (.tmp 32) (.const (.int .i64 1)) a0 .i64 1 rfl KR KR KR (by decide) (show (1 : Int) < ((a0).size : Int) from hA6931) KR ?_; clear ha a; intro a ha
              refine stepp ha 34 (.int .u8 (Int.tmod (bt a0 1) 2)) KR KR ?_; clear ha a; intro a ha
              refine stepp ha 35 (.bool ((Int.tmod (bt a0 1) 2) == 1)) KR KR ?_; clear ha a; intro a ha
              refine endl ?_
              refine thenN (hK6930 _ _ ?_); clear hK6930
              by_cases hp6932 : (Int.tmod (bt a0 1) 2) = 1
              · skip
                replace h := ite_pos' h hp6932
                refine condT ha KR KR (t := ((Int.tmod (bt a0 1) 2) == 1)) (ieq_t hp6932) ?_
                refine wp_region_lit ?_
                refine stepp ha 36 (.string a0) KR KR ?_; clear ha a; intro a ha
                obtain ⟨hA6933, h_⟩ := asrt_some h; clear h; have h := h_; clear h_
                refine stepsi ha 37 9 (.tmp 36) (.const (.int .i64 2)) a0 .i64 2 rfl KR KR KR (by decide) (show (2 : Int) < ((a0).size : Int) from hA6933) KR ?_; clear ha a; intro a ha
                refine stepp ha 38 (.int .i64 (IntKind.wrap .i64 (bt a0 2))) KR KR ?_; clear ha a; intro a ha
                refine stepp ha 39 (.int .i64 (IntKind.wrap .i64 (256 + (IntKind.wrap .i64 (bt a0 2))))) KR KR ?_; clear ha a; intro a ha
                refine stepp ha 40 (.pointer (some ⟨b6917, 4, none⟩)) KR KR ?_; clear ha a; intro a ha
                refine stepst ha HW 0 (b := b6917) (C := #[.int .i64 (IntKind.wrap .i64 (bt a0 0)), .int .i64 0, .int .i64 0, .bool false, .int .i64 0, .int .i64 0, .int .i64 0]) (T := 73) KR 3 4 (.tmp 40) (.tmp 39) (.int .i64 (IntKind.wrap .i64 (256 + (IntKind.wrap .i64 (bt a0 2))))) #[.int .i64 (IntKind.wrap .i64 (bt a0 0)), .int .i64 0, .int .i64 0, .bool false, .int .i64 (IntKind.wrap .i64 (256 + (IntKind.wrap .i64 (bt a0 2)))), .int .i64 0, .int .i64 0] rfl KR KR KR KR KR KR KR ?_; clear ha HW a; intro a W6934 HW ha
                refine endl ?_
                exact thenN ⟨IntKind.wrap .i64 (256 + (IntKind.wrap .i64 (bt a0 2))), h, ha.sub (subs_cons KR (subs_cons KR (subs_cons KR (subs_nil _)))), HW.pick [1, 0] [] (by decide) (by decide) KR KR⟩
              · skip
                replace h := ite_neg' h hp6932
                refine condF ha KR KR (t := ((Int.tmod (bt a0 1) 2) == 1)) (ieq_f hp6932) ?_
                refine wp_skip ?_
                exact thenN ⟨0, h, ha.sub (subs_cons KR (subs_cons KR (subs_cons KR (subs_nil _)))), HW.pick [1, 0] [] (by decide) (by decide) KR KR⟩
            · skip
              intro a W6936 hJ
              obtain ⟨x6935, h, ha, HW⟩ := hJ
              replace h : headgateref15_Parse.j0 K a0 x6935 = some r := h
              unfold headgateref15_Parse.j0 at h
              refine hK6928 _ _ ?_; clear hK6928
              refine wp_region_lit ?_
              refine stepp ha 41 (.string a0) KR KR ?_; clear ha a; intro a ha
              obtain ⟨t6937, ht6938, h_⟩ := bind_some' h; clear h; have h := h_; clear h_
              refine stepc ha 42 KR KR (headgateref15_num.calls K a0 3 2 t6937 _ ht6938) ?_; clear ha a; rintro e W6939 ⟨rfl, HX6940⟩
              refine ⟨_, rfl, ?_⟩; intro a ha; replace HW := HW.callw HX6940; clear HX6940
              refine stepp ha 43 (.pointer (some ⟨b6917, 5, none⟩)) KR KR ?_; clear ha a; intro a ha
              refine stepst ha HW 1 (b := b6917) (C := #[.int .i64 (IntKind.wrap .i64 (bt a0 0)), .int .i64 0, .int .i64 0, .bool false, .int .i64 x6935, .int .i64 0, .int .i64 0]) (T := 73) KR 3 5 (.tmp 43) (.tmp 42) (.int .i64 t6937) #[.int .i64 (IntKind.wrap .i64 (bt a0 0)), .int .i64 0, .int .i64 0, .bool false, .int .i64 x6935, .int .i64 t6937, .int .i64 0] rfl KR KR KR KR KR KR KR ?_; clear ha HW a; intro a W6941 HW ha
              refine endl ?_
              refine blkN ?_
              exact thenN ⟨0, 0, false, x6935, t6937, h, ha.sub (subs_cons KR (subs_cons KR (subs_cons KR (subs_nil _)))), HW.pick [0, 1] [] (by decide) (by decide) KR KR⟩
          · skip
            replace h := ite_neg' h hp6926
            refine condF ha KR KR (t := ((bt a0 0) == 18)) (ieq_f hp6926) ?_
            refine wp_seq_k (fun K6942 hK6943 => ?_)
            refine cutn (fun a W6948 => ∃ (x6947 : Bool), headgateref15_Parse.j1 K a0 x6947 = some r ∧ Has 142 [(0, .string a0), (2, .pointer (some ⟨b6888, 0, none⟩)), (5, .pointer (some ⟨b6917, 0, none⟩)), (29, .int .u8 (bt a0 0)), (44, .bool x6947)] a ∧ Wd w W6948 [(b6888, .cells #[.int .i64 0, .int .i64 0, .int .i64 0, .bool false, .int .i64 0, .int .i64 0, .int .i64 0] 73 (0, 0)), (b6917, .cells #[.int .i64 (IntKind.wrap .i64 (bt a0 0)), .int .i64 0, .int .i64 0, .bool false, .int .i64 0, .int .i64 0, .int .i64 0] 73 (0, 0))] []) ?_ ?_
            · skip
              refine wp_seq_k (fun K6944 hK6945 => ?_)
              refine wp_region_lit ?_
              refine stepp ha 45 (.bool ((bt a0 0) == 40)) KR KR ?_; clear ha a; intro a ha
              refine stepp ha 44 (.bool ((bt a0 0) == 40)) KR KR ?_; clear ha a; intro a ha
              refine endl ?_
              refine thenN (hK6945 _ _ ?_); clear hK6945
              by_cases hp6946 : (bt a0 0) = 40
              · skip
                replace h := ite_pos' h hp6946
                refine condT ha KR KR (t := ((bt a0 0) == 40)) (ieq_t hp6946) ?_
                refine wp_skip ?_
                exact thenN ⟨((bt a0 0) == 40), h, ha.sub (subs_cons KR (subs_cons KR (subs_cons KR (subs_cons KR (subs_cons KR (subs_nil _)))))), HW.pick [1, 0] [] (by decide) (by decide) KR KR⟩
              · skip
                replace h := ite_neg' h hp6946
                refine condF ha KR KR (t := ((bt a0 0) == 40)) (ieq_f hp6946) ?_
                refine wp_region_lit ?_
                refine stepp ha 46 (.bool ((bt a0 0) == 42)) KR KR ?_; clear ha a; intro a ha
                refine stepp ha 44 (.bool ((bt a0 0) == 42)) KR KR ?_; clear ha a; intro a ha
                refine endl ?_
                exact thenN ⟨((bt a0 0) == 42), h, ha.sub (subs_cons KR (subs_cons KR (subs_cons KR (subs_cons KR (subs_cons KR (subs_nil _)))))), HW.pick [1, 0] [] (by decide) (by decide) KR KR⟩
            · skip
              intro a W6948 hJ
              obtain ⟨x6947, h, ha, HW⟩ := hJ
              replace h : headgateref15_Parse.j1 K a0 x6947 = some r := h
              unfold headgateref15_Parse.j1 at h
              refine hK6943 _ _ ?_; clear hK6943
              by_cases hp6949 : x6947 = true
              · skip
                replace h := ite_pos' h hp6949
                refine condT ha KR KR (t := x6947) (hp6949) ?_
                refine wp_seq_k (fun K6950 hK6951 => ?_)
                refine wp_region_lit ?_
                refine stepp ha 47 (.string a0) KR KR ?_; clear ha a; intro a ha
                obtain ⟨t6952, ht6953, h_⟩ := bind_some' h; clear h; have h := h_; clear h_
                refine stepc ha 48 KR KR (headgateref15_num.calls K a0 2 4 t6952 _ ht6953) ?_; clear ha a; rintro e W6954 ⟨rfl, HX6955⟩
                refine ⟨_, rfl, ?_⟩; intro a ha; replace HW := HW.callw HX6955; clear HX6955
                refine stepp ha 49 (.string a0) KR KR ?_; clear ha a; intro a ha
                obtain ⟨t6956, ht6957, h_⟩ := bind_some' h; clear h; have h := h_; clear h_
                refine stepc ha 50 KR KR (headgateref15_num.calls K a0 7 2 t6956 _ ht6957) ?_; clear ha a; rintro e W6958 ⟨rfl, HX6959⟩
                refine ⟨_, rfl, ?_⟩; intro a ha; replace HW := HW.callw HX6959; clear HX6959
                refine stepp ha 51 (.pointer (some ⟨b6917, 1, none⟩)) KR KR ?_; clear ha a; intro a ha
                refine stepst ha HW 1 (b := b6917) (C := #[.int .i64 (IntKind.wrap .i64 (bt a0 0)), .int .i64 0, .int .i64 0, .bool false, .int .i64 0, .int .i64 0, .int .i64 0]) (T := 73) KR 3 1 (.tmp 51) (.tmp 48) (.int .i64 t6952) #[.int .i64 (IntKind.wrap .i64 (bt a0 0)), .int .i64 t6952, .int .i64 0, .bool false, .int .i64 0, .int .i64 0, .int .i64 0] rfl KR KR KR KR KR KR KR ?_; clear ha HW a; intro a W6960 HW ha
                refine stepp ha 52 (.pointer (some ⟨b6917, 2, none⟩)) KR KR ?_; clear ha a; intro a ha
                refine stepst ha HW 1 (b := b6917) (C := #[.int .i64 (IntKind.wrap .i64 (bt a0 0)), .int .i64 t6952, .int .i64 0, .bool false, .int .i64 0, .int .i64 0, .int .i64 0]) (T := 73) KR 3 2 (.tmp 52) (.tmp 50) (.int .i64 t6956) #[.int .i64 (IntKind.wrap .i64 (bt a0 0)), .int .i64 t6952, .int .i64 t6956, .bool false, .int .i64 0, .int .i64 0, .int .i64 0] rfl KR KR KR KR KR KR KR ?_; clear ha HW a; intro a W6961 HW ha
                refine endl ?_
                refine thenN (hK6951 _ _ ?_); clear hK6951
                refine wp_region_lit ?_
                refine stepp ha 53 (.string a0) KR KR ?_; clear ha a; intro a ha
                refine stepsi ha 54 9 (.tmp 53) (.const (.int .i64 0)) a0 .i64 0 rfl KR KR KR (by decide) (show (0 : Int) < ((a0).size : Int) from hA6916) KR ?_; clear ha a; intro a ha
                refine stepp ha 55 (.bool ((bt a0 0) == 42)) KR KR ?_; clear ha a; intro a ha
                refine stepp ha 56 (.bool ((bt a0 0) == 42)) KR KR ?_; clear ha a; intro a ha
                by_cases hp6962 : (bt a0 0) = 42
                · skip
                  replace h := ite_pos' h hp6962
                  replace ha := ha.bool 56 KR (ieq_t hp6962)
                  refine stepp ha 57 (.string a0) KR KR ?_; clear ha a; intro a ha
                  obtain ⟨hA6963, h_⟩ := asrt_some h; clear h; have h := h_; clear h_
                  refine stepsi ha 58 9 (.tmp 57) (.const (.int .i64 1)) a0 .i64 1 rfl KR KR KR (by decide) (show (1 : Int) < ((a0).size : Int) from hA6963) KR ?_; clear ha a; intro a ha
                  refine stepp ha 59 (.int .u8 (IntKind.wrap .u8 (Int.tdiv (bt a0 1) 8))) KR KR ?_; clear ha a; intro a ha
                  refine stepp ha 60 (.int .u8 (Int.tmod (IntKind.wrap .u8 (Int.tdiv (bt a0 1) 8)) 2)) KR KR ?_; clear ha a; intro a ha
                  refine stepp ha 61 (.bool ((Int.tmod (IntKind.wrap .u8 (Int.tdiv (bt a0 1) 8)) 2) == 1)) KR KR ?_; clear ha a; intro a ha
                  refine stepp ha 62 (.bool ((Int.tmod (IntKind.wrap .u8 (Int.tdiv (bt a0 1) 8)) 2) == 1)) KR KR ?_; clear ha a; intro a ha
                  refine stepp ha 63 (.pointer (some ⟨b6917, 3, none⟩)) KR KR ?_; clear ha a; intro a ha
                  refine stepst ha HW 1 (b := b6917) (C := #[.int .i64 (IntKind.wrap .i64 (bt a0 0)), .int .i64 t6952, .int .i64 t6956, .bool false, .int .i64 0, .int .i64 0, .int .i64 0]) (T := 73) KR 4 3 (.tmp 63) (.tmp 62) (.bool ((Int.tmod (IntKind.wrap .u8 (Int.tdiv (bt a0 1) 8)) 2) == 1)) #[.int .i64 (IntKind.wrap .i64 (bt a0 0)), .int .i64 t6952, .int .i64 t6956, .bool ((Int.tmod (IntKind.wrap .u8 (Int.tdiv (bt a0 1) 8)) 2) == 1), .int .i64 0, .int .i64 0, .int .i64 0] rfl KR KR KR KR KR KR KR ?_; clear ha HW a; intro a W6964 HW ha
                  refine endl ?_
                  refine blkN ?_
                  exact thenN ⟨t6952, t6956, ((Int.tmod (IntKind.wrap .u8 (Int.tdiv (bt a0 1) 8)) 2) == 1), 0, 0, h, ha.sub (subs_cons KR (subs_cons KR (subs_cons KR (subs_nil _)))), HW.pick [0, 1] [] (by decide) (by decide) KR KR⟩
                · skip
                  replace h := ite_neg' h hp6962
                  replace ha := ha.bool 56 KR (ieq_f hp6962)
                  refine stepo ha 57 KR ?_; clear ha a; intro a ha
                  refine stepo ha 58 KR ?_; clear ha a; intro a ha
                  refine stepo ha 59 KR ?_; clear ha a; intro a ha
                  refine stepo ha 60 KR ?_; clear ha a; intro a ha
                  refine stepo ha 61 KR ?_; clear ha a; intro a ha
                  refine stepp ha 62 (.bool false) KR KR ?_; clear ha a; intro a ha
                  refine stepp ha 63 (.pointer (some ⟨b6917, 3, none⟩)) KR KR ?_; clear ha a; intro a ha
                  refine stepst ha HW 1 (b := b6917) (C := #[.int .i64 (IntKind.wrap .i64 (bt a0 0)), .int .i64 t6952, .int .i64 t6956, .bool false, .int .i64 0, .int .i64 0, .int .i64 0]) (T := 73) KR 4 3 (.tmp 63) (.tmp 62) (.bool false) #[.int .i64 (IntKind.wrap .i64 (bt a0 0)), .int .i64 t6952, .int .i64 t6956, .bool false, .int .i64 0, .int .i64 0, .int .i64 0] rfl KR KR KR KR KR KR KR ?_; clear ha HW a; intro a W6965 HW ha
                  refine endl ?_
                  refine blkN ?_
                  exact thenN ⟨t6952, t6956, false, 0, 0, h, ha.sub (subs_cons KR (subs_cons KR (subs_cons KR (subs_nil _)))), HW.pick [0, 1] [] (by decide) (by decide) KR KR⟩
              · skip
                replace h := ite_neg' h hp6949
                refine condF ha KR KR (t := x6947) (bool_f hp6949) ?_
                refine wp_seq_k (fun K6966 hK6967 => ?_)
                refine cutn (fun a W6975 => ∃ (x6974 : Bool), headgateref15_Parse.j2 K a0 x6974 = some r ∧ Has 142 [(0, .string a0), (2, .pointer (some ⟨b6888, 0, none⟩)), (5, .pointer (some ⟨b6917, 0, none⟩)), (29, .int .u8 (bt a0 0)), (64, .bool x6974)] a ∧ Wd w W6975 [(b6888, .cells #[.int .i64 0, .int .i64 0, .int .i64 0, .bool false, .int .i64 0, .int .i64 0, .int .i64 0] 73 (0, 0)), (b6917, .cells #[.int .i64 (IntKind.wrap .i64 (bt a0 0)), .int .i64 0, .int .i64 0, .bool false, .int .i64 0, .int .i64 0, .int .i64 0] 73 (0, 0))] []) ?_ ?_
                · skip
                  refine wp_seq_k (fun K6968 hK6969 => ?_)
                  refine wp_region_lit ?_
                  refine stepp ha 65 (.bool ((bt a0 0) == 136)) KR KR ?_; clear ha a; intro a ha
                  refine stepp ha 64 (.bool ((bt a0 0) == 136)) KR KR ?_; clear ha a; intro a ha
                  refine endl ?_
                  refine thenN (hK6969 _ _ ?_); clear hK6969
                  by_cases hp6970 : (bt a0 0) = 136
                  · skip
                    replace h := ite_pos' h hp6970
                    refine condT ha KR KR (t := ((bt a0 0) == 136)) (ieq_t hp6970) ?_
                    refine wp_skip ?_
                    exact thenN ⟨((bt a0 0) == 136), h, ha.sub (subs_cons KR (subs_cons KR (subs_cons KR (subs_cons KR (subs_cons KR (subs_nil _)))))), HW.pick [0, 1] [] (by decide) (by decide) KR KR⟩
                  · skip
                    replace h := ite_neg' h hp6970
                    refine condF ha KR KR (t := ((bt a0 0) == 136)) (ieq_f hp6970) ?_
                    refine wp_seq_k (fun K6971 hK6972 => ?_)
                    refine wp_region_lit ?_
                    refine stepp ha 66 (.bool ((bt a0 0) == 138)) KR KR ?_; clear ha a; intro a ha
                    refine stepp ha 64 (.bool ((bt a0 0) == 138)) KR KR ?_; clear ha a; intro a ha
                    refine endl ?_
                    refine thenN (hK6972 _ _ ?_); clear hK6972
                    by_cases hp6973 : (bt a0 0) = 138
                    · skip
                      replace h := ite_pos' h hp6973
                      refine condT ha KR KR (t := ((bt a0 0) == 138)) (ieq_t hp6973) ?_
                      refine wp_skip ?_
                      exact thenN ⟨((bt a0 0) == 138), h, ha.sub (subs_cons KR (subs_cons KR (subs_cons KR (subs_cons KR (subs_cons KR (subs_nil _)))))), HW.pick [0, 1] [] (by decide) (by decide) KR KR⟩
                    · skip
                      replace h := ite_neg' h hp6973
                      refine condF ha KR KR (t := ((bt a0 0) == 138)) (ieq_f hp6973) ?_
                      refine wp_region_lit ?_
                      refine stepp ha 67 (.bool ((bt a0 0) == 147)) KR KR ?_; clear ha a; intro a ha
                      refine stepp ha 64 (.bool ((bt a0 0) == 147)) KR KR ?_; clear ha a; intro a ha
                      refine endl ?_
                      exact thenN ⟨((bt a0 0) == 147), h, ha.sub (subs_cons KR (subs_cons KR (subs_cons KR (subs_cons KR (subs_cons KR (subs_nil _)))))), HW.pick [0, 1] [] (by decide) (by decide) KR KR⟩
                · skip
                  intro a W6975 hJ
                  obtain ⟨x6974, h, ha, HW⟩ := hJ
                  replace h : headgateref15_Parse.j2 K a0 x6974 = some r := h
                  unfold headgateref15_Parse.j2 at h
                  refine hK6967 _ _ ?_; clear hK6967
                  by_cases hp6976 : x6974 = true
                  · skip
                    replace h := ite_pos' h hp6976
                    refine condT ha KR KR (t := x6974) (hp6976) ?_
                    refine wp_seq_k (fun K6977 hK6978 => ?_)
                    refine wp_region_lit ?_
                    refine stepp ha 68 (.string a0) KR KR ?_; clear ha a; intro a ha
                    obtain ⟨t6979, ht6980, h_⟩ := bind_some' h; clear h; have h := h_; clear h_
                    refine stepc ha 69 KR KR (headgateref15_num.calls K a0 2 8 t6979 _ ht6980) ?_; clear ha a; rintro e W6981 ⟨rfl, HX6982⟩
                    refine ⟨_, rfl, ?_⟩; intro a ha; replace HW := HW.callw HX6982; clear HX6982
                    refine stepp ha 70 (.string a0) KR KR ?_; clear ha a; intro a ha
                    obtain ⟨t6983, ht6984, h_⟩ := bind_some' h; clear h; have h := h_; clear h_
                    refine stepc ha 71 KR KR (headgateref15_num.calls K a0 10 4 t6983 _ ht6984) ?_; clear ha a; rintro e W6985 ⟨rfl, HX6986⟩
                    refine ⟨_, rfl, ?_⟩; intro a ha; replace HW := HW.callw HX6986; clear HX6986
                    refine stepp ha 72 (.pointer (some ⟨b6917, 1, none⟩)) KR KR ?_; clear ha a; intro a ha
                    refine stepst ha HW 1 (b := b6917) (C := #[.int .i64 (IntKind.wrap .i64 (bt a0 0)), .int .i64 0, .int .i64 0, .bool false, .int .i64 0, .int .i64 0, .int .i64 0]) (T := 73) KR 3 1 (.tmp 72) (.tmp 69) (.int .i64 t6979) #[.int .i64 (IntKind.wrap .i64 (bt a0 0)), .int .i64 t6979, .int .i64 0, .bool false, .int .i64 0, .int .i64 0, .int .i64 0] rfl KR KR KR KR KR KR KR ?_; clear ha HW a; intro a W6987 HW ha
                    refine stepp ha 73 (.pointer (some ⟨b6917, 2, none⟩)) KR KR ?_; clear ha a; intro a ha
                    refine stepst ha HW 1 (b := b6917) (C := #[.int .i64 (IntKind.wrap .i64 (bt a0 0)), .int .i64 t6979, .int .i64 0, .bool false, .int .i64 0, .int .i64 0, .int .i64 0]) (T := 73) KR 3 2 (.tmp 73) (.tmp 71) (.int .i64 t6983) #[.int .i64 (IntKind.wrap .i64 (bt a0 0)), .int .i64 t6979, .int .i64 t6983, .bool false, .int .i64 0, .int .i64 0, .int .i64 0] rfl KR KR KR KR KR KR KR ?_; clear ha HW a; intro a W6988 HW ha
                    refine endl ?_
                    refine thenN (hK6978 _ _ ?_); clear hK6978
                    refine wp_seq_k (fun K6989 hK6990 => ?_)
                    refine cutn (fun a W6996 => ∃ (x6995 : Bool), headgateref15_Parse.j3 K a0 t6979 t6983 x6995 = some r ∧ Has 142 [(0, .string a0), (2, .pointer (some ⟨b6888, 0, none⟩)), (5, .pointer (some ⟨b6917, 0, none⟩))] a ∧ Wd w W6996 [(b6888, .cells #[.int .i64 0, .int .i64 0, .int .i64 0, .bool false, .int .i64 0, .int .i64 0, .int .i64 0] 73 (0, 0)), (b6917, .cells #[.int .i64 (IntKind.wrap .i64 (bt a0 0)), .int .i64 t6979, .int .i64 t6983, .bool x6995, .int .i64 0, .int .i64 0, .int .i64 0] 73 (0, 0))] []) ?_ ?_
                    · skip
                      refine wp_region_lit ?_
                      refine stepp ha 74 (.string a0) KR KR ?_; clear ha a; intro a ha
                      refine stepsi ha 75 9 (.tmp 74) (.const (.int .i64 0)) a0 .i64 0 rfl KR KR KR (by decide) (show (0 : Int) < ((a0).size : Int) from hA6916) KR ?_; clear ha a; intro a ha
                      refine stepp ha 76 (.bool ((bt a0 0) == 138)) KR KR ?_; clear ha a; intro a ha
                      refine stepp ha 77 (.bool ((bt a0 0) == 138)) KR KR ?_; clear ha a; intro a ha
                      by_cases hp6991 : (bt a0 0) = 138
                      · skip
                        replace h := ite_pos' h hp6991
                        replace ha := ha.bool 77 KR (ieq_t hp6991)
                        refine stepp ha 78 (.string a0) KR KR ?_; clear ha a; intro a ha
                        obtain ⟨hA6992, h_⟩ := asrt_some h; clear h; have h := h_; clear h_
                        refine stepsi ha 79 9 (.tmp 78) (.const (.int .i64 1)) a0 .i64 1 rfl KR KR KR (by decide) (show (1 : Int) < ((a0).size : Int) from hA6992) KR ?_; clear ha a; intro a ha
                        refine stepp ha 80 (.int .u8 (IntKind.wrap .u8 (Int.tdiv (bt a0 1) 8))) KR KR ?_; clear ha a; intro a ha
                        refine stepp ha 81 (.int .u8 (Int.tmod (IntKind.wrap .u8 (Int.tdiv (bt a0 1) 8)) 2)) KR KR ?_; clear ha a; intro a ha
                        refine stepp ha 82 (.bool ((Int.tmod (IntKind.wrap .u8 (Int.tdiv (bt a0 1) 8)) 2) == 1)) KR KR ?_; clear ha a; intro a ha
                        refine stepp ha 83 (.bool ((Int.tmod (IntKind.wrap .u8 (Int.tdiv (bt a0 1) 8)) 2) == 1)) KR KR ?_; clear ha a; intro a ha
                        refine stepp ha 84 (.pointer (some ⟨b6917, 3, none⟩)) KR KR ?_; clear ha a; intro a ha
                        refine stepst ha HW 1 (b := b6917) (C := #[.int .i64 (IntKind.wrap .i64 (bt a0 0)), .int .i64 t6979, .int .i64 t6983, .bool false, .int .i64 0, .int .i64 0, .int .i64 0]) (T := 73) KR 4 3 (.tmp 84) (.tmp 83) (.bool ((Int.tmod (IntKind.wrap .u8 (Int.tdiv (bt a0 1) 8)) 2) == 1)) #[.int .i64 (IntKind.wrap .i64 (bt a0 0)), .int .i64 t6979, .int .i64 t6983, .bool ((Int.tmod (IntKind.wrap .u8 (Int.tdiv (bt a0 1) 8)) 2) == 1), .int .i64 0, .int .i64 0, .int .i64 0] rfl KR KR KR KR KR KR KR ?_; clear ha HW a; intro a W6993 HW ha
                        refine endl ?_
                        exact thenN ⟨((Int.tmod (IntKind.wrap .u8 (Int.tdiv (bt a0 1) 8)) 2) == 1), h, ha.sub (subs_cons KR (subs_cons KR (subs_cons KR (subs_nil _)))), HW.pick [0, 1] [] (by decide) (by decide) KR KR⟩
                      · skip
                        replace h := ite_neg' h hp6991
                        replace ha := ha.bool 77 KR (ieq_f hp6991)
                        refine stepo ha 78 KR ?_; clear ha a; intro a ha
                        refine stepo ha 79 KR ?_; clear ha a; intro a ha
                        refine stepo ha 80 KR ?_; clear ha a; intro a ha
                        refine stepo ha 81 KR ?_; clear ha a; intro a ha
                        refine stepo ha 82 KR ?_; clear ha a; intro a ha
                        refine stepp ha 83 (.bool false) KR KR ?_; clear ha a; intro a ha
                        refine stepp ha 84 (.pointer (some ⟨b6917, 3, none⟩)) KR KR ?_; clear ha a; intro a ha
                        refine stepst ha HW 1 (b := b6917) (C := #[.int .i64 (IntKind.wrap .i64 (bt a0 0)), .int .i64 t6979, .int .i64 t6983, .bool false, .int .i64 0, .int .i64 0, .int .i64 0]) (T := 73) KR 4 3 (.tmp 84) (.tmp 83) (.bool false) #[.int .i64 (IntKind.wrap .i64 (bt a0 0)), .int .i64 t6979, .int .i64 t6983, .bool false, .int .i64 0, .int .i64 0, .int .i64 0] rfl KR KR KR KR KR KR KR ?_; clear ha HW a; intro a W6994 HW ha
                        refine endl ?_
                        exact thenN ⟨false, h, ha.sub (subs_cons KR (subs_cons KR (subs_cons KR (subs_nil _)))), HW.pick [0, 1] [] (by decide) (by decide) KR KR⟩
                    · skip
                      intro a W6996 hJ
                      obtain ⟨x6995, h, ha, HW⟩ := hJ
                      replace h : headgateref15_Parse.j3 K a0 t6979 t6983 x6995 = some r := h
                      unfold headgateref15_Parse.j3 at h
                      refine hK6990 _ _ ?_; clear hK6990
                      refine wp_seq_k (fun K6997 hK6998 => ?_)
                      refine wp_region_lit ?_
                      refine stepp ha 85 (.string a0) KR KR ?_; clear ha a; intro a ha
                      refine stepsi ha 86 9 (.tmp 85) (.const (.int .i64 0)) a0 .i64 0 rfl KR KR KR (by decide) (show (0 : Int) < ((a0).size : Int) from hA6916) KR ?_; clear ha a; intro a ha
                      refine stepp ha 87 (.bool ((bt a0 0) == 147)) KR KR ?_; clear ha a; intro a ha
                      refine stepp ha 88 (.bool ((bt a0 0) == 147)) KR KR ?_; clear ha a; intro a ha
                      by_cases hp6999 : (bt a0 0) = 147
                      · skip
                        replace h := ite_pos' h hp6999
                        replace ha := ha.bool 88 KR (ieq_t hp6999)
                        refine stepp ha 89 (.string a0) KR KR ?_; clear ha a; intro a ha
                        obtain ⟨hA7000, h_⟩ := asrt_some h; clear h; have h := h_; clear h_
                        refine stepsi ha 90 9 (.tmp 89) (.const (.int .i64 1)) a0 .i64 1 rfl KR KR KR (by decide) (show (1 : Int) < ((a0).size : Int) from hA7000) KR ?_; clear ha a; intro a ha
                        refine stepp ha 91 (.int .u8 (Int.tmod (bt a0 1) 2)) KR KR ?_; clear ha a; intro a ha
                        refine stepp ha 92 (.bool ((Int.tmod (bt a0 1) 2) == 0)) KR KR ?_; clear ha a; intro a ha
                        refine stepp ha 93 (.bool ((Int.tmod (bt a0 1) 2) == 0)) KR KR ?_; clear ha a; intro a ha
                        refine endl ?_
                        refine thenN (hK6998 _ _ ?_); clear hK6998
                        by_cases hp7001 : (Int.tmod (bt a0 1) 2) = 0
                        · skip
                          replace h := ite_pos' h hp7001
                          refine condT ha KR KR (t := ((Int.tmod (bt a0 1) 2) == 0)) (ieq_t hp7001) ?_
                          refine wp_seq_k (fun K7002 hK7003 => ?_)
                          refine wp_region_lit ?_
                          refine stepp ha 94 (.agg #[.int .i64 0, .int .i64 0, .int .i64 0, .bool false, .int .i64 0, .int .i64 0, .int .i64 0]) KR KR ?_; clear ha a; intro a ha
                          refine stepst ha HW 0 (b := b6888) (C := #[.int .i64 0, .int .i64 0, .int .i64 0, .bool false, .int .i64 0, .int .i64 0, .int .i64 0]) (T := 73) KR 73 0 (.tmp 2) (.tmp 94) (.agg #[.int .i64 0, .int .i64 0, .int .i64 0, .bool false, .int .i64 0, .int .i64 0, .int .i64 0]) #[.int .i64 0, .int .i64 0, .int .i64 0, .bool false, .int .i64 0, .int .i64 0, .int .i64 0] rfl KR KR KR KR KR KR KR ?_; clear ha HW a; intro a W7004 HW ha
                          refine stepp ha 3 (.int .i64 150) KR KR ?_; clear ha a; intro a ha
                          refine endl ?_
                          refine thenN (hK7003 _ _ ?_); clear hK7003
                          refine wp_ret ?_
                          refine blkR ?_
                          refine thenR ?_
                          obtain rfl := Option.some.inj h
                          exact finv ha _ _ rfl (.cell (ad := ⟨b6888, 0, none⟩) (v := .agg #[.int .i64 0, .int .i64 0, .int .i64 0, .bool false, .int .i64 0, .int .i64 0, .int .i64 0]) KR (run_loadVar_ca0 (HW.ca (i := 0) (b := b6888) (C := #[.int .i64 0, .int .i64 0, .int .i64 0, .bool false, .int .i64 0, .int .i64 0, .int .i64 0]) (T := 73) (fr := (0, 0)) KR) 73 0 (.agg #[.int .i64 0, .int .i64 0, .int .i64 0, .bool false, .int .i64 0, .int .i64 0, .int .i64 0]) KR) (.tmp (v := .int .i64 150) KR .nil)) (.tuple #[.agg #[.int .i64 0, .int .i64 0, .int .i64 0, .bool false, .int .i64 0, .int .i64 0, .int .i64 0], .int .i64 150]) rfl ⟨rfl, HW.pick [] [] (by decide) (by decide) rfl KR⟩
                        · skip
                          replace h := ite_neg' h hp7001
                          refine condF ha KR KR (t := ((Int.tmod (bt a0 1) 2) == 0)) (ieq_f hp7001) ?_
                          refine wp_skip ?_
                          refine blkN ?_
                          exact thenN ⟨t6979, t6983, x6995, 0, 0, h, ha.sub (subs_cons KR (subs_cons KR (subs_cons KR (subs_nil _)))), HW.pick [0, 1] [] (by decide) (by decide) KR KR⟩
                      · skip
                        replace h := ite_neg' h hp6999
                        replace ha := ha.bool 88 KR (ieq_f hp6999)
                        refine stepo ha 89 KR ?_; clear ha a; intro a ha
                        refine stepo ha 90 KR ?_; clear ha a; intro a ha
                        refine stepo ha 91 KR ?_; clear ha a; intro a ha
                        refine stepo ha 92 KR ?_; clear ha a; intro a ha
                        refine stepp ha 93 (.bool false) KR KR ?_; clear ha a; intro a ha
                        refine endl ?_
                        refine thenN (hK6998 _ _ ?_); clear hK6998
                        refine condF ha KR KR (t := false) (rfl) ?_
                        refine wp_skip ?_
                        refine blkN ?_
                        exact thenN ⟨t6979, t6983, x6995, 0, 0, h, ha.sub (subs_cons KR (subs_cons KR (subs_cons KR (subs_nil _)))), HW.pick [0, 1] [] (by decide) (by decide) KR KR⟩
                  · skip
                    replace h := ite_neg' h hp6976
                    refine condF ha KR KR (t := x6974) (bool_f hp6976) ?_
                    refine wp_seq_k (fun K7005 hK7006 => ?_)
                    refine wp_region_lit ?_
                    refine stepp ha 96 (.bool ((bt a0 0) == 137)) KR KR ?_; clear ha a; intro a ha
                    refine stepp ha 95 (.bool ((bt a0 0) == 137)) KR KR ?_; clear ha a; intro a ha
                    refine endl ?_
                    refine thenN (hK7006 _ _ ?_); clear hK7006
                    by_cases hp7007 : (bt a0 0) = 137
                    · skip
                      replace h := ite_pos' h hp7007
                      refine condT ha KR KR (t := ((bt a0 0) == 137)) (ieq_t hp7007) ?_
                      obtain ⟨t7008, ht7009, h_⟩ := bind_some' h; clear h; have h := h_; clear h_
                      obtain ⟨hA7012, h_⟩ := asrt_some h; clear h; have h := h_; clear h_
                      refine regionL 7 KR ([(b6888, .cells #[.int .i64 0, .int .i64 0, .int .i64 0, .bool false, .int .i64 0, .int .i64 0, .int .i64 0] 73 (0, 0))], []) ([(b6888, .cells #[.int .i64 0, .int .i64 0, .int .i64 0, .bool false, .int .i64 0, .int .i64 0, .int .i64 0] 73 (0, 0)), (b6917, .cells #[.int .i64 (IntKind.wrap .i64 (bt a0 0)), .int .i64 0, .int .i64 0, .bool false, .int .i64 0, .int .i64 0, .int .i64 0] 73 (0, 0))], []) [none, none, none, none, none, none, some ([(b6888, .cells #[.int .i64 0, .int .i64 0, .int .i64 0, .bool false, .int .i64 0, .int .i64 0, .int .i64 0] 73 (0, 0)), (b6917, .cells #[.int .i64 (IntKind.wrap .i64 (bt a0 0)), .int .i64 t7008, .int .i64 0, .bool false, .int .i64 0, .int .i64 0, .int .i64 0] 73 (0, 0))], [])] [.fix (.string a0), .fix (.int .i64 t7008), .fix (.string a0), .fix (.int .u8 (bt a0 13)), .fix (.int .i64 (IntKind.wrap .i64 (bt a0 13))), .fix (.pointer (some ⟨b6917, 1, none⟩)), .any] KR ha HW ⟨(fun w_ h_ => h_.pick [0] [] (by decide) (by decide) KR KR), (fun w_ h_ => h_.pick [0] [] (by decide) (by decide) KR KR)⟩ ?_ ?_
                      · skip
                        refine ⟨?_, ?_, ?_, ?_, ?_, ?_, ?_, trivial⟩
                        · skip
                          intro a wr hn hd HW hs; have ha := hasNil hn hd
                          have ha := ha.add (seeE hs 0 (.string a0) KR KR)
                          refine yStep ha 97 KR ?_; intro l_ ha HK
                          refine stepp ha 97 (.string a0) KR KR ?_; intro ax hax; exact HK _ _ _ hax rfl (Below.refl _ _)
                        · skip
                          intro a wr hn hd HW hs; have ha := hasNil hn hd
                          have ha := ha.add (seeF hs 97 0 (.string a0) KR KR)
                          refine yStep ha 98 KR ?_; intro l_ ha HK
                          refine stepc ha 98 KR KR (headgateref15_num.calls K a0 2 8 t7008 _ ht7009) ?_; rintro e W7010 ⟨rfl, HX7011⟩
                          refine ⟨_, rfl, ?_⟩; intro ax hax; exact HK _ _ _ hax rfl HX7011.below
                        · skip
                          intro a wr hn hd HW hs; have ha := hasNil hn hd
                          have ha := ha.add (seeE hs 0 (.string a0) KR KR)
                          refine yStep ha 99 KR ?_; intro l_ ha HK
                          refine stepp ha 99 (.string a0) KR KR ?_; intro ax hax; exact HK _ _ _ hax rfl (Below.refl _ _)
                        · skip
                          intro a wr hn hd HW hs; have ha := hasNil hn hd
                          have ha := ha.add (seeF hs 99 2 (.string a0) KR KR)
                          refine yStep ha 100 KR ?_; intro l_ ha HK
                          refine stepsi ha 100 9 (.tmp 99) (.const (.int .i64 13)) a0 .i64 13 rfl KR KR KR (by decide) (show (13 : Int) < ((a0).size : Int) from hA7012) KR ?_; intro ax hax; exact HK _ _ _ hax rfl (Below.refl _ _)
                        · skip
                          intro a wr hn hd HW hs; have ha := hasNil hn hd
                          have ha := ha.add (seeF hs 100 3 (.int .u8 (bt a0 13)) KR KR)
                          refine yStep ha 101 KR ?_; intro l_ ha HK
                          refine stepp ha 101 (.int .i64 (IntKind.wrap .i64 (bt a0 13))) KR KR ?_; intro ax hax; exact HK _ _ _ hax rfl (Below.refl _ _)
                        · skip
                          intro a wr hn hd HW hs; have ha := hasNil hn hd
                          have ha := ha.add (seeE hs 5 (.pointer (some ⟨b6917, 0, none⟩)) KR KR)
                          refine yStep ha 102 KR ?_; intro l_ ha HK
                          refine stepp ha 102 (.pointer (some ⟨b6917, 1, none⟩)) KR KR ?_; intro ax hax; exact HK _ _ _ hax rfl (Below.refl _ _)
                        · skip
                          intro a wr hn hd HW hs; have ha := hasNil hn hd
                          have ha := ha.add (seeF hs 98 1 (.int .i64 t7008) KR KR)
                          have ha := ha.add (seeF hs 102 5 (.pointer (some ⟨b6917, 1, none⟩)) KR KR)
                          refine yStepS ha KR ?_; intro l_ ha HK
                          refine stepst ha HW 1 (b := b6917) (C := #[.int .i64 (IntKind.wrap .i64 (bt a0 0)), .int .i64 0, .int .i64 0, .bool false, .int .i64 0, .int .i64 0, .int .i64 0]) (T := 73) KR 3 1 (.tmp 102) (.tmp 98) (.int .i64 t7008) #[.int .i64 (IntKind.wrap .i64 (bt a0 0)), .int .i64 t7008, .int .i64 0, .bool false, .int .i64 0, .int .i64 0, .int .i64 0] rfl KR KR KR KR KR KR KR ?_; intro ax wx HV hax; exact HK _ _ hax HV
                      · skip
                        intro a W7014 ha HW he hf
                        replace HW : Wd w W7014 [(b6888, .cells #[.int .i64 0, .int .i64 0, .int .i64 0, .bool false, .int .i64 0, .int .i64 0, .int .i64 0] 73 (0, 0)), (b6917, .cells #[.int .i64 (IntKind.wrap .i64 (bt a0 0)), .int .i64 t7008, .int .i64 0, .bool false, .int .i64 0, .int .i64 0, .int .i64 0] 73 (0, 0))] [] := HW
                        replace ha := ha.add (he 0 (.string a0) KR KR)
                        replace ha := ha.add (he 2 (.pointer (some ⟨b6888, 0, none⟩)) KR KR)
                        replace ha := ha.add (he 5 (.pointer (some ⟨b6917, 0, none⟩)) KR KR)
                        replace ha := ha.add (gotF (m := 7) (j := 4) (d := 101) (v := .int .i64 (IntKind.wrap .i64 (bt a0 13))) hf KR KR KR)
                        clear he hf
                        refine stepp ha 103 (.pointer (some ⟨b6917, 2, none⟩)) KR KR ?_; clear ha a; intro a ha
                        refine stepst ha HW 1 (b := b6917) (C := #[.int .i64 (IntKind.wrap .i64 (bt a0 0)), .int .i64 t7008, .int .i64 0, .bool false, .int .i64 0, .int .i64 0, .int .i64 0]) (T := 73) KR 3 2 (.tmp 103) (.tmp 101) (.int .i64 (IntKind.wrap .i64 (bt a0 13))) #[.int .i64 (IntKind.wrap .i64 (bt a0 0)), .int .i64 t7008, .int .i64 (IntKind.wrap .i64 (bt a0 13)), .bool false, .int .i64 0, .int .i64 0, .int .i64 0] rfl KR KR KR KR KR KR KR ?_; clear ha HW a; intro a W7015 HW ha
                        refine endl ?_
                        refine blkN ?_
                        exact thenN ⟨t7008, IntKind.wrap .i64 (bt a0 13), false, 0, 0, h, ha.sub (subs_cons KR (subs_cons KR (subs_cons KR (subs_nil _)))), HW.pick [0, 1] [] (by decide) (by decide) KR KR⟩
                    · skip
                      replace h := ite_neg' h hp7007
                      refine condF ha KR KR (t := ((bt a0 0) == 137)) (ieq_f hp7007) ?_
                      refine wp_seq_k (fun K7016 hK7017 => ?_)
                      refine wp_region_lit ?_
                      refine stepp ha 105 (.bool ((bt a0 0) == 66)) KR KR ?_; clear ha a; intro a ha
                      refine stepp ha 104 (.bool ((bt a0 0) == 66)) KR KR ?_; clear ha a; intro a ha
                      refine endl ?_
                      refine thenN (hK7017 _ _ ?_); clear hK7017
                      by_cases hp7018 : (bt a0 0) = 66
                      · skip
                        replace h := ite_pos' h hp7018
                        refine condT ha KR KR (t := ((bt a0 0) == 66)) (ieq_t hp7018) ?_
                        refine wp_region_lit ?_
                        refine stepp ha 106 (.string a0) KR KR ?_; clear ha a; intro a ha
                        obtain ⟨t7019, ht7020, h_⟩ := bind_some' h; clear h; have h := h_; clear h_
                        refine stepc ha 107 KR KR (headgateref15_num.calls K a0 7 2 t7019 _ ht7020) ?_; clear ha a; rintro e W7021 ⟨rfl, HX7022⟩
                        refine ⟨_, rfl, ?_⟩; intro a ha; replace HW := HW.callw HX7022; clear HX7022
                        refine stepp ha 108 (.pointer (some ⟨b6917, 5, none⟩)) KR KR ?_; clear ha a; intro a ha
                        refine stepst ha HW 1 (b := b6917) (C := #[.int .i64 (IntKind.wrap .i64 (bt a0 0)), .int .i64 0, .int .i64 0, .bool false, .int .i64 0, .int .i64 0, .int .i64 0]) (T := 73) KR 3 5 (.tmp 108) (.tmp 107) (.int .i64 t7019) #[.int .i64 (IntKind.wrap .i64 (bt a0 0)), .int .i64 0, .int .i64 0, .bool false, .int .i64 0, .int .i64 t7019, .int .i64 0] rfl KR KR KR KR KR KR KR ?_; clear ha HW a; intro a W7023 HW ha
                        refine endl ?_
                        refine blkN ?_
                        exact thenN ⟨0, 0, false, 0, t7019, h, ha.sub (subs_cons KR (subs_cons KR (subs_cons KR (subs_nil _)))), HW.pick [0, 1] [] (by decide) (by decide) KR KR⟩
                      · skip
                        replace h := ite_neg' h hp7018
                        refine condF ha KR KR (t := ((bt a0 0) == 66)) (ieq_f hp7018) ?_
                        refine wp_seq_k (fun K7024 hK7025 => ?_)
                        refine wp_region_lit ?_
                        refine stepp ha 110 (.bool ((bt a0 0) == 160)) KR KR ?_; clear ha a; intro a ha
                        refine stepp ha 109 (.bool ((bt a0 0) == 160)) KR KR ?_; clear ha a; intro a ha
                        refine endl ?_
                        refine thenN (hK7025 _ _ ?_); clear hK7025
                        by_cases hp7026 : (bt a0 0) = 160
                        · skip
                          replace h := ite_pos' h hp7026
                          refine condT ha KR KR (t := ((bt a0 0) == 160)) (ieq_t hp7026) ?_
                          refine wp_region_lit ?_
                          refine stepp ha 111 (.string a0) KR KR ?_; clear ha a; intro a ha
                          obtain ⟨t7027, ht7028, h_⟩ := bind_some' h; clear h; have h := h_; clear h_
                          refine stepc ha 112 KR KR (headgateref15_num.calls K a0 6 4 t7027 _ ht7028) ?_; clear ha a; rintro e W7029 ⟨rfl, HX7030⟩
                          refine ⟨_, rfl, ?_⟩; intro a ha; replace HW := HW.callw HX7030; clear HX7030
                          refine stepp ha 113 (.pointer (some ⟨b6917, 5, none⟩)) KR KR ?_; clear ha a; intro a ha
                          refine stepst ha HW 1 (b := b6917) (C := #[.int .i64 (IntKind.wrap .i64 (bt a0 0)), .int .i64 0, .int .i64 0, .bool false, .int .i64 0, .int .i64 0, .int .i64 0]) (T := 73) KR 3 5 (.tmp 113) (.tmp 112) (.int .i64 t7027) #[.int .i64 (IntKind.wrap .i64 (bt a0 0)), .int .i64 0, .int .i64 0, .bool false, .int .i64 0, .int .i64 t7027, .int .i64 0] rfl KR KR KR KR KR KR KR ?_; clear ha HW a; intro a W7031 HW ha
                          refine endl ?_
                          refine blkN ?_
                          exact thenN ⟨0, 0, false, 0, t7027, h, ha.sub (subs_cons KR (subs_cons KR (subs_cons KR (subs_nil _)))), HW.pick [0, 1] [] (by decide) (by decide) KR KR⟩
                        · skip
                          replace h := ite_neg' h hp7026
                          refine condF ha KR KR (t := ((bt a0 0) == 160)) (ieq_f hp7026) ?_
                          refine wp_seq_k (fun K7032 hK7033 => ?_)
                          refine cutn (fun a W7038 => ∃ (x7037 : Bool), headgateref15_Parse.j4 K a0 x7037 = some r ∧ Has 142 [(0, .string a0), (2, .pointer (some ⟨b6888, 0, none⟩)), (5, .pointer (some ⟨b6917, 0, none⟩)), (114, .bool x7037)] a ∧ Wd w W7038 [(b6888, .cells #[.int .i64 0, .int .i64 0, .int .i64 0, .bool false, .int .i64 0, .int .i64 0, .int .i64 0] 73 (0, 0)), (b6917, .cells #[.int .i64 (IntKind.wrap .i64 (bt a0 0)), .int .i64 0, .int .i64 0, .bool false, .int .i64 0, .int .i64 0, .int .i64 0] 73 (0, 0))] []) ?_ ?_
                          · skip
                            refine wp_seq_k (fun K7034 hK7035 => ?_)
                            refine wp_region_lit ?_
                            refine stepp ha 115 (.bool ((bt a0 0) == 94)) KR KR ?_; clear ha a; intro a ha
                            refine stepp ha 114 (.bool ((bt a0 0) == 94)) KR KR ?_; clear ha a; intro a ha
                            refine endl ?_
                            refine thenN (hK7035 _ _ ?_); clear hK7035
                            by_cases hp7036 : (bt a0 0) = 94
                            · skip
                              replace h := ite_pos' h hp7036
                              refine condT ha KR KR (t := ((bt a0 0) == 94)) (ieq_t hp7036) ?_
                              refine wp_skip ?_
                              exact thenN ⟨((bt a0 0) == 94), h, ha.sub (subs_cons KR (subs_cons KR (subs_cons KR (subs_cons KR (subs_nil _))))), HW.pick [0, 1] [] (by decide) (by decide) KR KR⟩
                            · skip
                              replace h := ite_neg' h hp7036
                              refine condF ha KR KR (t := ((bt a0 0) == 94)) (ieq_f hp7036) ?_
                              refine wp_region_lit ?_
                              refine stepp ha 116 (.bool ((bt a0 0) == 95)) KR KR ?_; clear ha a; intro a ha
                              refine stepp ha 114 (.bool ((bt a0 0) == 95)) KR KR ?_; clear ha a; intro a ha
                              refine endl ?_
                              exact thenN ⟨((bt a0 0) == 95), h, ha.sub (subs_cons KR (subs_cons KR (subs_cons KR (subs_cons KR (subs_nil _))))), HW.pick [0, 1] [] (by decide) (by decide) KR KR⟩
                          · skip
                            intro a W7038 hJ
                            obtain ⟨x7037, h, ha, HW⟩ := hJ
                            replace h : headgateref15_Parse.j4 K a0 x7037 = some r := h
                            unfold headgateref15_Parse.j4 at h
                            refine hK7033 _ _ ?_; clear hK7033
                            by_cases hp7039 : x7037 = true
                            · skip
                              replace h := ite_pos' h hp7039
                              refine condT ha KR KR (t := x7037) (hp7039) ?_
                              refine wp_seq_k (fun K7040 hK7041 => ?_)
                              refine wp_region_lit ?_
                              refine stepp ha 117 (.string a0) KR KR ?_; clear ha a; intro a ha
                              refine stepl ha 118 (HW.ca (i := 1) (b := b6917) (C := #[.int .i64 (IntKind.wrap .i64 (bt a0 0)), .int .i64 0, .int .i64 0, .bool false, .int .i64 0, .int .i64 0, .int .i64 0]) (T := 73) (fr := (0, 0)) KR) 73 0 (.tmp 5) (.agg #[.int .i64 (IntKind.wrap .i64 (bt a0 0)), .int .i64 0, .int .i64 0, .bool false, .int .i64 0, .int .i64 0, .int .i64 0]) rfl KR KR KR ?_; clear ha a; intro a ha
                              obtain ⟨t7042, ht7043, h_⟩ := bind_some' h; clear h; have h := h_; clear h_
                              refine stepc ha 119 KR KR (headgateref15_reservation.calls K a0 (⟨IntKind.wrap .i64 (bt a0 0), 0, 0, false, 0, 0, 0⟩ : T_headgateref15_Ask) t7042 _ ht7043) ?_; clear ha a; rintro e W7044 ⟨rfl, HX7045⟩
                              refine ⟨_, rfl, ?_⟩; intro a ha; replace HW := HW.callw HX7045; clear HX7045
                              refine stepp ha 120 (.agg #[.int .i64 t7042.1.f0, .int .i64 t7042.1.f1, .int .i64 t7042.1.f2, .bool t7042.1.f3, .int .i64 t7042.1.f4, .int .i64 t7042.1.f5, .int .i64 t7042.1.f6]) KR KR ?_; clear ha a; intro a ha
                              refine stepp ha 121 (.int .i64 t7042.2) KR KR ?_; clear ha a; intro a ha
                              refine stepst ha HW 0 (b := b6888) (C := #[.int .i64 0, .int .i64 0, .int .i64 0, .bool false, .int .i64 0, .int .i64 0, .int .i64 0]) (T := 73) KR 73 0 (.tmp 2) (.tmp 120) (.agg #[.int .i64 t7042.1.f0, .int .i64 t7042.1.f1, .int .i64 t7042.1.f2, .bool t7042.1.f3, .int .i64 t7042.1.f4, .int .i64 t7042.1.f5, .int .i64 t7042.1.f6]) #[.int .i64 t7042.1.f0, .int .i64 t7042.1.f1, .int .i64 t7042.1.f2, .bool t7042.1.f3, .int .i64 t7042.1.f4, .int .i64 t7042.1.f5, .int .i64 t7042.1.f6] rfl KR KR KR KR KR KR KR ?_; clear ha HW a; intro a W7046 HW ha
                              refine stepp ha 3 (.int .i64 t7042.2) KR KR ?_; clear ha a; intro a ha
                              refine endl ?_
                              refine thenN (hK7041 _ _ ?_); clear hK7041
                              refine wp_ret ?_
                              refine blkR ?_
                              refine thenR ?_
                              obtain rfl := Option.some.inj h
                              exact finv ha _ _ rfl (.cell (ad := ⟨b6888, 0, none⟩) (v := .agg #[.int .i64 t7042.1.f0, .int .i64 t7042.1.f1, .int .i64 t7042.1.f2, .bool t7042.1.f3, .int .i64 t7042.1.f4, .int .i64 t7042.1.f5, .int .i64 t7042.1.f6]) KR (run_loadVar_ca0 (HW.ca (i := 0) (b := b6888) (C := #[.int .i64 t7042.1.f0, .int .i64 t7042.1.f1, .int .i64 t7042.1.f2, .bool t7042.1.f3, .int .i64 t7042.1.f4, .int .i64 t7042.1.f5, .int .i64 t7042.1.f6]) (T := 73) (fr := (0, 0)) KR) 73 0 (.agg #[.int .i64 t7042.1.f0, .int .i64 t7042.1.f1, .int .i64 t7042.1.f2, .bool t7042.1.f3, .int .i64 t7042.1.f4, .int .i64 t7042.1.f5, .int .i64 t7042.1.f6]) KR) (.tmp (v := .int .i64 t7042.2) KR .nil)) (.tuple #[.agg #[.int .i64 t7042.1.f0, .int .i64 t7042.1.f1, .int .i64 t7042.1.f2, .bool t7042.1.f3, .int .i64 t7042.1.f4, .int .i64 t7042.1.f5, .int .i64 t7042.1.f6], .int .i64 t7042.2]) rfl ⟨rfl, HW.pick [] [] (by decide) (by decide) rfl KR⟩
                            · skip
                              replace h := ite_neg' h hp7039
                              refine condF ha KR KR (t := x7037) (bool_f hp7039) ?_
                              refine wp_skip ?_
                              refine blkN ?_
                              exact thenN ⟨0, 0, false, 0, 0, h, ha.sub (subs_cons KR (subs_cons KR (subs_cons KR (subs_nil _)))), HW.pick [0, 1] [] (by decide) (by decide) KR KR⟩
        · skip
          intro a W7052 hJ
          obtain ⟨x7047, x7048, x7049, x7050, x7051, h, ha, HW⟩ := hJ
          replace h : headgateref15_Parse.j5 K a0 x7047 x7048 x7049 x7050 x7051 = some r := h
          unfold headgateref15_Parse.j5 at h
          refine hK6921 _ _ ?_; clear hK6921
          refine wp_seq_k (fun K7053 hK7054 => ?_)
          refine wp_seq_k (fun K7055 hK7056 => ?_)
          refine wp_region_lit ?_
          refine stepp ha 122 (.string a0) KR KR ?_; clear ha a; intro a ha
          refine stepsi ha 123 9 (.tmp 122) (.const (.int .i64 0)) a0 .i64 0 rfl KR KR KR (by decide) (show (0 : Int) < ((a0).size : Int) from hA6916) KR ?_; clear ha a; intro a ha
          refine stepp ha 124 (.bool (decide ((bt a0 0) ≥ 136))) KR KR ?_; clear ha a; intro a ha
          refine stepp ha 125 (.bool (decide ((bt a0 0) ≥ 136))) KR KR ?_; clear ha a; intro a ha
          by_cases hp7057 : (bt a0 0) ≥ 136
          · skip
            replace h := ite_pos' h hp7057
            replace ha := ha.bool 125 KR (decide_eq_true hp7057)
            refine stepp ha 126 (.string a0) KR KR ?_; clear ha a; intro a ha
            refine stepsi ha 127 9 (.tmp 126) (.const (.int .i64 0)) a0 .i64 0 rfl KR KR KR (by decide) (show (0 : Int) < ((a0).size : Int) from hA6916) KR ?_; clear ha a; intro a ha
            refine stepp ha 128 (.bool (decide ((bt a0 0) ≤ 147))) KR KR ?_; clear ha a; intro a ha
            refine stepp ha 129 (.bool (decide ((bt a0 0) ≤ 147))) KR KR ?_; clear ha a; intro a ha
            refine stepp ha 130 (.bool (decide ((bt a0 0) ≤ 147))) KR KR ?_; clear ha a; intro a ha
            by_cases hp7058 : (bt a0 0) ≤ 147
            · skip
              replace h := ite_pos' h hp7058
              replace ha := ha.bool 130 KR (decide_eq_true hp7058)
              refine stepp ha 131 (.pointer (some ⟨b6917, 1, none⟩)) KR KR ?_; clear ha a; intro a ha
              refine stepl ha 132 (HW.ca (i := 1) (b := b6917) (C := #[.int .i64 (IntKind.wrap .i64 (bt a0 0)), .int .i64 x7047, .int .i64 x7048, .bool x7049, .int .i64 x7050, .int .i64 x7051, .int .i64 0]) (T := 73) (fr := (0, 0)) KR) 3 1 (.tmp 131) (.int .i64 x7047) rfl KR KR KR ?_; clear ha a; intro a ha
              refine stepp ha 133 (.bool (decide (x7047 ≥ 2147483648))) KR KR ?_; clear ha a; intro a ha
              refine stepp ha 134 (.bool (decide (x7047 ≥ 2147483648))) KR KR ?_; clear ha a; intro a ha
              by_cases hp7059 : x7047 ≥ 2147483648
              · skip
                replace h := ite_pos' h hp7059
                replace ha := ha.bool 134 KR (decide_eq_true hp7059)
                refine stepo ha 135 KR ?_; clear ha a; intro a ha
                refine stepo ha 136 KR ?_; clear ha a; intro a ha
                refine stepo ha 137 KR ?_; clear ha a; intro a ha
                refine stepp ha 138 (.bool true) KR KR ?_; clear ha a; intro a ha
                refine stepp ha 139 (.bool true) KR KR ?_; clear ha a; intro a ha
                refine endl ?_
                refine thenN (hK7056 _ _ ?_); clear hK7056
                refine condT ha KR KR (t := true) (rfl) ?_
                refine wp_seq_k (fun K7060 hK7061 => ?_)
                refine wp_region_lit ?_
                refine stepp ha 140 (.agg #[.int .i64 0, .int .i64 0, .int .i64 0, .bool false, .int .i64 0, .int .i64 0, .int .i64 0]) KR KR ?_; clear ha a; intro a ha
                refine stepst ha HW 0 (b := b6888) (C := #[.int .i64 0, .int .i64 0, .int .i64 0, .bool false, .int .i64 0, .int .i64 0, .int .i64 0]) (T := 73) KR 73 0 (.tmp 2) (.tmp 140) (.agg #[.int .i64 0, .int .i64 0, .int .i64 0, .bool false, .int .i64 0, .int .i64 0, .int .i64 0]) #[.int .i64 0, .int .i64 0, .int .i64 0, .bool false, .int .i64 0, .int .i64 0, .int .i64 0] rfl KR KR KR KR KR KR KR ?_; clear ha HW a; intro a W7062 HW ha
                refine stepp ha 3 (.int .i64 150) KR KR ?_; clear ha a; intro a ha
                refine endl ?_
                refine thenN (hK7061 _ _ ?_); clear hK7061
                refine wp_ret ?_
                refine thenR ?_
                obtain rfl := Option.some.inj h
                exact finv ha _ _ rfl (.cell (ad := ⟨b6888, 0, none⟩) (v := .agg #[.int .i64 0, .int .i64 0, .int .i64 0, .bool false, .int .i64 0, .int .i64 0, .int .i64 0]) KR (run_loadVar_ca0 (HW.ca (i := 0) (b := b6888) (C := #[.int .i64 0, .int .i64 0, .int .i64 0, .bool false, .int .i64 0, .int .i64 0, .int .i64 0]) (T := 73) (fr := (0, 0)) KR) 73 0 (.agg #[.int .i64 0, .int .i64 0, .int .i64 0, .bool false, .int .i64 0, .int .i64 0, .int .i64 0]) KR) (.tmp (v := .int .i64 150) KR .nil)) (.tuple #[.agg #[.int .i64 0, .int .i64 0, .int .i64 0, .bool false, .int .i64 0, .int .i64 0, .int .i64 0], .int .i64 150]) rfl ⟨rfl, HW.pick [] [] (by decide) (by decide) rfl KR⟩
              · skip
                replace h := ite_neg' h hp7059
                replace ha := ha.bool 134 KR (decide_eq_false hp7059)
                refine stepp ha 135 (.pointer (some ⟨b6917, 2, none⟩)) KR KR ?_; clear ha a; intro a ha
                refine stepl ha 136 (HW.ca (i := 1) (b := b6917) (C := #[.int .i64 (IntKind.wrap .i64 (bt a0 0)), .int .i64 x7047, .int .i64 x7048, .bool x7049, .int .i64 x7050, .int .i64 x7051, .int .i64 0]) (T := 73) (fr := (0, 0)) KR) 3 2 (.tmp 135) (.int .i64 x7048) rfl KR KR KR ?_; clear ha a; intro a ha
                refine stepp ha 137 (.bool (decide (x7048 ≥ 2147483648))) KR KR ?_; clear ha a; intro a ha
                refine stepp ha 138 (.bool (decide (x7048 ≥ 2147483648))) KR KR ?_; clear ha a; intro a ha
                refine stepp ha 139 (.bool (decide (x7048 ≥ 2147483648))) KR KR ?_; clear ha a; intro a ha
                refine endl ?_
                refine thenN (hK7056 _ _ ?_); clear hK7056
                by_cases hp7063 : x7048 ≥ 2147483648
                · skip
                  replace h := ite_pos' h hp7063
                  refine condT ha KR KR (t := decide (x7048 ≥ 2147483648)) (decide_eq_true hp7063) ?_
                  refine wp_seq_k (fun K7064 hK7065 => ?_)
                  refine wp_region_lit ?_
                  refine stepp ha 140 (.agg #[.int .i64 0, .int .i64 0, .int .i64 0, .bool false, .int .i64 0, .int .i64 0, .int .i64 0]) KR KR ?_; clear ha a; intro a ha
                  refine stepst ha HW 0 (b := b6888) (C := #[.int .i64 0, .int .i64 0, .int .i64 0, .bool false, .int .i64 0, .int .i64 0, .int .i64 0]) (T := 73) KR 73 0 (.tmp 2) (.tmp 140) (.agg #[.int .i64 0, .int .i64 0, .int .i64 0, .bool false, .int .i64 0, .int .i64 0, .int .i64 0]) #[.int .i64 0, .int .i64 0, .int .i64 0, .bool false, .int .i64 0, .int .i64 0, .int .i64 0] rfl KR KR KR KR KR KR KR ?_; clear ha HW a; intro a W7066 HW ha
                  refine stepp ha 3 (.int .i64 150) KR KR ?_; clear ha a; intro a ha
                  refine endl ?_
                  refine thenN (hK7065 _ _ ?_); clear hK7065
                  refine wp_ret ?_
                  refine thenR ?_
                  obtain rfl := Option.some.inj h
                  exact finv ha _ _ rfl (.cell (ad := ⟨b6888, 0, none⟩) (v := .agg #[.int .i64 0, .int .i64 0, .int .i64 0, .bool false, .int .i64 0, .int .i64 0, .int .i64 0]) KR (run_loadVar_ca0 (HW.ca (i := 0) (b := b6888) (C := #[.int .i64 0, .int .i64 0, .int .i64 0, .bool false, .int .i64 0, .int .i64 0, .int .i64 0]) (T := 73) (fr := (0, 0)) KR) 73 0 (.agg #[.int .i64 0, .int .i64 0, .int .i64 0, .bool false, .int .i64 0, .int .i64 0, .int .i64 0]) KR) (.tmp (v := .int .i64 150) KR .nil)) (.tuple #[.agg #[.int .i64 0, .int .i64 0, .int .i64 0, .bool false, .int .i64 0, .int .i64 0, .int .i64 0], .int .i64 150]) rfl ⟨rfl, HW.pick [] [] (by decide) (by decide) rfl KR⟩
                · skip
                  replace h := ite_neg' h hp7063
                  refine condF ha KR KR (t := decide (x7048 ≥ 2147483648)) (decide_eq_false hp7063) ?_
                  refine wp_skip ?_
                  refine thenN (hK7054 _ _ ?_); clear hK7054
                  refine wp_seq_k (fun K7067 hK7068 => ?_)
                  refine wp_region_lit ?_
                  refine stepl ha 141 (HW.ca (i := 1) (b := b6917) (C := #[.int .i64 (IntKind.wrap .i64 (bt a0 0)), .int .i64 x7047, .int .i64 x7048, .bool x7049, .int .i64 x7050, .int .i64 x7051, .int .i64 0]) (T := 73) (fr := (0, 0)) KR) 73 0 (.tmp 5) (.agg #[.int .i64 (IntKind.wrap .i64 (bt a0 0)), .int .i64 x7047, .int .i64 x7048, .bool x7049, .int .i64 x7050, .int .i64 x7051, .int .i64 0]) rfl KR KR KR ?_; clear ha a; intro a ha
                  refine stepst ha HW 0 (b := b6888) (C := #[.int .i64 0, .int .i64 0, .int .i64 0, .bool false, .int .i64 0, .int .i64 0, .int .i64 0]) (T := 73) KR 73 0 (.tmp 2) (.tmp 141) (.agg #[.int .i64 (IntKind.wrap .i64 (bt a0 0)), .int .i64 x7047, .int .i64 x7048, .bool x7049, .int .i64 x7050, .int .i64 x7051, .int .i64 0]) #[.int .i64 (IntKind.wrap .i64 (bt a0 0)), .int .i64 x7047, .int .i64 x7048, .bool x7049, .int .i64 x7050, .int .i64 x7051, .int .i64 0] rfl KR KR KR KR KR KR KR ?_; clear ha HW a; intro a W7069 HW ha
                  refine stepp ha 3 (.int .i64 0) KR KR ?_; clear ha a; intro a ha
                  refine endl ?_
                  refine thenN (hK7068 _ _ ?_); clear hK7068
                  refine wp_ret ?_
                  obtain rfl := Option.some.inj h
                  exact finv ha _ _ rfl (.cell (ad := ⟨b6888, 0, none⟩) (v := .agg #[.int .i64 (IntKind.wrap .i64 (bt a0 0)), .int .i64 x7047, .int .i64 x7048, .bool x7049, .int .i64 x7050, .int .i64 x7051, .int .i64 0]) KR (run_loadVar_ca0 (HW.ca (i := 0) (b := b6888) (C := #[.int .i64 (IntKind.wrap .i64 (bt a0 0)), .int .i64 x7047, .int .i64 x7048, .bool x7049, .int .i64 x7050, .int .i64 x7051, .int .i64 0]) (T := 73) (fr := (0, 0)) KR) 73 0 (.agg #[.int .i64 (IntKind.wrap .i64 (bt a0 0)), .int .i64 x7047, .int .i64 x7048, .bool x7049, .int .i64 x7050, .int .i64 x7051, .int .i64 0]) KR) (.tmp (v := .int .i64 0) KR .nil)) (.tuple #[.agg #[.int .i64 (IntKind.wrap .i64 (bt a0 0)), .int .i64 x7047, .int .i64 x7048, .bool x7049, .int .i64 x7050, .int .i64 x7051, .int .i64 0], .int .i64 0]) rfl ⟨rfl, HW.pick [] [] (by decide) (by decide) rfl KR⟩
            · skip
              replace h := ite_neg' h hp7058
              replace ha := ha.bool 130 KR (decide_eq_false hp7058)
              refine stepo ha 131 KR ?_; clear ha a; intro a ha
              refine stepo ha 132 KR ?_; clear ha a; intro a ha
              refine stepo ha 133 KR ?_; clear ha a; intro a ha
              refine stepo ha 134 KR ?_; clear ha a; intro a ha
              refine stepo ha 135 KR ?_; clear ha a; intro a ha
              refine stepo ha 136 KR ?_; clear ha a; intro a ha
              refine stepo ha 137 KR ?_; clear ha a; intro a ha
              refine stepo ha 138 KR ?_; clear ha a; intro a ha
              refine stepp ha 139 (.bool false) KR KR ?_; clear ha a; intro a ha
              refine endl ?_
              refine thenN (hK7056 _ _ ?_); clear hK7056
              refine condF ha KR KR (t := false) (rfl) ?_
              refine wp_skip ?_
              refine thenN (hK7054 _ _ ?_); clear hK7054
              refine wp_seq_k (fun K7070 hK7071 => ?_)
              refine wp_region_lit ?_
              refine stepl ha 141 (HW.ca (i := 1) (b := b6917) (C := #[.int .i64 (IntKind.wrap .i64 (bt a0 0)), .int .i64 x7047, .int .i64 x7048, .bool x7049, .int .i64 x7050, .int .i64 x7051, .int .i64 0]) (T := 73) (fr := (0, 0)) KR) 73 0 (.tmp 5) (.agg #[.int .i64 (IntKind.wrap .i64 (bt a0 0)), .int .i64 x7047, .int .i64 x7048, .bool x7049, .int .i64 x7050, .int .i64 x7051, .int .i64 0]) rfl KR KR KR ?_; clear ha a; intro a ha
              refine stepst ha HW 0 (b := b6888) (C := #[.int .i64 0, .int .i64 0, .int .i64 0, .bool false, .int .i64 0, .int .i64 0, .int .i64 0]) (T := 73) KR 73 0 (.tmp 2) (.tmp 141) (.agg #[.int .i64 (IntKind.wrap .i64 (bt a0 0)), .int .i64 x7047, .int .i64 x7048, .bool x7049, .int .i64 x7050, .int .i64 x7051, .int .i64 0]) #[.int .i64 (IntKind.wrap .i64 (bt a0 0)), .int .i64 x7047, .int .i64 x7048, .bool x7049, .int .i64 x7050, .int .i64 x7051, .int .i64 0] rfl KR KR KR KR KR KR KR ?_; clear ha HW a; intro a W7072 HW ha
              refine stepp ha 3 (.int .i64 0) KR KR ?_; clear ha a; intro a ha
              refine endl ?_
              refine thenN (hK7071 _ _ ?_); clear hK7071
              refine wp_ret ?_
              obtain rfl := Option.some.inj h
              exact finv ha _ _ rfl (.cell (ad := ⟨b6888, 0, none⟩) (v := .agg #[.int .i64 (IntKind.wrap .i64 (bt a0 0)), .int .i64 x7047, .int .i64 x7048, .bool x7049, .int .i64 x7050, .int .i64 x7051, .int .i64 0]) KR (run_loadVar_ca0 (HW.ca (i := 0) (b := b6888) (C := #[.int .i64 (IntKind.wrap .i64 (bt a0 0)), .int .i64 x7047, .int .i64 x7048, .bool x7049, .int .i64 x7050, .int .i64 x7051, .int .i64 0]) (T := 73) (fr := (0, 0)) KR) 73 0 (.agg #[.int .i64 (IntKind.wrap .i64 (bt a0 0)), .int .i64 x7047, .int .i64 x7048, .bool x7049, .int .i64 x7050, .int .i64 x7051, .int .i64 0]) KR) (.tmp (v := .int .i64 0) KR .nil)) (.tuple #[.agg #[.int .i64 (IntKind.wrap .i64 (bt a0 0)), .int .i64 x7047, .int .i64 x7048, .bool x7049, .int .i64 x7050, .int .i64 x7051, .int .i64 0], .int .i64 0]) rfl ⟨rfl, HW.pick [] [] (by decide) (by decide) rfl KR⟩
          · skip
            replace h := ite_neg' h hp7057
            replace ha := ha.bool 125 KR (decide_eq_false hp7057)
            refine stepo ha 126 KR ?_; clear ha a; intro a ha
            refine stepo ha 127 KR ?_; clear ha a; intro a ha
            refine stepo ha 128 KR ?_; clear ha a; intro a ha
            refine stepp ha 129 (.bool false) KR KR ?_; clear ha a; intro a ha
            refine stepp ha 130 (.bool false) KR KR ?_; clear ha a; intro a ha
            refine stepo ha 131 KR ?_; clear ha a; intro a ha
            refine stepo ha 132 KR ?_; clear ha a; intro a ha
            refine stepo ha 133 KR ?_; clear ha a; intro a ha
            refine stepo ha 134 KR ?_; clear ha a; intro a ha
            refine stepo ha 135 KR ?_; clear ha a; intro a ha
            refine stepo ha 136 KR ?_; clear ha a; intro a ha
            refine stepo ha 137 KR ?_; clear ha a; intro a ha
            refine stepo ha 138 KR ?_; clear ha a; intro a ha
            refine stepp ha 139 (.bool false) KR KR ?_; clear ha a; intro a ha
            refine endl ?_
            refine thenN (hK7056 _ _ ?_); clear hK7056
            refine condF ha KR KR (t := false) (rfl) ?_
            refine wp_skip ?_
            refine thenN (hK7054 _ _ ?_); clear hK7054
            refine wp_seq_k (fun K7073 hK7074 => ?_)
            refine wp_region_lit ?_
            refine stepl ha 141 (HW.ca (i := 1) (b := b6917) (C := #[.int .i64 (IntKind.wrap .i64 (bt a0 0)), .int .i64 x7047, .int .i64 x7048, .bool x7049, .int .i64 x7050, .int .i64 x7051, .int .i64 0]) (T := 73) (fr := (0, 0)) KR) 73 0 (.tmp 5) (.agg #[.int .i64 (IntKind.wrap .i64 (bt a0 0)), .int .i64 x7047, .int .i64 x7048, .bool x7049, .int .i64 x7050, .int .i64 x7051, .int .i64 0]) rfl KR KR KR ?_; clear ha a; intro a ha
            refine stepst ha HW 0 (b := b6888) (C := #[.int .i64 0, .int .i64 0, .int .i64 0, .bool false, .int .i64 0, .int .i64 0, .int .i64 0]) (T := 73) KR 73 0 (.tmp 2) (.tmp 141) (.agg #[.int .i64 (IntKind.wrap .i64 (bt a0 0)), .int .i64 x7047, .int .i64 x7048, .bool x7049, .int .i64 x7050, .int .i64 x7051, .int .i64 0]) #[.int .i64 (IntKind.wrap .i64 (bt a0 0)), .int .i64 x7047, .int .i64 x7048, .bool x7049, .int .i64 x7050, .int .i64 x7051, .int .i64 0] rfl KR KR KR KR KR KR KR ?_; clear ha HW a; intro a W7075 HW ha
            refine stepp ha 3 (.int .i64 0) KR KR ?_; clear ha a; intro a ha
            refine endl ?_
            refine thenN (hK7074 _ _ ?_); clear hK7074
            refine wp_ret ?_
            obtain rfl := Option.some.inj h
            exact finv ha _ _ rfl (.cell (ad := ⟨b6888, 0, none⟩) (v := .agg #[.int .i64 (IntKind.wrap .i64 (bt a0 0)), .int .i64 x7047, .int .i64 x7048, .bool x7049, .int .i64 x7050, .int .i64 x7051, .int .i64 0]) KR (run_loadVar_ca0 (HW.ca (i := 0) (b := b6888) (C := #[.int .i64 (IntKind.wrap .i64 (bt a0 0)), .int .i64 x7047, .int .i64 x7048, .bool x7049, .int .i64 x7050, .int .i64 x7051, .int .i64 0]) (T := 73) (fr := (0, 0)) KR) 73 0 (.agg #[.int .i64 (IntKind.wrap .i64 (bt a0 0)), .int .i64 x7047, .int .i64 x7048, .bool x7049, .int .i64 x7050, .int .i64 x7051, .int .i64 0]) KR) (.tmp (v := .int .i64 0) KR .nil)) (.tuple #[.agg #[.int .i64 (IntKind.wrap .i64 (bt a0 0)), .int .i64 x7047, .int .i64 x7048, .bool x7049, .int .i64 x7050, .int .i64 x7051, .int .i64 0], .int .i64 0]) rfl ⟨rfl, HW.pick [] [] (by decide) (by decide) rfl KR⟩
      · skip
        replace h := ite_neg' h hp6907
        refine condT ha KR KR (t := ((bt a0 (IntKind.wrap .i64 (t6892 - 1))) != 0)) (ineq_t hp6907) ?_
        refine wp_seq_k (fun K6908 hK6909 => ?_)
        refine wp_region_lit ?_
        refine stepp ha 23 (.agg #[.int .i64 0, .int .i64 0, .int .i64 0, .bool false, .int .i64 0, .int .i64 0, .int .i64 0]) KR KR ?_; clear ha a; intro a ha
        refine stepst ha HW 0 (b := b6888) (C := #[.int .i64 0, .int .i64 0, .int .i64 0, .bool false, .int .i64 0, .int .i64 0, .int .i64 0]) (T := 73) KR 73 0 (.tmp 2) (.tmp 23) (.agg #[.int .i64 0, .int .i64 0, .int .i64 0, .bool false, .int .i64 0, .int .i64 0, .int .i64 0]) #[.int .i64 0, .int .i64 0, .int .i64 0, .bool false, .int .i64 0, .int .i64 0, .int .i64 0] rfl KR KR KR KR KR KR KR ?_; clear ha HW a; intro a W6910 HW ha
        refine stepp ha 3 (.int .i64 150) KR KR ?_; clear ha a; intro a ha
        refine endl ?_
        refine thenN (hK6909 _ _ ?_); clear hK6909
        refine wp_ret ?_
        refine thenR ?_
        obtain rfl := Option.some.inj h
        exact finv ha _ _ rfl (.cell (ad := ⟨b6888, 0, none⟩) (v := .agg #[.int .i64 0, .int .i64 0, .int .i64 0, .bool false, .int .i64 0, .int .i64 0, .int .i64 0]) KR (run_loadVar_ca0 (HW.ca (i := 0) (b := b6888) (C := #[.int .i64 0, .int .i64 0, .int .i64 0, .bool false, .int .i64 0, .int .i64 0, .int .i64 0]) (T := 73) (fr := (0, 0)) KR) 73 0 (.agg #[.int .i64 0, .int .i64 0, .int .i64 0, .bool false, .int .i64 0, .int .i64 0, .int .i64 0]) KR) (.tmp (v := .int .i64 150) KR .nil)) (.tuple #[.agg #[.int .i64 0, .int .i64 0, .int .i64 0, .bool false, .int .i64 0, .int .i64 0, .int .i64 0], .int .i64 150]) rfl ⟨rfl, HW.pick [] [] (by decide) (by decide) rfl KR⟩
    · skip
      replace h := ite_neg' h hp6901
      replace ha := ha.bool 16 KR (ineq_t hp6901)
      refine stepo ha 17 KR ?_; clear ha a; intro a ha
      refine stepo ha 18 KR ?_; clear ha a; intro a ha
      refine stepo ha 19 KR ?_; clear ha a; intro a ha
      refine stepo ha 20 KR ?_; clear ha a; intro a ha
      refine stepo ha 21 KR ?_; clear ha a; intro a ha
      refine stepp ha 22 (.bool true) KR KR ?_; clear ha a; intro a ha
      refine endl ?_
      refine thenN (hK6899 _ _ ?_); clear hK6899
      refine condT ha KR KR (t := true) (rfl) ?_
      refine wp_seq_k (fun K6911 hK6912 => ?_)
      refine wp_region_lit ?_
      refine stepp ha 23 (.agg #[.int .i64 0, .int .i64 0, .int .i64 0, .bool false, .int .i64 0, .int .i64 0, .int .i64 0]) KR KR ?_; clear ha a; intro a ha
      refine stepst ha HW 0 (b := b6888) (C := #[.int .i64 0, .int .i64 0, .int .i64 0, .bool false, .int .i64 0, .int .i64 0, .int .i64 0]) (T := 73) KR 73 0 (.tmp 2) (.tmp 23) (.agg #[.int .i64 0, .int .i64 0, .int .i64 0, .bool false, .int .i64 0, .int .i64 0, .int .i64 0]) #[.int .i64 0, .int .i64 0, .int .i64 0, .bool false, .int .i64 0, .int .i64 0, .int .i64 0] rfl KR KR KR KR KR KR KR ?_; clear ha HW a; intro a W6913 HW ha
      refine stepp ha 3 (.int .i64 150) KR KR ?_; clear ha a; intro a ha
      refine endl ?_
      refine thenN (hK6912 _ _ ?_); clear hK6912
      refine wp_ret ?_
      refine thenR ?_
      obtain rfl := Option.some.inj h
      exact finv ha _ _ rfl (.cell (ad := ⟨b6888, 0, none⟩) (v := .agg #[.int .i64 0, .int .i64 0, .int .i64 0, .bool false, .int .i64 0, .int .i64 0, .int .i64 0]) KR (run_loadVar_ca0 (HW.ca (i := 0) (b := b6888) (C := #[.int .i64 0, .int .i64 0, .int .i64 0, .bool false, .int .i64 0, .int .i64 0, .int .i64 0]) (T := 73) (fr := (0, 0)) KR) 73 0 (.agg #[.int .i64 0, .int .i64 0, .int .i64 0, .bool false, .int .i64 0, .int .i64 0, .int .i64 0]) KR) (.tmp (v := .int .i64 150) KR .nil)) (.tuple #[.agg #[.int .i64 0, .int .i64 0, .int .i64 0, .bool false, .int .i64 0, .int .i64 0, .int .i64 0], .int .i64 150]) rfl ⟨rfl, HW.pick [] [] (by decide) (by decide) rfl KR⟩
/-! ### headgate/headgateref19.Need: function 22 -/
def headgateref19_Need.j2 (K : Nat) (t7080 : T_headgateref15_Ask × Int) (x7140 : Bool) : Option (Int × Int) :=
  if x7140 = true then (some (0, t7080.1.f5)) else (if t7080.1.f0 = 66 then (some (t7080.1.f5, 0)) else (if t7080.1.f0 ≥ 24320 then (some (t7080.1.f5, 0)) else (some (0, 0))))
def headgateref19_Need.j1 (K : Nat) (t7080 : T_headgateref15_Ask × Int) (x7119 : Bool) : Option (Int × Int) :=
  if x7119 = true then (some (IntKind.wrap .i64 (512 * t7080.1.f2), 0)) else (if t7080.1.f0 = 137 then (some (IntKind.wrap .i64 (1024 * t7080.1.f2), 0)) else (if t7080.1.f0 = 18 then (headgateref19_Need.j2 K t7080 (t7080.1.f0 == 18)) else (if t7080.1.f0 = 160 then (headgateref19_Need.j2 K t7080 (t7080.1.f0 == 160)) else (if t7080.1.f0 = 24064 then (headgateref19_Need.j2 K t7080 (t7080.1.f0 == 24064)) else (headgateref19_Need.j2 K t7080 (t7080.1.f0 == 24065))))))
def headgateref19_Need.j0 (K : Nat) (t7080 : T_headgateref15_Ask × Int) (x7103 : Bool) : Option (Int × Int) :=
  if x7103 = true then (some (0, IntKind.wrap .i64 (512 * t7080.1.f2))) else (if t7080.1.f0 = 37 then (some (0, 8)) else (if t7080.1.f0 = 42 then (headgateref19_Need.j1 K t7080 (t7080.1.f0 == 42)) else (headgateref19_Need.j1 K t7080 (t7080.1.f0 == 138))))
def headgateref19_Need.f (K : Nat) (a0 : ByteArray) : Option (Int × Int) :=
  (headgateref15_Parse.f K a0).bind fun t7080 => (if t7080.2 = 0 then (if t7080.1.f0 = 40 then (headgateref19_Need.j0 K t7080 (t7080.1.f0 == 40)) else (headgateref19_Need.j0 K t7080 (t7080.1.f0 == 136))) else (some (0, 0)))
set_option maxRecDepth 100000 in
set_option maxHeartbeats 4000000 in
theorem headgateref19_Need.calls (K : Nat) (a0 : ByteArray)  (r : Int × Int) (w : World)  (h : headgateref19_Need.f K a0 = some r) :
    Calls Tryz.prog 22 #[.string a0] w (fun e W' => e = .returned (.tuple #[.int .i64 r.1, .int .i64 r.2]) ∧ Wd w W' [] [] ) := by
  refine sxstart (n := 50) (l := [(0, .string a0)]) Tryz.func22 rfl rfl (Nat.le_of_ble_eq_true KR) (subsA_cons rfl (subsA_nil _)) ?_
  intro a ha
  have HW := Wd.refl w
  unfold headgateref19_Need.f at h
  refine wp_seq_k (fun K7076 hK7077 => ?_)
  refine wp_region_lit ?_
  refine stepp ha 2 (.int .i64 0) KR KR ?_; clear ha a; intro a ha
  refine stepp ha 3 (.int .i64 0) KR KR ?_; clear ha a; intro a ha
  refine endl ?_
  refine thenN (hK7077 _ _ ?_); clear hK7077
  refine wp_seq_k (fun K7078 hK7079 => ?_)
  refine wp_region_lit ?_
  refine stepp ha 7 (.string a0) KR KR ?_; clear ha a; intro a ha
  obtain ⟨t7080, ht7081, h_⟩ := bind_some' h; clear h; have h := h_; clear h_
  refine stepc ha 8 KR KR (headgateref15_Parse.calls K a0 t7080 _ ht7081) ?_; clear ha a; rintro e W7082 ⟨rfl, HX7083⟩
  refine ⟨_, rfl, ?_⟩; intro a ha; replace HW := HW.callw HX7083; clear HX7083
  refine stepp ha 6 (.tuple #[.agg #[.int .i64 t7080.1.f0, .int .i64 t7080.1.f1, .int .i64 t7080.1.f2, .bool t7080.1.f3, .int .i64 t7080.1.f4, .int .i64 t7080.1.f5, .int .i64 t7080.1.f6], .int .i64 t7080.2]) KR KR ?_; clear ha a; intro a ha
  refine stepp ha 9 (.agg #[.int .i64 t7080.1.f0, .int .i64 t7080.1.f1, .int .i64 t7080.1.f2, .bool t7080.1.f3, .int .i64 t7080.1.f4, .int .i64 t7080.1.f5, .int .i64 t7080.1.f6]) KR KR ?_; clear ha a; intro a ha
  refine stepp ha 10 (.int .i64 t7080.2) KR KR ?_; clear ha a; intro a ha
  refine stepnew ha HW 4 #[.int .i64 0, .int .i64 0, .int .i64 0, .bool false, .int .i64 0, .int .i64 0, .int .i64 0] 73 KR KR ?_; clear ha HW a; intro b7084 a W7085 HW ha
  refine stepst ha HW 0 (b := b7084) (C := #[.int .i64 0, .int .i64 0, .int .i64 0, .bool false, .int .i64 0, .int .i64 0, .int .i64 0]) (T := 73) KR 73 0 (.tmp 4) (.tmp 9) (.agg #[.int .i64 t7080.1.f0, .int .i64 t7080.1.f1, .int .i64 t7080.1.f2, .bool t7080.1.f3, .int .i64 t7080.1.f4, .int .i64 t7080.1.f5, .int .i64 t7080.1.f6]) #[.int .i64 t7080.1.f0, .int .i64 t7080.1.f1, .int .i64 t7080.1.f2, .bool t7080.1.f3, .int .i64 t7080.1.f4, .int .i64 t7080.1.f5, .int .i64 t7080.1.f6] rfl KR KR KR KR KR KR KR ?_; clear ha HW a; intro a W7086 HW ha
  refine stepp ha 5 (.int .i64 t7080.2) KR KR ?_; clear ha a; intro a ha
  refine endl ?_
  refine thenN (hK7079 _ _ ?_); clear hK7079
  refine wp_seq_k (fun K7087 hK7088 => ?_)
  refine wp_seq_k (fun K7089 hK7090 => ?_)
  refine wp_region_lit ?_
  refine stepp ha 11 (.int .i64 t7080.2) KR KR ?_; clear ha a; intro a ha
  refine stepp ha 12 (.bool (t7080.2 != 0)) KR KR ?_; clear ha a; intro a ha
  refine endl ?_
  refine thenN (hK7090 _ _ ?_); clear hK7090
  by_cases hp7091 : t7080.2 = 0
  · skip
    replace h := ite_pos' h hp7091
    refine condF ha KR KR (t := (t7080.2 != 0)) (ineq_f hp7091) ?_
    refine wp_skip ?_
    refine thenN (hK7088 _ _ ?_); clear hK7088
    refine wp_seq_k (fun K7094 hK7095 => ?_)
    refine wp_seq_k (fun K7096 hK7097 => ?_)
    refine wp_region_lit ?_
    refine stepp ha 13 (.pointer (some ⟨b7084, 0, none⟩)) KR KR ?_; clear ha a; intro a ha
    refine stepl ha 14 (HW.ca (i := 0) (b := b7084) (C := #[.int .i64 t7080.1.f0, .int .i64 t7080.1.f1, .int .i64 t7080.1.f2, .bool t7080.1.f3, .int .i64 t7080.1.f4, .int .i64 t7080.1.f5, .int .i64 t7080.1.f6]) (T := 73) (fr := (0, 0)) KR) 3 0 (.tmp 13) (.int .i64 t7080.1.f0) rfl KR KR KR ?_; clear ha a; intro a ha
    refine endl ?_
    refine thenN (hK7097 _ _ ?_); clear hK7097
    refine wp_block ?_
    refine wp_seq_k (fun K7098 hK7099 => ?_)
    refine cutn (fun a W7104 => ∃ (x7103 : Bool), headgateref19_Need.j0 K t7080 x7103 = some r ∧ Has 50 [(4, .pointer (some ⟨b7084, 0, none⟩)), (14, .int .i64 t7080.1.f0), (15, .bool x7103)] a ∧ Wd w W7104 [(b7084, .cells #[.int .i64 t7080.1.f0, .int .i64 t7080.1.f1, .int .i64 t7080.1.f2, .bool t7080.1.f3, .int .i64 t7080.1.f4, .int .i64 t7080.1.f5, .int .i64 t7080.1.f6] 73 (0, 0))] []) ?_ ?_
    · skip
      refine wp_seq_k (fun K7100 hK7101 => ?_)
      refine wp_region_lit ?_
      refine stepp ha 16 (.bool (t7080.1.f0 == 40)) KR KR ?_; clear ha a; intro a ha
      refine stepp ha 15 (.bool (t7080.1.f0 == 40)) KR KR ?_; clear ha a; intro a ha
      refine endl ?_
      refine thenN (hK7101 _ _ ?_); clear hK7101
      by_cases hp7102 : t7080.1.f0 = 40
      · skip
        replace h := ite_pos' h hp7102
        refine condT ha KR KR (t := (t7080.1.f0 == 40)) (ieq_t hp7102) ?_
        refine wp_skip ?_
        exact thenN ⟨(t7080.1.f0 == 40), h, ha.sub (subs_cons KR (subs_cons KR (subs_cons KR (subs_nil _)))), HW.pick [0] [] (by decide) (by decide) KR KR⟩
      · skip
        replace h := ite_neg' h hp7102
        refine condF ha KR KR (t := (t7080.1.f0 == 40)) (ieq_f hp7102) ?_
        refine wp_region_lit ?_
        refine stepp ha 17 (.bool (t7080.1.f0 == 136)) KR KR ?_; clear ha a; intro a ha
        refine stepp ha 15 (.bool (t7080.1.f0 == 136)) KR KR ?_; clear ha a; intro a ha
        refine endl ?_
        exact thenN ⟨(t7080.1.f0 == 136), h, ha.sub (subs_cons KR (subs_cons KR (subs_cons KR (subs_nil _)))), HW.pick [0] [] (by decide) (by decide) KR KR⟩
    · skip
      intro a W7104 hJ
      obtain ⟨x7103, h, ha, HW⟩ := hJ
      replace h : headgateref19_Need.j0 K t7080 x7103 = some r := h
      unfold headgateref19_Need.j0 at h
      refine hK7099 _ _ ?_; clear hK7099
      by_cases hp7105 : x7103 = true
      · skip
        replace h := ite_pos' h hp7105
        refine condT ha KR KR (t := x7103) (hp7105) ?_
        refine wp_seq_k (fun K7106 hK7107 => ?_)
        refine regionG 4 KR KR ha HW [.fix (.pointer (some ⟨b7084, 2, none⟩)), .fix (.int .i64 t7080.1.f2), .fix (.int .i64 (IntKind.wrap .i64 (512 * t7080.1.f2))), .fix (.int .i64 0)] ?_ ?_
        · skip
          refine ⟨?_, ?_, ?_, ?_, trivial⟩
          · skip
            intro a wr hn hd HW hs; have ha := hasNil hn hd
            have ha := ha.add (seeE hs 4 (.pointer (some ⟨b7084, 0, none⟩)) KR KR)
            refine yStep ha 18 KR ?_; intro l_ ha HK
            refine stepp ha 18 (.pointer (some ⟨b7084, 2, none⟩)) KR KR ?_; intro ax hax; exact HK _ _ _ hax rfl (Below.refl _ _)
          · skip
            intro a wr hn hd HW hs; have ha := hasNil hn hd
            have ha := ha.add (seeF hs 18 0 (.pointer (some ⟨b7084, 2, none⟩)) KR KR)
            refine yStep ha 19 KR ?_; intro l_ ha HK
            refine stepl ha 19 (HW.ca (i := 0) (b := b7084) (C := #[.int .i64 t7080.1.f0, .int .i64 t7080.1.f1, .int .i64 t7080.1.f2, .bool t7080.1.f3, .int .i64 t7080.1.f4, .int .i64 t7080.1.f5, .int .i64 t7080.1.f6]) (T := 73) (fr := (0, 0)) KR) 3 2 (.tmp 18) (.int .i64 t7080.1.f2) rfl KR KR KR ?_; intro ax hax; exact HK _ _ _ hax rfl (Below.refl _ _)
          · skip
            intro a wr hn hd HW hs; have ha := hasNil hn hd
            have ha := ha.add (seeF hs 19 1 (.int .i64 t7080.1.f2) KR KR)
            refine yStep ha 20 KR ?_; intro l_ ha HK
            refine stepp ha 20 (.int .i64 (IntKind.wrap .i64 (512 * t7080.1.f2))) KR KR ?_; intro ax hax; exact HK _ _ _ hax rfl (Below.refl _ _)
          · skip
            intro a wr hn hd HW hs; have ha := hasNil hn hd
            refine yStep ha 2 KR ?_; intro l_ ha HK
            refine stepp ha 2 (.int .i64 0) KR KR ?_; intro ax hax; exact HK _ _ _ hax rfl (Below.refl _ _)
        · skip
          intro a W7108 ha HW he hf
          replace ha := ha.add (gotF (m := 4) (j := 3) (d := 2) (v := .int .i64 0) hf KR KR KR)
          replace ha := ha.add (gotF (m := 4) (j := 2) (d := 20) (v := .int .i64 (IntKind.wrap .i64 (512 * t7080.1.f2))) hf KR KR KR)
          clear he hf
          refine stepp ha 3 (.int .i64 (IntKind.wrap .i64 (512 * t7080.1.f2))) KR KR ?_; clear ha a; intro a ha
          refine endl ?_
          refine thenN (hK7107 _ _ ?_); clear hK7107
          refine wp_ret ?_
          refine blkR ?_
          refine thenR ?_
          obtain rfl := Option.some.inj h
          exact finv ha _ _ rfl (.tmp (v := .int .i64 0) KR (.tmp (v := .int .i64 (IntKind.wrap .i64 (512 * t7080.1.f2))) KR .nil)) (.tuple #[.int .i64 0, .int .i64 (IntKind.wrap .i64 (512 * t7080.1.f2))]) rfl ⟨rfl, HW.pick [] [] (by decide) (by decide) rfl KR⟩
      · skip
        replace h := ite_neg' h hp7105
        refine condF ha KR KR (t := x7103) (bool_f hp7105) ?_
        refine wp_seq_k (fun K7109 hK7110 => ?_)
        refine wp_region_lit ?_
        refine stepp ha 22 (.bool (t7080.1.f0 == 37)) KR KR ?_; clear ha a; intro a ha
        refine stepp ha 21 (.bool (t7080.1.f0 == 37)) KR KR ?_; clear ha a; intro a ha
        refine endl ?_
        refine thenN (hK7110 _ _ ?_); clear hK7110
        by_cases hp7111 : t7080.1.f0 = 37
        · skip
          replace h := ite_pos' h hp7111
          refine condT ha KR KR (t := (t7080.1.f0 == 37)) (ieq_t hp7111) ?_
          refine wp_seq_k (fun K7112 hK7113 => ?_)
          refine wp_region_lit ?_
          refine stepp ha 2 (.int .i64 0) KR KR ?_; clear ha a; intro a ha
          refine stepp ha 3 (.int .i64 8) KR KR ?_; clear ha a; intro a ha
          refine endl ?_
          refine thenN (hK7113 _ _ ?_); clear hK7113
          refine wp_ret ?_
          refine blkR ?_
          refine thenR ?_
          obtain rfl := Option.some.inj h
          exact finv ha _ _ rfl (.tmp (v := .int .i64 0) KR (.tmp (v := .int .i64 8) KR .nil)) (.tuple #[.int .i64 0, .int .i64 8]) rfl ⟨rfl, HW.pick [] [] (by decide) (by decide) rfl KR⟩
        · skip
          replace h := ite_neg' h hp7111
          refine condF ha KR KR (t := (t7080.1.f0 == 37)) (ieq_f hp7111) ?_
          refine wp_seq_k (fun K7114 hK7115 => ?_)
          refine cutn (fun a W7120 => ∃ (x7119 : Bool), headgateref19_Need.j1 K t7080 x7119 = some r ∧ Has 50 [(4, .pointer (some ⟨b7084, 0, none⟩)), (14, .int .i64 t7080.1.f0), (23, .bool x7119)] a ∧ Wd w W7120 [(b7084, .cells #[.int .i64 t7080.1.f0, .int .i64 t7080.1.f1, .int .i64 t7080.1.f2, .bool t7080.1.f3, .int .i64 t7080.1.f4, .int .i64 t7080.1.f5, .int .i64 t7080.1.f6] 73 (0, 0))] []) ?_ ?_
          · skip
            refine wp_seq_k (fun K7116 hK7117 => ?_)
            refine wp_region_lit ?_
            refine stepp ha 24 (.bool (t7080.1.f0 == 42)) KR KR ?_; clear ha a; intro a ha
            refine stepp ha 23 (.bool (t7080.1.f0 == 42)) KR KR ?_; clear ha a; intro a ha
            refine endl ?_
            refine thenN (hK7117 _ _ ?_); clear hK7117
            by_cases hp7118 : t7080.1.f0 = 42
            · skip
              replace h := ite_pos' h hp7118
              refine condT ha KR KR (t := (t7080.1.f0 == 42)) (ieq_t hp7118) ?_
              refine wp_skip ?_
              exact thenN ⟨(t7080.1.f0 == 42), h, ha.sub (subs_cons KR (subs_cons KR (subs_cons KR (subs_nil _)))), HW.pick [0] [] (by decide) (by decide) KR KR⟩
            · skip
              replace h := ite_neg' h hp7118
              refine condF ha KR KR (t := (t7080.1.f0 == 42)) (ieq_f hp7118) ?_
              refine wp_region_lit ?_
              refine stepp ha 25 (.bool (t7080.1.f0 == 138)) KR KR ?_; clear ha a; intro a ha
              refine stepp ha 23 (.bool (t7080.1.f0 == 138)) KR KR ?_; clear ha a; intro a ha
              refine endl ?_
              exact thenN ⟨(t7080.1.f0 == 138), h, ha.sub (subs_cons KR (subs_cons KR (subs_cons KR (subs_nil _)))), HW.pick [0] [] (by decide) (by decide) KR KR⟩
          · skip
            intro a W7120 hJ
            obtain ⟨x7119, h, ha, HW⟩ := hJ
            replace h : headgateref19_Need.j1 K t7080 x7119 = some r := h
            unfold headgateref19_Need.j1 at h
            refine hK7115 _ _ ?_; clear hK7115
            by_cases hp7121 : x7119 = true
            · skip
              replace h := ite_pos' h hp7121
              refine condT ha KR KR (t := x7119) (hp7121) ?_
              refine wp_seq_k (fun K7122 hK7123 => ?_)
              refine wp_region_lit ?_
              refine stepp ha 26 (.pointer (some ⟨b7084, 2, none⟩)) KR KR ?_; clear ha a; intro a ha
              refine stepl ha 27 (HW.ca (i := 0) (b := b7084) (C := #[.int .i64 t7080.1.f0, .int .i64 t7080.1.f1, .int .i64 t7080.1.f2, .bool t7080.1.f3, .int .i64 t7080.1.f4, .int .i64 t7080.1.f5, .int .i64 t7080.1.f6]) (T := 73) (fr := (0, 0)) KR) 3 2 (.tmp 26) (.int .i64 t7080.1.f2) rfl KR KR KR ?_; clear ha a; intro a ha
              refine stepp ha 28 (.int .i64 (IntKind.wrap .i64 (512 * t7080.1.f2))) KR KR ?_; clear ha a; intro a ha
              refine stepp ha 2 (.int .i64 (IntKind.wrap .i64 (512 * t7080.1.f2))) KR KR ?_; clear ha a; intro a ha
              refine stepp ha 3 (.int .i64 0) KR KR ?_; clear ha a; intro a ha
              refine endl ?_
              refine thenN (hK7123 _ _ ?_); clear hK7123
              refine wp_ret ?_
              refine blkR ?_
              refine thenR ?_
              obtain rfl := Option.some.inj h
              exact finv ha _ _ rfl (.tmp (v := .int .i64 (IntKind.wrap .i64 (512 * t7080.1.f2))) KR (.tmp (v := .int .i64 0) KR .nil)) (.tuple #[.int .i64 (IntKind.wrap .i64 (512 * t7080.1.f2)), .int .i64 0]) rfl ⟨rfl, HW.pick [] [] (by decide) (by decide) rfl KR⟩
            · skip
              replace h := ite_neg' h hp7121
              refine condF ha KR KR (t := x7119) (bool_f hp7121) ?_
              refine wp_seq_k (fun K7124 hK7125 => ?_)
              refine wp_region_lit ?_
              refine stepp ha 30 (.bool (t7080.1.f0 == 137)) KR KR ?_; clear ha a; intro a ha
              refine stepp ha 29 (.bool (t7080.1.f0 == 137)) KR KR ?_; clear ha a; intro a ha
              refine endl ?_
              refine thenN (hK7125 _ _ ?_); clear hK7125
              by_cases hp7126 : t7080.1.f0 = 137
              · skip
                replace h := ite_pos' h hp7126
                refine condT ha KR KR (t := (t7080.1.f0 == 137)) (ieq_t hp7126) ?_
                refine wp_seq_k (fun K7127 hK7128 => ?_)
                refine wp_region_lit ?_
                refine stepp ha 31 (.pointer (some ⟨b7084, 2, none⟩)) KR KR ?_; clear ha a; intro a ha
                refine stepl ha 32 (HW.ca (i := 0) (b := b7084) (C := #[.int .i64 t7080.1.f0, .int .i64 t7080.1.f1, .int .i64 t7080.1.f2, .bool t7080.1.f3, .int .i64 t7080.1.f4, .int .i64 t7080.1.f5, .int .i64 t7080.1.f6]) (T := 73) (fr := (0, 0)) KR) 3 2 (.tmp 31) (.int .i64 t7080.1.f2) rfl KR KR KR ?_; clear ha a; intro a ha
                refine stepp ha 33 (.int .i64 (IntKind.wrap .i64 (1024 * t7080.1.f2))) KR KR ?_; clear ha a; intro a ha
                refine stepp ha 2 (.int .i64 (IntKind.wrap .i64 (1024 * t7080.1.f2))) KR KR ?_; clear ha a; intro a ha
                refine stepp ha 3 (.int .i64 0) KR KR ?_; clear ha a; intro a ha
                refine endl ?_
                refine thenN (hK7128 _ _ ?_); clear hK7128
                refine wp_ret ?_
                refine blkR ?_
                refine thenR ?_
                obtain rfl := Option.some.inj h
                exact finv ha _ _ rfl (.tmp (v := .int .i64 (IntKind.wrap .i64 (1024 * t7080.1.f2))) KR (.tmp (v := .int .i64 0) KR .nil)) (.tuple #[.int .i64 (IntKind.wrap .i64 (1024 * t7080.1.f2)), .int .i64 0]) rfl ⟨rfl, HW.pick [] [] (by decide) (by decide) rfl KR⟩
              · skip
                replace h := ite_neg' h hp7126
                refine condF ha KR KR (t := (t7080.1.f0 == 137)) (ieq_f hp7126) ?_
                refine wp_seq_k (fun K7129 hK7130 => ?_)
                refine cutn (fun a W7141 => ∃ (x7140 : Bool), headgateref19_Need.j2 K t7080 x7140 = some r ∧ Has 50 [(4, .pointer (some ⟨b7084, 0, none⟩)), (14, .int .i64 t7080.1.f0), (34, .bool x7140)] a ∧ Wd w W7141 [(b7084, .cells #[.int .i64 t7080.1.f0, .int .i64 t7080.1.f1, .int .i64 t7080.1.f2, .bool t7080.1.f3, .int .i64 t7080.1.f4, .int .i64 t7080.1.f5, .int .i64 t7080.1.f6] 73 (0, 0))] []) ?_ ?_
                · skip
                  refine wp_seq_k (fun K7131 hK7132 => ?_)
                  refine wp_region_lit ?_
                  refine stepp ha 35 (.bool (t7080.1.f0 == 18)) KR KR ?_; clear ha a; intro a ha
                  refine stepp ha 34 (.bool (t7080.1.f0 == 18)) KR KR ?_; clear ha a; intro a ha
                  refine endl ?_
                  refine thenN (hK7132 _ _ ?_); clear hK7132
                  by_cases hp7133 : t7080.1.f0 = 18
                  · skip
                    replace h := ite_pos' h hp7133
                    refine condT ha KR KR (t := (t7080.1.f0 == 18)) (ieq_t hp7133) ?_
                    refine wp_skip ?_
                    exact thenN ⟨(t7080.1.f0 == 18), h, ha.sub (subs_cons KR (subs_cons KR (subs_cons KR (subs_nil _)))), HW.pick [0] [] (by decide) (by decide) KR KR⟩
                  · skip
                    replace h := ite_neg' h hp7133
                    refine condF ha KR KR (t := (t7080.1.f0 == 18)) (ieq_f hp7133) ?_
                    refine wp_seq_k (fun K7134 hK7135 => ?_)
                    refine wp_region_lit ?_
                    refine stepp ha 36 (.bool (t7080.1.f0 == 160)) KR KR ?_; clear ha a; intro a ha
                    refine stepp ha 34 (.bool (t7080.1.f0 == 160)) KR KR ?_; clear ha a; intro a ha
                    refine endl ?_
                    refine thenN (hK7135 _ _ ?_); clear hK7135
                    by_cases hp7136 : t7080.1.f0 = 160
                    · skip
                      replace h := ite_pos' h hp7136
                      refine condT ha KR KR (t := (t7080.1.f0 == 160)) (ieq_t hp7136) ?_
                      refine wp_skip ?_
                      exact thenN ⟨(t7080.1.f0 == 160), h, ha.sub (subs_cons KR (subs_cons KR (subs_cons KR (subs_nil _)))), HW.pick [0] [] (by decide) (by decide) KR KR⟩
                    · skip
                      replace h := ite_neg' h hp7136
                      refine condF ha KR KR (t := (t7080.1.f0 == 160)) (ieq_f hp7136) ?_
                      refine wp_seq_k (fun K7137 hK7138 => ?_)
                      refine wp_region_lit ?_
                      refine stepp ha 37 (.bool (t7080.1.f0 == 24064)) KR KR ?_; clear ha a; intro a ha
                      refine stepp ha 34 (.bool (t7080.1.f0 == 24064)) KR KR ?_; clear ha a; intro a ha
                      refine endl ?_
                      refine thenN (hK7138 _ _ ?_); clear hK7138
                      by_cases hp7139 : t7080.1.f0 = 24064
                      · skip
                        replace h := ite_pos' h hp7139
                        refine condT ha KR KR (t := (t7080.1.f0 == 24064)) (ieq_t hp7139) ?_
                        refine wp_skip ?_
                        exact thenN ⟨(t7080.1.f0 == 24064), h, ha.sub (subs_cons KR (subs_cons KR (subs_cons KR (subs_nil _)))), HW.pick [0] [] (by decide) (by decide) KR KR⟩
                      · skip
                        replace h := ite_neg' h hp7139
                        refine condF ha KR KR (t := (t7080.1.f0 == 24064)) (ieq_f hp7139) ?_
                        refine wp_region_lit ?_
                        refine stepp ha 38 (.bool (t7080.1.f0 == 24065)) KR KR ?_; clear ha a; intro a ha
                        refine stepp ha 34 (.bool (t7080.1.f0 == 24065)) KR KR ?_; clear ha a; intro a ha
                        refine endl ?_
                        exact thenN ⟨(t7080.1.f0 == 24065), h, ha.sub (subs_cons KR (subs_cons KR (subs_cons KR (subs_nil _)))), HW.pick [0] [] (by decide) (by decide) KR KR⟩
                · skip
                  intro a W7141 hJ
                  obtain ⟨x7140, h, ha, HW⟩ := hJ
                  replace h : headgateref19_Need.j2 K t7080 x7140 = some r := h
                  unfold headgateref19_Need.j2 at h
                  refine hK7130 _ _ ?_; clear hK7130
                  by_cases hp7142 : x7140 = true
                  · skip
                    replace h := ite_pos' h hp7142
                    refine condT ha KR KR (t := x7140) (hp7142) ?_
                    refine wp_seq_k (fun K7143 hK7144 => ?_)
                    refine regionG 3 KR KR ha HW [.fix (.pointer (some ⟨b7084, 5, none⟩)), .fix (.int .i64 t7080.1.f5), .fix (.int .i64 0)] ?_ ?_
                    · skip
                      refine ⟨?_, ?_, ?_, trivial⟩
                      · skip
                        intro a wr hn hd HW hs; have ha := hasNil hn hd
                        have ha := ha.add (seeE hs 4 (.pointer (some ⟨b7084, 0, none⟩)) KR KR)
                        refine yStep ha 39 KR ?_; intro l_ ha HK
                        refine stepp ha 39 (.pointer (some ⟨b7084, 5, none⟩)) KR KR ?_; intro ax hax; exact HK _ _ _ hax rfl (Below.refl _ _)
                      · skip
                        intro a wr hn hd HW hs; have ha := hasNil hn hd
                        have ha := ha.add (seeF hs 39 0 (.pointer (some ⟨b7084, 5, none⟩)) KR KR)
                        refine yStep ha 40 KR ?_; intro l_ ha HK
                        refine stepl ha 40 (HW.ca (i := 0) (b := b7084) (C := #[.int .i64 t7080.1.f0, .int .i64 t7080.1.f1, .int .i64 t7080.1.f2, .bool t7080.1.f3, .int .i64 t7080.1.f4, .int .i64 t7080.1.f5, .int .i64 t7080.1.f6]) (T := 73) (fr := (0, 0)) KR) 3 5 (.tmp 39) (.int .i64 t7080.1.f5) rfl KR KR KR ?_; intro ax hax; exact HK _ _ _ hax rfl (Below.refl _ _)
                      · skip
                        intro a wr hn hd HW hs; have ha := hasNil hn hd
                        refine yStep ha 2 KR ?_; intro l_ ha HK
                        refine stepp ha 2 (.int .i64 0) KR KR ?_; intro ax hax; exact HK _ _ _ hax rfl (Below.refl _ _)
                    · skip
                      intro a W7145 ha HW he hf
                      replace ha := ha.add (gotF (m := 3) (j := 2) (d := 2) (v := .int .i64 0) hf KR KR KR)
                      replace ha := ha.add (gotF (m := 3) (j := 1) (d := 40) (v := .int .i64 t7080.1.f5) hf KR KR KR)
                      clear he hf
                      refine stepp ha 3 (.int .i64 t7080.1.f5) KR KR ?_; clear ha a; intro a ha
                      refine endl ?_
                      refine thenN (hK7144 _ _ ?_); clear hK7144
                      refine wp_ret ?_
                      refine blkR ?_
                      refine thenR ?_
                      obtain rfl := Option.some.inj h
                      exact finv ha _ _ rfl (.tmp (v := .int .i64 0) KR (.tmp (v := .int .i64 t7080.1.f5) KR .nil)) (.tuple #[.int .i64 0, .int .i64 t7080.1.f5]) rfl ⟨rfl, HW.pick [] [] (by decide) (by decide) rfl KR⟩
                  · skip
                    replace h := ite_neg' h hp7142
                    refine condF ha KR KR (t := x7140) (bool_f hp7142) ?_
                    refine wp_seq_k (fun K7146 hK7147 => ?_)
                    refine wp_region_lit ?_
                    refine stepp ha 42 (.bool (t7080.1.f0 == 66)) KR KR ?_; clear ha a; intro a ha
                    refine stepp ha 41 (.bool (t7080.1.f0 == 66)) KR KR ?_; clear ha a; intro a ha
                    refine endl ?_
                    refine thenN (hK7147 _ _ ?_); clear hK7147
                    by_cases hp7148 : t7080.1.f0 = 66
                    · skip
                      replace h := ite_pos' h hp7148
                      refine condT ha KR KR (t := (t7080.1.f0 == 66)) (ieq_t hp7148) ?_
                      refine wp_seq_k (fun K7149 hK7150 => ?_)
                      refine wp_region_lit ?_
                      refine stepp ha 43 (.pointer (some ⟨b7084, 5, none⟩)) KR KR ?_; clear ha a; intro a ha
                      refine stepl ha 44 (HW.ca (i := 0) (b := b7084) (C := #[.int .i64 t7080.1.f0, .int .i64 t7080.1.f1, .int .i64 t7080.1.f2, .bool t7080.1.f3, .int .i64 t7080.1.f4, .int .i64 t7080.1.f5, .int .i64 t7080.1.f6]) (T := 73) (fr := (0, 0)) KR) 3 5 (.tmp 43) (.int .i64 t7080.1.f5) rfl KR KR KR ?_; clear ha a; intro a ha
                      refine stepp ha 2 (.int .i64 t7080.1.f5) KR KR ?_; clear ha a; intro a ha
                      refine stepp ha 3 (.int .i64 0) KR KR ?_; clear ha a; intro a ha
                      refine endl ?_
                      refine thenN (hK7150 _ _ ?_); clear hK7150
                      refine wp_ret ?_
                      refine blkR ?_
                      refine thenR ?_
                      obtain rfl := Option.some.inj h
                      exact finv ha _ _ rfl (.tmp (v := .int .i64 t7080.1.f5) KR (.tmp (v := .int .i64 0) KR .nil)) (.tuple #[.int .i64 t7080.1.f5, .int .i64 0]) rfl ⟨rfl, HW.pick [] [] (by decide) (by decide) rfl KR⟩
                    · skip
                      replace h := ite_neg' h hp7148
                      refine condF ha KR KR (t := (t7080.1.f0 == 66)) (ieq_f hp7148) ?_
                      refine wp_skip ?_
                      refine blkN ?_
                      refine thenN (hK7095 _ _ ?_); clear hK7095
                      refine wp_seq_k (fun K7151 hK7152 => ?_)
                      refine wp_seq_k (fun K7153 hK7154 => ?_)
                      refine wp_region_lit ?_
                      refine stepp ha 45 (.pointer (some ⟨b7084, 0, none⟩)) KR KR ?_; clear ha a; intro a ha
                      refine stepl ha 46 (HW.ca (i := 0) (b := b7084) (C := #[.int .i64 t7080.1.f0, .int .i64 t7080.1.f1, .int .i64 t7080.1.f2, .bool t7080.1.f3, .int .i64 t7080.1.f4, .int .i64 t7080.1.f5, .int .i64 t7080.1.f6]) (T := 73) (fr := (0, 0)) KR) 3 0 (.tmp 45) (.int .i64 t7080.1.f0) rfl KR KR KR ?_; clear ha a; intro a ha
                      refine stepp ha 47 (.bool (decide (t7080.1.f0 ≥ 24320))) KR KR ?_; clear ha a; intro a ha
                      refine endl ?_
                      refine thenN (hK7154 _ _ ?_); clear hK7154
                      by_cases hp7155 : t7080.1.f0 ≥ 24320
                      · skip
                        replace h := ite_pos' h hp7155
                        refine condT ha KR KR (t := decide (t7080.1.f0 ≥ 24320)) (decide_eq_true hp7155) ?_
                        refine wp_seq_k (fun K7156 hK7157 => ?_)
                        refine wp_region_lit ?_
                        refine stepp ha 48 (.pointer (some ⟨b7084, 5, none⟩)) KR KR ?_; clear ha a; intro a ha
                        refine stepl ha 49 (HW.ca (i := 0) (b := b7084) (C := #[.int .i64 t7080.1.f0, .int .i64 t7080.1.f1, .int .i64 t7080.1.f2, .bool t7080.1.f3, .int .i64 t7080.1.f4, .int .i64 t7080.1.f5, .int .i64 t7080.1.f6]) (T := 73) (fr := (0, 0)) KR) 3 5 (.tmp 48) (.int .i64 t7080.1.f5) rfl KR KR KR ?_; clear ha a; intro a ha
                        refine stepp ha 2 (.int .i64 t7080.1.f5) KR KR ?_; clear ha a; intro a ha
                        refine stepp ha 3 (.int .i64 0) KR KR ?_; clear ha a; intro a ha
                        refine endl ?_
                        refine thenN (hK7157 _ _ ?_); clear hK7157
                        refine wp_ret ?_
                        refine thenR ?_
                        obtain rfl := Option.some.inj h
                        exact finv ha _ _ rfl (.tmp (v := .int .i64 t7080.1.f5) KR (.tmp (v := .int .i64 0) KR .nil)) (.tuple #[.int .i64 t7080.1.f5, .int .i64 0]) rfl ⟨rfl, HW.pick [] [] (by decide) (by decide) rfl KR⟩
                      · skip
                        replace h := ite_neg' h hp7155
                        refine condF ha KR KR (t := decide (t7080.1.f0 ≥ 24320)) (decide_eq_false hp7155) ?_
                        refine wp_skip ?_
                        refine thenN (hK7152 _ _ ?_); clear hK7152
                        refine wp_seq_k (fun K7158 hK7159 => ?_)
                        refine wp_region_lit ?_
                        refine stepp ha 2 (.int .i64 0) KR KR ?_; clear ha a; intro a ha
                        refine stepp ha 3 (.int .i64 0) KR KR ?_; clear ha a; intro a ha
                        refine endl ?_
                        refine thenN (hK7159 _ _ ?_); clear hK7159
                        refine wp_ret ?_
                        obtain rfl := Option.some.inj h
                        exact finv ha _ _ rfl (.tmp (v := .int .i64 0) KR (.tmp (v := .int .i64 0) KR .nil)) (.tuple #[.int .i64 0, .int .i64 0]) rfl ⟨rfl, HW.pick [] [] (by decide) (by decide) rfl KR⟩
  · skip
    replace h := ite_neg' h hp7091
    refine condT ha KR KR (t := (t7080.2 != 0)) (ineq_t hp7091) ?_
    refine wp_seq_k (fun K7092 hK7093 => ?_)
    refine wp_region_lit ?_
    refine stepp ha 2 (.int .i64 0) KR KR ?_; clear ha a; intro a ha
    refine stepp ha 3 (.int .i64 0) KR KR ?_; clear ha a; intro a ha
    refine endl ?_
    refine thenN (hK7093 _ _ ?_); clear hK7093
    refine wp_ret ?_
    refine thenR ?_
    obtain rfl := Option.some.inj h
    exact finv ha _ _ rfl (.tmp (v := .int .i64 0) KR (.tmp (v := .int .i64 0) KR .nil)) (.tuple #[.int .i64 0, .int .i64 0]) rfl ⟨rfl, HW.pick [] [] (by decide) (by decide) rfl KR⟩
end Go.Proofs.YteilejfncdacfaaGreatDoor.F
