/- headgate/headgateref18.Change: a plain function, and that the call comes to what it says. No condition. -/
import Derived.Test.YtceagilmillgfaaFT
import Derived.Test.YtceagilmillgfaaF15
namespace Go.Proofs.Ytceagilmillgfaa.F
open Go Go.RowKit Go.Proofs.Ytceagilmillgfaa.X
set_option linter.unusedVariables false
set_option linter.unusedSimpArgs false
/-! ### headgate/headgateref18.Change: function 8 -/
def headgateref18_Change.j1 (K : Nat) (a0 : Int) (a1 : Int) (a2 : ByteArray) (t1004 : Int × Bool) (t1010 : Int × Bool) (x1227 : Bool) : Option (T_api_Cmd × Int) :=
  if x1227 = true then (if (bt a2 20) = 1 then (if a0 = 6 then (some ((⟨8, 0, (⟨#[]⟩ : ByteArray), 0, 0, (⟨#[]⟩ : ByteArray), false, ([] : List T_api_Range), 0, t1010.1, 0, 0, true, 2⟩ : T_api_Cmd), 0)) else (some ((⟨8, 0, (⟨#[]⟩ : ByteArray), 0, 0, (⟨#[]⟩ : ByteArray), false, ([] : List T_api_Range), t1004.1, t1010.1, 0, 0, false, 2⟩ : T_api_Cmd), 0))) else (if a0 = 6 then (some ((⟨8, 0, (⟨#[]⟩ : ByteArray), 0, 0, (⟨#[]⟩ : ByteArray), false, ([] : List T_api_Range), 0, t1010.1, 0, 0, true, 1⟩ : T_api_Cmd), 0)) else (some ((⟨8, 0, (⟨#[]⟩ : ByteArray), 0, 0, (⟨#[]⟩ : ByteArray), false, ([] : List T_api_Range), t1004.1, t1010.1, 0, 0, false, 1⟩ : T_api_Cmd), 0)))) else (if a0 = 1 then (some ((⟨9, 0, (⟨#[]⟩ : ByteArray), 0, 0, (⟨#[]⟩ : ByteArray), false, ([] : List T_api_Range), t1004.1, 0, 0, a1, false, 0⟩ : T_api_Cmd), 0)) else (if a0 = 2 then (some ((⟨10, 0, (⟨#[]⟩ : ByteArray), 0, 0, (⟨#[]⟩ : ByteArray), false, ([] : List T_api_Range), t1004.1, 0, 0, a1, false, 0⟩ : T_api_Cmd), 0)) else (if a0 = 3 then (some ((⟨11, 0, (⟨#[]⟩ : ByteArray), 0, 0, (⟨#[]⟩ : ByteArray), false, ([] : List T_api_Range), t1004.1, 0, 0, 0, false, 0⟩ : T_api_Cmd), 0)) else (if a0 = 4 then (some ((⟨12, 0, (⟨#[]⟩ : ByteArray), 0, 0, (⟨#[]⟩ : ByteArray), false, ([] : List T_api_Range), t1004.1, 0, t1010.1, a1, false, 0⟩ : T_api_Cmd), 0)) else (some ((⟨0, 0, (⟨#[]⟩ : ByteArray), 0, 0, (⟨#[]⟩ : ByteArray), false, ([] : List T_api_Range), t1004.1, 0, 0, 0, false, 0⟩ : T_api_Cmd), 0))))))
def headgateref18_Change.j0 (K : Nat) (a0 : Int) (a1 : Int) (a2 : ByteArray) (t1004 : Int × Bool) (t1010 : Int × Bool) : Option (T_api_Cmd × Int) :=
  if a0 = 0 then (headgateref18_Change.j1 K a0 a1 a2 t1004 t1010 (a0 == 0)) else (headgateref18_Change.j1 K a0 a1 a2 t1004 t1010 (a0 == 6))
def headgateref18_Change.b0 (K : Nat) (a0 : Int) (a1 : Int) (a2 : ByteArray) (t1004 : Int × Bool) (t1010 : Int × Bool) (again1057 : Int → Option (T_api_Cmd × Int)) (x1058 : Int) : Option (T_api_Cmd × Int) :=
  if x1058 < 24 then (asrt (0 ≤ x1058) (asrt (x1058 < (a2.size : Int)) (if (bt a2 x1058) = 0 then (again1057 (IntKind.wrap .i64 (x1058 + 1))) else (if x1058 = 20 then (if (bt a2 x1058) = 1 then (again1057 (IntKind.wrap .i64 (x1058 + 1))) else (some ((⟨0, 0, (⟨#[]⟩ : ByteArray), 0, 0, (⟨#[]⟩ : ByteArray), false, ([] : List T_api_Range), 0, 0, 0, 0, false, 0⟩ : T_api_Cmd), 180))) else (some ((⟨0, 0, (⟨#[]⟩ : ByteArray), 0, 0, (⟨#[]⟩ : ByteArray), false, ([] : List T_api_Range), 0, 0, 0, 0, false, 0⟩ : T_api_Cmd), 180)))))) else (asrt (20 < (a2.size : Int)) (if (bt a2 20) = 1 then (if a0 = 0 then (if t1010.1 = 0 then (if a1 = 0 then (headgateref18_Change.j0 K a0 a1 a2 t1004 t1010) else (some ((⟨0, 0, (⟨#[]⟩ : ByteArray), 0, 0, (⟨#[]⟩ : ByteArray), false, ([] : List T_api_Range), 0, 0, 0, 0, false, 0⟩ : T_api_Cmd), 180))) else (if a0 ≥ 1 then (if a0 ≤ 3 then (some ((⟨0, 0, (⟨#[]⟩ : ByteArray), 0, 0, (⟨#[]⟩ : ByteArray), false, ([] : List T_api_Range), 0, 0, 0, 0, false, 0⟩ : T_api_Cmd), 180)) else (if a1 = 0 then (headgateref18_Change.j0 K a0 a1 a2 t1004 t1010) else (some ((⟨0, 0, (⟨#[]⟩ : ByteArray), 0, 0, (⟨#[]⟩ : ByteArray), false, ([] : List T_api_Range), 0, 0, 0, 0, false, 0⟩ : T_api_Cmd), 180)))) else (if a1 = 0 then (headgateref18_Change.j0 K a0 a1 a2 t1004 t1010) else (some ((⟨0, 0, (⟨#[]⟩ : ByteArray), 0, 0, (⟨#[]⟩ : ByteArray), false, ([] : List T_api_Range), 0, 0, 0, 0, false, 0⟩ : T_api_Cmd), 180))))) else (if a0 = 6 then (if t1010.1 = 0 then (if a1 = 0 then (headgateref18_Change.j0 K a0 a1 a2 t1004 t1010) else (if a0 = 3 then (some ((⟨0, 0, (⟨#[]⟩ : ByteArray), 0, 0, (⟨#[]⟩ : ByteArray), false, ([] : List T_api_Range), 0, 0, 0, 0, false, 0⟩ : T_api_Cmd), 180)) else (some ((⟨0, 0, (⟨#[]⟩ : ByteArray), 0, 0, (⟨#[]⟩ : ByteArray), false, ([] : List T_api_Range), 0, 0, 0, 0, false, 0⟩ : T_api_Cmd), 180)))) else (if a0 ≥ 1 then (if a0 ≤ 3 then (some ((⟨0, 0, (⟨#[]⟩ : ByteArray), 0, 0, (⟨#[]⟩ : ByteArray), false, ([] : List T_api_Range), 0, 0, 0, 0, false, 0⟩ : T_api_Cmd), 180)) else (if a1 = 0 then (headgateref18_Change.j0 K a0 a1 a2 t1004 t1010) else (if a0 = 3 then (some ((⟨0, 0, (⟨#[]⟩ : ByteArray), 0, 0, (⟨#[]⟩ : ByteArray), false, ([] : List T_api_Range), 0, 0, 0, 0, false, 0⟩ : T_api_Cmd), 180)) else (some ((⟨0, 0, (⟨#[]⟩ : ByteArray), 0, 0, (⟨#[]⟩ : ByteArray), false, ([] : List T_api_Range), 0, 0, 0, 0, false, 0⟩ : T_api_Cmd), 180))))) else (if a1 = 0 then (headgateref18_Change.j0 K a0 a1 a2 t1004 t1010) else (if a0 = 3 then (some ((⟨0, 0, (⟨#[]⟩ : ByteArray), 0, 0, (⟨#[]⟩ : ByteArray), false, ([] : List T_api_Range), 0, 0, 0, 0, false, 0⟩ : T_api_Cmd), 180)) else (some ((⟨0, 0, (⟨#[]⟩ : ByteArray), 0, 0, (⟨#[]⟩ : ByteArray), false, ([] : List T_api_Range), 0, 0, 0, 0, false, 0⟩ : T_api_Cmd), 180)))))) else (some ((⟨0, 0, (⟨#[]⟩ : ByteArray), 0, 0, (⟨#[]⟩ : ByteArray), false, ([] : List T_api_Range), 0, 0, 0, 0, false, 0⟩ : T_api_Cmd), 180)))) else (if t1010.1 = 0 then (if a1 = 0 then (headgateref18_Change.j0 K a0 a1 a2 t1004 t1010) else (if a0 = 0 then (some ((⟨0, 0, (⟨#[]⟩ : ByteArray), 0, 0, (⟨#[]⟩ : ByteArray), false, ([] : List T_api_Range), 0, 0, 0, 0, false, 0⟩ : T_api_Cmd), 180)) else (if a0 = 3 then (some ((⟨0, 0, (⟨#[]⟩ : ByteArray), 0, 0, (⟨#[]⟩ : ByteArray), false, ([] : List T_api_Range), 0, 0, 0, 0, false, 0⟩ : T_api_Cmd), 180)) else (if a0 = 6 then (some ((⟨0, 0, (⟨#[]⟩ : ByteArray), 0, 0, (⟨#[]⟩ : ByteArray), false, ([] : List T_api_Range), 0, 0, 0, 0, false, 0⟩ : T_api_Cmd), 180)) else (headgateref18_Change.j0 K a0 a1 a2 t1004 t1010))))) else (if a0 ≥ 1 then (if a0 ≤ 3 then (some ((⟨0, 0, (⟨#[]⟩ : ByteArray), 0, 0, (⟨#[]⟩ : ByteArray), false, ([] : List T_api_Range), 0, 0, 0, 0, false, 0⟩ : T_api_Cmd), 180)) else (if a1 = 0 then (headgateref18_Change.j0 K a0 a1 a2 t1004 t1010) else (if a0 = 0 then (some ((⟨0, 0, (⟨#[]⟩ : ByteArray), 0, 0, (⟨#[]⟩ : ByteArray), false, ([] : List T_api_Range), 0, 0, 0, 0, false, 0⟩ : T_api_Cmd), 180)) else (if a0 = 3 then (some ((⟨0, 0, (⟨#[]⟩ : ByteArray), 0, 0, (⟨#[]⟩ : ByteArray), false, ([] : List T_api_Range), 0, 0, 0, 0, false, 0⟩ : T_api_Cmd), 180)) else (if a0 = 6 then (some ((⟨0, 0, (⟨#[]⟩ : ByteArray), 0, 0, (⟨#[]⟩ : ByteArray), false, ([] : List T_api_Range), 0, 0, 0, 0, false, 0⟩ : T_api_Cmd), 180)) else (headgateref18_Change.j0 K a0 a1 a2 t1004 t1010)))))) else (if a1 = 0 then (headgateref18_Change.j0 K a0 a1 a2 t1004 t1010) else (if a0 = 0 then (some ((⟨0, 0, (⟨#[]⟩ : ByteArray), 0, 0, (⟨#[]⟩ : ByteArray), false, ([] : List T_api_Range), 0, 0, 0, 0, false, 0⟩ : T_api_Cmd), 180)) else (if a0 = 3 then (some ((⟨0, 0, (⟨#[]⟩ : ByteArray), 0, 0, (⟨#[]⟩ : ByteArray), false, ([] : List T_api_Range), 0, 0, 0, 0, false, 0⟩ : T_api_Cmd), 180)) else (if a0 = 6 then (some ((⟨0, 0, (⟨#[]⟩ : ByteArray), 0, 0, (⟨#[]⟩ : ByteArray), false, ([] : List T_api_Range), 0, 0, 0, 0, false, 0⟩ : T_api_Cmd), 180)) else (headgateref18_Change.j0 K a0 a1 a2 t1004 t1010)))))))))
def headgateref18_Change.l0 (K : Nat) (a0 : Int) (a1 : Int) (a2 : ByteArray) (t1004 : Int × Bool) (t1010 : Int × Bool) : Nat → Int → Option (T_api_Cmd × Int)
  | 0, _ => none
  | k_ + 1, x1058 => headgateref18_Change.b0 K a0 a1 a2 t1004 t1010 (headgateref18_Change.l0 K a0 a1 a2 t1004 t1010 k_) x1058
def headgateref18_Change.f (K : Nat) (a0 : Int) (a1 : Int) (a2 : ByteArray) : Option (T_api_Cmd × Int) :=
  if (a2.size : Int) = 24 then (if a0 < 0 then (some ((⟨0, 0, (⟨#[]⟩ : ByteArray), 0, 0, (⟨#[]⟩ : ByteArray), false, ([] : List T_api_Range), 0, 0, 0, 0, false, 0⟩ : T_api_Cmd), 180)) else (if a0 > 6 then (some ((⟨0, 0, (⟨#[]⟩ : ByteArray), 0, 0, (⟨#[]⟩ : ByteArray), false, ([] : List T_api_Range), 0, 0, 0, 0, false, 0⟩ : T_api_Cmd), 180)) else (if a0 = 5 then (some ((⟨0, 0, (⟨#[]⟩ : ByteArray), 0, 0, (⟨#[]⟩ : ByteArray), false, ([] : List T_api_Range), 0, 0, 0, 0, false, 0⟩ : T_api_Cmd), 180)) else ((headgateref01_Big.f K a2 0 8).bind fun t1004 => ((headgateref01_Big.f K a2 8 8).bind fun t1010 => (headgateref18_Change.l0 K a0 a1 a2 t1004 t1010 K 16)))))) else (some ((⟨0, 0, (⟨#[]⟩ : ByteArray), 0, 0, (⟨#[]⟩ : ByteArray), false, ([] : List T_api_Range), 0, 0, 0, 0, false, 0⟩ : T_api_Cmd), 180))
set_option maxRecDepth 100000 in
set_option maxHeartbeats 4000000 in
theorem headgateref18_Change.calls (K : Nat) (a0 : Int) (a1 : Int) (a2 : ByteArray)  (r : T_api_Cmd × Int) (w : World)  (h : headgateref18_Change.f K a0 a1 a2 = some r) :
    Calls Try.prog 8 #[.int .i64 a0, .int .i64 a1, .string a2] w (fun e W' => ∃ A_0 c_0, e = .returned (.tuple #[.agg #[.int .i64 r.1.f0, .int .i64 r.1.f1, .string r.1.f2, .int .i64 r.1.f3, .int .i64 r.1.f4, .string r.1.f5, .bool r.1.f6, .slice A_0 r.1.f7.length c_0, .int .u64 r.1.f8, .int .u64 r.1.f9, .int .u64 r.1.f10, .int .i64 r.1.f11, .bool r.1.f12, .int .i64 r.1.f13], .int .i64 r.2]) ∧ Wd w W' [] [⟨61, 2, .slice A_0 r.1.f7.length c_0, r.1.f7.length, encs T_api_Range.enc r.1.f7⟩] ) := by
  refine sxstart (n := 138) (l := [(0, .int .i64 a0), (1, .int .i64 a1), (2, .string a2)]) Try.func8 rfl rfl (Nat.le_of_ble_eq_true (by kernel_rfl)) (subsA_cons rfl (subsA_cons rfl (subsA_cons rfl (subsA_nil _)))) ?_
  intro a ha
  have HW := Wd.refl w
  unfold headgateref18_Change.f at h
  refine wp_seq_k (fun K974 hK975 => ?_)
  refine wp_region_lit ?_
  refine stepnew ha HW 6 #[.int .i64 0, .int .i64 0, .string (⟨#[]⟩ : ByteArray), .int .i64 0, .int .i64 0, .string (⟨#[]⟩ : ByteArray), .bool false, .slice none 0 0, .int .u64 0, .int .u64 0, .int .u64 0, .int .i64 0, .bool false, .int .i64 0] 26 (by kernel_rfl) (by kernel_rfl) ?_; clear ha HW a; intro b976 a W977 HW ha
  refine stepp ha 7 (.int .i64 0) (by kernel_rfl) (by kernel_rfl) ?_; clear ha a; intro a ha
  refine endl ?_
  refine thenN (hK975 _ _ ?_); clear hK975
  refine wp_seq_k (fun K978 hK979 => ?_)
  refine wp_seq_k (fun K980 hK981 => ?_)
  refine wp_region_lit ?_
  refine stepp ha 15 (.string a2) (by kernel_rfl) (by kernel_rfl) ?_; clear ha a; intro a ha
  refine stepp ha 16 (.int .i64 (a2.size : Int)) (by kernel_rfl) (by kernel_rfl) ?_; clear ha a; intro a ha
  refine stepp ha 17 (.bool ((a2.size : Int) != 24)) (by kernel_rfl) (by kernel_rfl) ?_; clear ha a; intro a ha
  refine stepp ha 18 (.bool ((a2.size : Int) != 24)) (by kernel_rfl) (by kernel_rfl) ?_; clear ha a; intro a ha
  by_cases hp982 : (a2.size : Int) = 24
  · skip
    replace h := ite_pos' h hp982
    replace ha := ha.bool 18 (by kernel_rfl) (ineq_f hp982)
    refine stepp ha 19 (.int .i64 a0) (by kernel_rfl) (by kernel_rfl) ?_; clear ha a; intro a ha
    refine stepp ha 20 (.bool (decide (a0 < 0))) (by kernel_rfl) (by kernel_rfl) ?_; clear ha a; intro a ha
    refine stepp ha 21 (.bool (decide (a0 < 0))) (by kernel_rfl) (by kernel_rfl) ?_; clear ha a; intro a ha
    refine stepp ha 22 (.bool (decide (a0 < 0))) (by kernel_rfl) (by kernel_rfl) ?_; clear ha a; intro a ha
    by_cases hp983 : a0 < 0
    · skip
      replace h := ite_pos' h hp983
      replace ha := ha.bool 22 (by kernel_rfl) (decide_eq_true hp983)
      refine stepo ha 23 (by kernel_rfl) ?_; clear ha a; intro a ha
      refine stepo ha 24 (by kernel_rfl) ?_; clear ha a; intro a ha
      refine stepp ha 25 (.bool true) (by kernel_rfl) (by kernel_rfl) ?_; clear ha a; intro a ha
      refine stepp ha 26 (.bool true) (by kernel_rfl) (by kernel_rfl) ?_; clear ha a; intro a ha
      refine stepo ha 27 (by kernel_rfl) ?_; clear ha a; intro a ha
      refine stepo ha 28 (by kernel_rfl) ?_; clear ha a; intro a ha
      refine stepp ha 29 (.bool true) (by kernel_rfl) (by kernel_rfl) ?_; clear ha a; intro a ha
      refine endl ?_
      refine thenN (hK981 _ _ ?_); clear hK981
      refine condT ha (by kernel_rfl) (by kernel_rfl) (t := true) (rfl) ?_
      refine wp_seq_k (fun K985 hK986 => ?_)
      refine wp_region_lit ?_
      refine stepp ha 30 (.agg #[.int .i64 0, .int .i64 0, .string (⟨#[]⟩ : ByteArray), .int .i64 0, .int .i64 0, .string (⟨#[]⟩ : ByteArray), .bool false, .slice none 0 0, .int .u64 0, .int .u64 0, .int .u64 0, .int .i64 0, .bool false, .int .i64 0]) (by kernel_rfl) (by kernel_rfl) ?_; clear ha a; intro a ha
      refine stepst ha HW 0 (b := b976) (C := #[.int .i64 0, .int .i64 0, .string (⟨#[]⟩ : ByteArray), .int .i64 0, .int .i64 0, .string (⟨#[]⟩ : ByteArray), .bool false, .slice none 0 0, .int .u64 0, .int .u64 0, .int .u64 0, .int .i64 0, .bool false, .int .i64 0]) (T := 26) (by kernel_rfl) 26 0 (.tmp 6) (.tmp 30) (.agg #[.int .i64 0, .int .i64 0, .string (⟨#[]⟩ : ByteArray), .int .i64 0, .int .i64 0, .string (⟨#[]⟩ : ByteArray), .bool false, .slice none 0 0, .int .u64 0, .int .u64 0, .int .u64 0, .int .i64 0, .bool false, .int .i64 0]) #[.int .i64 0, .int .i64 0, .string (⟨#[]⟩ : ByteArray), .int .i64 0, .int .i64 0, .string (⟨#[]⟩ : ByteArray), .bool false, .slice none 0 0, .int .u64 0, .int .u64 0, .int .u64 0, .int .i64 0, .bool false, .int .i64 0] rfl (by kernel_rfl) (by kernel_rfl) (by kernel_rfl) (by kernel_rfl) (by kernel_rfl) (by kernel_rfl) (by kernel_rfl) ?_; clear ha HW a; intro a W987 HW ha
      refine stepp ha 7 (.int .i64 180) (by kernel_rfl) (by kernel_rfl) ?_; clear ha a; intro a ha
      refine endl ?_
      refine thenN (hK986 _ _ ?_); clear hK986
      refine wp_ret ?_
      refine thenR ?_
      obtain rfl := Option.some.inj h
      replace HW := HW.nilo 61 2
      exact finv ha _ _ rfl (.cell (ad := ⟨b976, 0, none⟩) (v := .agg #[.int .i64 0, .int .i64 0, .string (⟨#[]⟩ : ByteArray), .int .i64 0, .int .i64 0, .string (⟨#[]⟩ : ByteArray), .bool false, .slice none 0 0, .int .u64 0, .int .u64 0, .int .u64 0, .int .i64 0, .bool false, .int .i64 0]) (by kernel_rfl) (run_loadVar_ca0 (HW.ca (i := 0) (b := b976) (C := #[.int .i64 0, .int .i64 0, .string (⟨#[]⟩ : ByteArray), .int .i64 0, .int .i64 0, .string (⟨#[]⟩ : ByteArray), .bool false, .slice none 0 0, .int .u64 0, .int .u64 0, .int .u64 0, .int .i64 0, .bool false, .int .i64 0]) (T := 26) (fr := (0, 0)) (by kernel_rfl)) 26 0 (.agg #[.int .i64 0, .int .i64 0, .string (⟨#[]⟩ : ByteArray), .int .i64 0, .int .i64 0, .string (⟨#[]⟩ : ByteArray), .bool false, .slice none 0 0, .int .u64 0, .int .u64 0, .int .u64 0, .int .i64 0, .bool false, .int .i64 0]) (by kernel_rfl)) (.tmp (v := .int .i64 180) (by kernel_rfl) .nil)) (.tuple #[.agg #[.int .i64 0, .int .i64 0, .string (⟨#[]⟩ : ByteArray), .int .i64 0, .int .i64 0, .string (⟨#[]⟩ : ByteArray), .bool false, .slice none 0 0, .int .u64 0, .int .u64 0, .int .u64 0, .int .i64 0, .bool false, .int .i64 0], .int .i64 180]) rfl ⟨none, 0, rfl, HW.pick [] [0] (by decide) (by decide) rfl (by kernel_rfl)⟩
    · skip
      replace h := ite_neg' h hp983
      replace ha := ha.bool 22 (by kernel_rfl) (decide_eq_false hp983)
      refine stepp ha 23 (.int .i64 a0) (by kernel_rfl) (by kernel_rfl) ?_; clear ha a; intro a ha
      refine stepp ha 24 (.bool (decide (a0 > 6))) (by kernel_rfl) (by kernel_rfl) ?_; clear ha a; intro a ha
      refine stepp ha 25 (.bool (decide (a0 > 6))) (by kernel_rfl) (by kernel_rfl) ?_; clear ha a; intro a ha
      refine stepp ha 26 (.bool (decide (a0 > 6))) (by kernel_rfl) (by kernel_rfl) ?_; clear ha a; intro a ha
      by_cases hp984 : a0 > 6
      · skip
        replace h := ite_pos' h hp984
        replace ha := ha.bool 26 (by kernel_rfl) (decide_eq_true hp984)
        refine stepo ha 27 (by kernel_rfl) ?_; clear ha a; intro a ha
        refine stepo ha 28 (by kernel_rfl) ?_; clear ha a; intro a ha
        refine stepp ha 29 (.bool true) (by kernel_rfl) (by kernel_rfl) ?_; clear ha a; intro a ha
        refine endl ?_
        refine thenN (hK981 _ _ ?_); clear hK981
        refine condT ha (by kernel_rfl) (by kernel_rfl) (t := true) (rfl) ?_
        refine wp_seq_k (fun K989 hK990 => ?_)
        refine wp_region_lit ?_
        refine stepp ha 30 (.agg #[.int .i64 0, .int .i64 0, .string (⟨#[]⟩ : ByteArray), .int .i64 0, .int .i64 0, .string (⟨#[]⟩ : ByteArray), .bool false, .slice none 0 0, .int .u64 0, .int .u64 0, .int .u64 0, .int .i64 0, .bool false, .int .i64 0]) (by kernel_rfl) (by kernel_rfl) ?_; clear ha a; intro a ha
        refine stepst ha HW 0 (b := b976) (C := #[.int .i64 0, .int .i64 0, .string (⟨#[]⟩ : ByteArray), .int .i64 0, .int .i64 0, .string (⟨#[]⟩ : ByteArray), .bool false, .slice none 0 0, .int .u64 0, .int .u64 0, .int .u64 0, .int .i64 0, .bool false, .int .i64 0]) (T := 26) (by kernel_rfl) 26 0 (.tmp 6) (.tmp 30) (.agg #[.int .i64 0, .int .i64 0, .string (⟨#[]⟩ : ByteArray), .int .i64 0, .int .i64 0, .string (⟨#[]⟩ : ByteArray), .bool false, .slice none 0 0, .int .u64 0, .int .u64 0, .int .u64 0, .int .i64 0, .bool false, .int .i64 0]) #[.int .i64 0, .int .i64 0, .string (⟨#[]⟩ : ByteArray), .int .i64 0, .int .i64 0, .string (⟨#[]⟩ : ByteArray), .bool false, .slice none 0 0, .int .u64 0, .int .u64 0, .int .u64 0, .int .i64 0, .bool false, .int .i64 0] rfl (by kernel_rfl) (by kernel_rfl) (by kernel_rfl) (by kernel_rfl) (by kernel_rfl) (by kernel_rfl) (by kernel_rfl) ?_; clear ha HW a; intro a W991 HW ha
        refine stepp ha 7 (.int .i64 180) (by kernel_rfl) (by kernel_rfl) ?_; clear ha a; intro a ha
        refine endl ?_
        refine thenN (hK990 _ _ ?_); clear hK990
        refine wp_ret ?_
        refine thenR ?_
        obtain rfl := Option.some.inj h
        replace HW := HW.nilo 61 2
        exact finv ha _ _ rfl (.cell (ad := ⟨b976, 0, none⟩) (v := .agg #[.int .i64 0, .int .i64 0, .string (⟨#[]⟩ : ByteArray), .int .i64 0, .int .i64 0, .string (⟨#[]⟩ : ByteArray), .bool false, .slice none 0 0, .int .u64 0, .int .u64 0, .int .u64 0, .int .i64 0, .bool false, .int .i64 0]) (by kernel_rfl) (run_loadVar_ca0 (HW.ca (i := 0) (b := b976) (C := #[.int .i64 0, .int .i64 0, .string (⟨#[]⟩ : ByteArray), .int .i64 0, .int .i64 0, .string (⟨#[]⟩ : ByteArray), .bool false, .slice none 0 0, .int .u64 0, .int .u64 0, .int .u64 0, .int .i64 0, .bool false, .int .i64 0]) (T := 26) (fr := (0, 0)) (by kernel_rfl)) 26 0 (.agg #[.int .i64 0, .int .i64 0, .string (⟨#[]⟩ : ByteArray), .int .i64 0, .int .i64 0, .string (⟨#[]⟩ : ByteArray), .bool false, .slice none 0 0, .int .u64 0, .int .u64 0, .int .u64 0, .int .i64 0, .bool false, .int .i64 0]) (by kernel_rfl)) (.tmp (v := .int .i64 180) (by kernel_rfl) .nil)) (.tuple #[.agg #[.int .i64 0, .int .i64 0, .string (⟨#[]⟩ : ByteArray), .int .i64 0, .int .i64 0, .string (⟨#[]⟩ : ByteArray), .bool false, .slice none 0 0, .int .u64 0, .int .u64 0, .int .u64 0, .int .i64 0, .bool false, .int .i64 0], .int .i64 180]) rfl ⟨none, 0, rfl, HW.pick [] [0] (by decide) (by decide) rfl (by kernel_rfl)⟩
      · skip
        replace h := ite_neg' h hp984
        replace ha := ha.bool 26 (by kernel_rfl) (decide_eq_false hp984)
        refine stepp ha 27 (.int .i64 a0) (by kernel_rfl) (by kernel_rfl) ?_; clear ha a; intro a ha
        refine stepp ha 28 (.bool (a0 == 5)) (by kernel_rfl) (by kernel_rfl) ?_; clear ha a; intro a ha
        refine stepp ha 29 (.bool (a0 == 5)) (by kernel_rfl) (by kernel_rfl) ?_; clear ha a; intro a ha
        refine endl ?_
        refine thenN (hK981 _ _ ?_); clear hK981
        by_cases hp993 : a0 = 5
        · skip
          replace h := ite_pos' h hp993
          refine condT ha (by kernel_rfl) (by kernel_rfl) (t := (a0 == 5)) (ieq_t hp993) ?_
          refine wp_seq_k (fun K994 hK995 => ?_)
          refine wp_region_lit ?_
          refine stepp ha 30 (.agg #[.int .i64 0, .int .i64 0, .string (⟨#[]⟩ : ByteArray), .int .i64 0, .int .i64 0, .string (⟨#[]⟩ : ByteArray), .bool false, .slice none 0 0, .int .u64 0, .int .u64 0, .int .u64 0, .int .i64 0, .bool false, .int .i64 0]) (by kernel_rfl) (by kernel_rfl) ?_; clear ha a; intro a ha
          refine stepst ha HW 0 (b := b976) (C := #[.int .i64 0, .int .i64 0, .string (⟨#[]⟩ : ByteArray), .int .i64 0, .int .i64 0, .string (⟨#[]⟩ : ByteArray), .bool false, .slice none 0 0, .int .u64 0, .int .u64 0, .int .u64 0, .int .i64 0, .bool false, .int .i64 0]) (T := 26) (by kernel_rfl) 26 0 (.tmp 6) (.tmp 30) (.agg #[.int .i64 0, .int .i64 0, .string (⟨#[]⟩ : ByteArray), .int .i64 0, .int .i64 0, .string (⟨#[]⟩ : ByteArray), .bool false, .slice none 0 0, .int .u64 0, .int .u64 0, .int .u64 0, .int .i64 0, .bool false, .int .i64 0]) #[.int .i64 0, .int .i64 0, .string (⟨#[]⟩ : ByteArray), .int .i64 0, .int .i64 0, .string (⟨#[]⟩ : ByteArray), .bool false, .slice none 0 0, .int .u64 0, .int .u64 0, .int .u64 0, .int .i64 0, .bool false, .int .i64 0] rfl (by kernel_rfl) (by kernel_rfl) (by kernel_rfl) (by kernel_rfl) (by kernel_rfl) (by kernel_rfl) (by kernel_rfl) ?_; clear ha HW a; intro a W996 HW ha
          refine stepp ha 7 (.int .i64 180) (by kernel_rfl) (by kernel_rfl) ?_; clear ha a; intro a ha
          refine endl ?_
          refine thenN (hK995 _ _ ?_); clear hK995
          refine wp_ret ?_
          refine thenR ?_
          obtain rfl := Option.some.inj h
          replace HW := HW.nilo 61 2
          exact finv ha _ _ rfl (.cell (ad := ⟨b976, 0, none⟩) (v := .agg #[.int .i64 0, .int .i64 0, .string (⟨#[]⟩ : ByteArray), .int .i64 0, .int .i64 0, .string (⟨#[]⟩ : ByteArray), .bool false, .slice none 0 0, .int .u64 0, .int .u64 0, .int .u64 0, .int .i64 0, .bool false, .int .i64 0]) (by kernel_rfl) (run_loadVar_ca0 (HW.ca (i := 0) (b := b976) (C := #[.int .i64 0, .int .i64 0, .string (⟨#[]⟩ : ByteArray), .int .i64 0, .int .i64 0, .string (⟨#[]⟩ : ByteArray), .bool false, .slice none 0 0, .int .u64 0, .int .u64 0, .int .u64 0, .int .i64 0, .bool false, .int .i64 0]) (T := 26) (fr := (0, 0)) (by kernel_rfl)) 26 0 (.agg #[.int .i64 0, .int .i64 0, .string (⟨#[]⟩ : ByteArray), .int .i64 0, .int .i64 0, .string (⟨#[]⟩ : ByteArray), .bool false, .slice none 0 0, .int .u64 0, .int .u64 0, .int .u64 0, .int .i64 0, .bool false, .int .i64 0]) (by kernel_rfl)) (.tmp (v := .int .i64 180) (by kernel_rfl) .nil)) (.tuple #[.agg #[.int .i64 0, .int .i64 0, .string (⟨#[]⟩ : ByteArray), .int .i64 0, .int .i64 0, .string (⟨#[]⟩ : ByteArray), .bool false, .slice none 0 0, .int .u64 0, .int .u64 0, .int .u64 0, .int .i64 0, .bool false, .int .i64 0], .int .i64 180]) rfl ⟨none, 0, rfl, HW.pick [] [0] (by decide) (by decide) rfl (by kernel_rfl)⟩
        · skip
          replace h := ite_neg' h hp993
          refine condF ha (by kernel_rfl) (by kernel_rfl) (t := (a0 == 5)) (ieq_f hp993) ?_
          refine wp_skip ?_
          refine thenN (hK979 _ _ ?_); clear hK979
          refine wp_seq_k (fun K1002 hK1003 => ?_)
          refine wp_region_lit ?_
          refine stepp ha 32 (.string a2) (by kernel_rfl) (by kernel_rfl) ?_; clear ha a; intro a ha
          obtain ⟨t1004, ht1005, h_⟩ := bind_some' h; clear h; have h := h_; clear h_
          refine stepc ha 33 (by kernel_rfl) (by kernel_rfl) (headgateref01_Big.calls K a2 0 8 t1004 _ ht1005) ?_; clear ha a; rintro e W1006 ⟨rfl, HX1007⟩
          refine ⟨_, rfl, ?_⟩; intro a ha; replace HW := HW.callw HX1007; clear HX1007
          refine stepp ha 31 (.tuple #[.int .u64 t1004.1, .bool t1004.2]) (by kernel_rfl) (by kernel_rfl) ?_; clear ha a; intro a ha
          refine stepp ha 34 (.int .u64 t1004.1) (by kernel_rfl) (by kernel_rfl) ?_; clear ha a; intro a ha
          refine stepp ha 35 (.bool t1004.2) (by kernel_rfl) (by kernel_rfl) ?_; clear ha a; intro a ha
          refine stepp ha 8 (.int .u64 t1004.1) (by kernel_rfl) (by kernel_rfl) ?_; clear ha a; intro a ha
          refine stepp ha 9 (.bool t1004.2) (by kernel_rfl) (by kernel_rfl) ?_; clear ha a; intro a ha
          refine endl ?_
          refine thenN (hK1003 _ _ ?_); clear hK1003
          refine wp_seq_k (fun K1008 hK1009 => ?_)
          refine wp_region_lit ?_
          refine stepp ha 37 (.string a2) (by kernel_rfl) (by kernel_rfl) ?_; clear ha a; intro a ha
          obtain ⟨t1010, ht1011, h_⟩ := bind_some' h; clear h; have h := h_; clear h_
          refine stepc ha 38 (by kernel_rfl) (by kernel_rfl) (headgateref01_Big.calls K a2 8 8 t1010 _ ht1011) ?_; clear ha a; rintro e W1012 ⟨rfl, HX1013⟩
          refine ⟨_, rfl, ?_⟩; intro a ha; replace HW := HW.callw HX1013; clear HX1013
          refine stepp ha 36 (.tuple #[.int .u64 t1010.1, .bool t1010.2]) (by kernel_rfl) (by kernel_rfl) ?_; clear ha a; intro a ha
          refine stepp ha 39 (.int .u64 t1010.1) (by kernel_rfl) (by kernel_rfl) ?_; clear ha a; intro a ha
          refine stepp ha 40 (.bool t1010.2) (by kernel_rfl) (by kernel_rfl) ?_; clear ha a; intro a ha
          refine stepp ha 10 (.int .u64 t1010.1) (by kernel_rfl) (by kernel_rfl) ?_; clear ha a; intro a ha
          refine stepp ha 11 (.bool t1010.2) (by kernel_rfl) (by kernel_rfl) ?_; clear ha a; intro a ha
          refine endl ?_
          refine thenN (hK1009 _ _ ?_); clear hK1009
          refine wp_seq_k (fun K1014 hK1015 => ?_)
          refine wp_seq_k (fun K1016 hK1017 => ?_)
          refine wp_region_lit ?_
          refine stepp ha 12 (.int .i64 16) (by kernel_rfl) (by kernel_rfl) ?_; clear ha a; intro a ha
          refine endl ?_
          refine thenN (hK1017 _ _ ?_); clear hK1017
          refine wp_block ?_
          refine loopk (fun k => fun a W1059 => ∃ (x1058 : Int), headgateref18_Change.l0 K a0 a1 a2 t1004 t1010 k x1058 = some r ∧ Has 138 [(0, .int .i64 a0), (1, .int .i64 a1), (2, .string a2), (6, .pointer (some ⟨b976, 0, none⟩)), (8, .int .u64 t1004.1), (10, .int .u64 t1010.1), (12, .int .i64 x1058)] a ∧ Wd w W1059 [(b976, .cells #[.int .i64 0, .int .i64 0, .string (⟨#[]⟩ : ByteArray), .int .i64 0, .int .i64 0, .string (⟨#[]⟩ : ByteArray), .bool false, .slice none 0 0, .int .u64 0, .int .u64 0, .int .u64 0, .int .i64 0, .bool false, .int .i64 0] 26 (0, 0))] []) K ?_ ?_
          · skip
            exact ⟨16, h, ha.sub (subs_cons (by kernel_rfl) (subs_cons (by kernel_rfl) (subs_cons (by kernel_rfl) (subs_cons (by kernel_rfl) (subs_cons (by kernel_rfl) (subs_cons (by kernel_rfl) (subs_cons (by kernel_rfl) (subs_nil _)))))))), HW.pick [0] [] (by decide) (by decide) (by kernel_rfl) (by kernel_rfl)⟩
          · skip
            intro k a W1059 hI
            obtain ⟨x1058, h, ha, HW⟩ := hI
            cases k with
            | zero => exact (none_some (show none = some r from h)).elim
            | succ k1060 =>
              replace h : headgateref18_Change.b0 K a0 a1 a2 t1004 t1010 (headgateref18_Change.l0 K a0 a1 a2 t1004 t1010 k1060) x1058 = some r := h
              obtain ⟨again1057, hag1061⟩ : ∃ g_, g_ = headgateref18_Change.l0 K a0 a1 a2 t1004 t1010 k1060 := ⟨_, rfl⟩
              rw [← hag1061] at h
              unfold headgateref18_Change.b0 at h
              refine wp_seq_k (fun K1062 hK1063 => ?_)
              refine wp_seq_k (fun K1064 hK1065 => ?_)
              refine wp_region_lit ?_
              refine stepp ha 41 (.int .i64 x1058) (by kernel_rfl) (by kernel_rfl) ?_; clear ha a; intro a ha
              refine stepp ha 42 (.bool (decide (x1058 < 24))) (by kernel_rfl) (by kernel_rfl) ?_; clear ha a; intro a ha
              refine endl ?_
              refine thenN (hK1065 _ _ ?_); clear hK1065
              by_cases hp1066 : x1058 < 24
              · skip
                replace h := ite_pos' h hp1066
                refine condT ha (by kernel_rfl) (by kernel_rfl) (t := decide (x1058 < 24)) (decide_eq_true hp1066) ?_
                refine wp_skip ?_
                refine thenN (hK1063 _ _ ?_); clear hK1063
                refine wp_seq_k (fun K1067 hK1068 => ?_)
                refine wp_block ?_
                refine wp_seq_k (fun K1069 hK1070 => ?_)
                refine wp_region_lit ?_
                refine stepp ha 45 (.string a2) (by kernel_rfl) (by kernel_rfl) ?_; clear ha a; intro a ha
                refine stepp ha 46 (.int .i64 x1058) (by kernel_rfl) (by kernel_rfl) ?_; clear ha a; intro a ha
                obtain ⟨hA1071, h_⟩ := asrt_some h; clear h; have h := h_; clear h_
                obtain ⟨hA1072, h_⟩ := asrt_some h; clear h; have h := h_; clear h_
                refine stepsi ha 47 9 (.tmp 45) (.tmp 46) a2 .i64 x1058 rfl (by kernel_rfl) (by kernel_rfl) (by kernel_rfl) hA1071 (show (x1058 : Int) < ((a2).size : Int) from hA1072) (by kernel_rfl) ?_; clear ha a; intro a ha
                refine stepp ha 48 (.bool ((bt a2 x1058) != 0)) (by kernel_rfl) (by kernel_rfl) ?_; clear ha a; intro a ha
                refine stepp ha 49 (.bool ((bt a2 x1058) != 0)) (by kernel_rfl) (by kernel_rfl) ?_; clear ha a; intro a ha
                by_cases hp1073 : (bt a2 x1058) = 0
                · skip
                  replace h := ite_pos' h hp1073
                  replace ha := ha.bool 49 (by kernel_rfl) (ineq_f hp1073)
                  refine stepo ha 50 (by kernel_rfl) ?_; clear ha a; intro a ha
                  refine stepo ha 51 (by kernel_rfl) ?_; clear ha a; intro a ha
                  refine stepo ha 52 (by kernel_rfl) ?_; clear ha a; intro a ha
                  refine stepo ha 53 (by kernel_rfl) ?_; clear ha a; intro a ha
                  refine stepo ha 54 (by kernel_rfl) ?_; clear ha a; intro a ha
                  refine stepo ha 55 (by kernel_rfl) ?_; clear ha a; intro a ha
                  refine stepo ha 56 (by kernel_rfl) ?_; clear ha a; intro a ha
                  refine stepo ha 57 (by kernel_rfl) ?_; clear ha a; intro a ha
                  refine stepp ha 58 (.bool false) (by kernel_rfl) (by kernel_rfl) ?_; clear ha a; intro a ha
                  refine endl ?_
                  refine thenN (hK1070 _ _ ?_); clear hK1070
                  refine condF ha (by kernel_rfl) (by kernel_rfl) (t := false) (rfl) ?_
                  refine wp_skip ?_
                  refine blkN ?_
                  refine thenN (hK1068 _ _ ?_); clear hK1068
                  refine wp_region_lit ?_
                  refine stepp ha 43 (.int .i64 x1058) (by kernel_rfl) (by kernel_rfl) ?_; clear ha a; intro a ha
                  refine stepp ha 44 (.int .i64 (IntKind.wrap .i64 (x1058 + 1))) (by kernel_rfl) (by kernel_rfl) ?_; clear ha a; intro a ha
                  refine stepp ha 12 (.int .i64 (IntKind.wrap .i64 (x1058 + 1))) (by kernel_rfl) (by kernel_rfl) ?_; clear ha a; intro a ha
                  refine endl ?_
                  exact thenN ⟨k1060, Nat.lt_succ_self k1060, IntKind.wrap .i64 (x1058 + 1), (by rw [← hag1061]; exact h), ha.sub (subs_cons (by kernel_rfl) (subs_cons (by kernel_rfl) (subs_cons (by kernel_rfl) (subs_cons (by kernel_rfl) (subs_cons (by kernel_rfl) (subs_cons (by kernel_rfl) (subs_cons (by kernel_rfl) (subs_nil _)))))))), HW.pick [0] [] (by decide) (by decide) (by kernel_rfl) (by kernel_rfl)⟩
                · skip
                  replace h := ite_neg' h hp1073
                  replace ha := ha.bool 49 (by kernel_rfl) (ineq_t hp1073)
                  refine stepp ha 50 (.int .i64 x1058) (by kernel_rfl) (by kernel_rfl) ?_; clear ha a; intro a ha
                  refine stepp ha 51 (.bool (x1058 != 20)) (by kernel_rfl) (by kernel_rfl) ?_; clear ha a; intro a ha
                  refine stepp ha 52 (.bool (x1058 != 20)) (by kernel_rfl) (by kernel_rfl) ?_; clear ha a; intro a ha
                  by_cases hp1074 : x1058 = 20
                  · skip
                    replace h := ite_pos' h hp1074
                    replace ha := ha.bool 52 (by kernel_rfl) (ineq_f hp1074)
                    refine stepp ha 53 (.string a2) (by kernel_rfl) (by kernel_rfl) ?_; clear ha a; intro a ha
                    refine stepp ha 54 (.int .i64 x1058) (by kernel_rfl) (by kernel_rfl) ?_; clear ha a; intro a ha
                    refine stepsi ha 55 9 (.tmp 53) (.tmp 54) a2 .i64 x1058 rfl (by kernel_rfl) (by kernel_rfl) (by kernel_rfl) hA1071 (show (x1058 : Int) < ((a2).size : Int) from hA1072) (by kernel_rfl) ?_; clear ha a; intro a ha
                    refine stepp ha 56 (.bool ((bt a2 x1058) != 1)) (by kernel_rfl) (by kernel_rfl) ?_; clear ha a; intro a ha
                    refine stepp ha 57 (.bool ((bt a2 x1058) != 1)) (by kernel_rfl) (by kernel_rfl) ?_; clear ha a; intro a ha
                    refine stepp ha 58 (.bool ((bt a2 x1058) != 1)) (by kernel_rfl) (by kernel_rfl) ?_; clear ha a; intro a ha
                    refine endl ?_
                    refine thenN (hK1070 _ _ ?_); clear hK1070
                    by_cases hp1075 : (bt a2 x1058) = 1
                    · skip
                      replace h := ite_pos' h hp1075
                      refine condF ha (by kernel_rfl) (by kernel_rfl) (t := ((bt a2 x1058) != 1)) (ineq_f hp1075) ?_
                      refine wp_skip ?_
                      refine blkN ?_
                      refine thenN (hK1068 _ _ ?_); clear hK1068
                      refine wp_region_lit ?_
                      refine stepp ha 43 (.int .i64 x1058) (by kernel_rfl) (by kernel_rfl) ?_; clear ha a; intro a ha
                      refine stepp ha 44 (.int .i64 (IntKind.wrap .i64 (x1058 + 1))) (by kernel_rfl) (by kernel_rfl) ?_; clear ha a; intro a ha
                      refine stepp ha 12 (.int .i64 (IntKind.wrap .i64 (x1058 + 1))) (by kernel_rfl) (by kernel_rfl) ?_; clear ha a; intro a ha
                      refine endl ?_
                      exact thenN ⟨k1060, Nat.lt_succ_self k1060, IntKind.wrap .i64 (x1058 + 1), (by rw [← hag1061]; exact h), ha.sub (subs_cons (by kernel_rfl) (subs_cons (by kernel_rfl) (subs_cons (by kernel_rfl) (subs_cons (by kernel_rfl) (subs_cons (by kernel_rfl) (subs_cons (by kernel_rfl) (subs_cons (by kernel_rfl) (subs_nil _)))))))), HW.pick [0] [] (by decide) (by decide) (by kernel_rfl) (by kernel_rfl)⟩
                    · skip
                      replace h := ite_neg' h hp1075
                      refine condT ha (by kernel_rfl) (by kernel_rfl) (t := ((bt a2 x1058) != 1)) (ineq_t hp1075) ?_
                      refine wp_seq_k (fun K1076 hK1077 => ?_)
                      refine wp_region_lit ?_
                      refine stepp ha 59 (.agg #[.int .i64 0, .int .i64 0, .string (⟨#[]⟩ : ByteArray), .int .i64 0, .int .i64 0, .string (⟨#[]⟩ : ByteArray), .bool false, .slice none 0 0, .int .u64 0, .int .u64 0, .int .u64 0, .int .i64 0, .bool false, .int .i64 0]) (by kernel_rfl) (by kernel_rfl) ?_; clear ha a; intro a ha
                      refine stepst ha HW 0 (b := b976) (C := #[.int .i64 0, .int .i64 0, .string (⟨#[]⟩ : ByteArray), .int .i64 0, .int .i64 0, .string (⟨#[]⟩ : ByteArray), .bool false, .slice none 0 0, .int .u64 0, .int .u64 0, .int .u64 0, .int .i64 0, .bool false, .int .i64 0]) (T := 26) (by kernel_rfl) 26 0 (.tmp 6) (.tmp 59) (.agg #[.int .i64 0, .int .i64 0, .string (⟨#[]⟩ : ByteArray), .int .i64 0, .int .i64 0, .string (⟨#[]⟩ : ByteArray), .bool false, .slice none 0 0, .int .u64 0, .int .u64 0, .int .u64 0, .int .i64 0, .bool false, .int .i64 0]) #[.int .i64 0, .int .i64 0, .string (⟨#[]⟩ : ByteArray), .int .i64 0, .int .i64 0, .string (⟨#[]⟩ : ByteArray), .bool false, .slice none 0 0, .int .u64 0, .int .u64 0, .int .u64 0, .int .i64 0, .bool false, .int .i64 0] rfl (by kernel_rfl) (by kernel_rfl) (by kernel_rfl) (by kernel_rfl) (by kernel_rfl) (by kernel_rfl) (by kernel_rfl) ?_; clear ha HW a; intro a W1078 HW ha
                      refine stepp ha 7 (.int .i64 180) (by kernel_rfl) (by kernel_rfl) ?_; clear ha a; intro a ha
                      refine endl ?_
                      refine thenN (hK1077 _ _ ?_); clear hK1077
                      refine wp_ret ?_
                      refine blkR ?_
                      refine thenR ?_
                      refine thenR ?_
                      refine blkR ?_
                      refine thenR ?_
                      obtain rfl := Option.some.inj h
                      replace HW := HW.nilo 61 2
                      exact finv ha _ _ rfl (.cell (ad := ⟨b976, 0, none⟩) (v := .agg #[.int .i64 0, .int .i64 0, .string (⟨#[]⟩ : ByteArray), .int .i64 0, .int .i64 0, .string (⟨#[]⟩ : ByteArray), .bool false, .slice none 0 0, .int .u64 0, .int .u64 0, .int .u64 0, .int .i64 0, .bool false, .int .i64 0]) (by kernel_rfl) (run_loadVar_ca0 (HW.ca (i := 0) (b := b976) (C := #[.int .i64 0, .int .i64 0, .string (⟨#[]⟩ : ByteArray), .int .i64 0, .int .i64 0, .string (⟨#[]⟩ : ByteArray), .bool false, .slice none 0 0, .int .u64 0, .int .u64 0, .int .u64 0, .int .i64 0, .bool false, .int .i64 0]) (T := 26) (fr := (0, 0)) (by kernel_rfl)) 26 0 (.agg #[.int .i64 0, .int .i64 0, .string (⟨#[]⟩ : ByteArray), .int .i64 0, .int .i64 0, .string (⟨#[]⟩ : ByteArray), .bool false, .slice none 0 0, .int .u64 0, .int .u64 0, .int .u64 0, .int .i64 0, .bool false, .int .i64 0]) (by kernel_rfl)) (.tmp (v := .int .i64 180) (by kernel_rfl) .nil)) (.tuple #[.agg #[.int .i64 0, .int .i64 0, .string (⟨#[]⟩ : ByteArray), .int .i64 0, .int .i64 0, .string (⟨#[]⟩ : ByteArray), .bool false, .slice none 0 0, .int .u64 0, .int .u64 0, .int .u64 0, .int .i64 0, .bool false, .int .i64 0], .int .i64 180]) rfl ⟨none, 0, rfl, HW.pick [] [0] (by decide) (by decide) rfl (by kernel_rfl)⟩
                  · skip
                    replace h := ite_neg' h hp1074
                    replace ha := ha.bool 52 (by kernel_rfl) (ineq_t hp1074)
                    refine stepo ha 53 (by kernel_rfl) ?_; clear ha a; intro a ha
                    refine stepo ha 54 (by kernel_rfl) ?_; clear ha a; intro a ha
                    refine stepo ha 55 (by kernel_rfl) ?_; clear ha a; intro a ha
                    refine stepo ha 56 (by kernel_rfl) ?_; clear ha a; intro a ha
                    refine stepp ha 57 (.bool true) (by kernel_rfl) (by kernel_rfl) ?_; clear ha a; intro a ha
                    refine stepp ha 58 (.bool true) (by kernel_rfl) (by kernel_rfl) ?_; clear ha a; intro a ha
                    refine endl ?_
                    refine thenN (hK1070 _ _ ?_); clear hK1070
                    refine condT ha (by kernel_rfl) (by kernel_rfl) (t := true) (rfl) ?_
                    refine wp_seq_k (fun K1080 hK1081 => ?_)
                    refine wp_region_lit ?_
                    refine stepp ha 59 (.agg #[.int .i64 0, .int .i64 0, .string (⟨#[]⟩ : ByteArray), .int .i64 0, .int .i64 0, .string (⟨#[]⟩ : ByteArray), .bool false, .slice none 0 0, .int .u64 0, .int .u64 0, .int .u64 0, .int .i64 0, .bool false, .int .i64 0]) (by kernel_rfl) (by kernel_rfl) ?_; clear ha a; intro a ha
                    refine stepst ha HW 0 (b := b976) (C := #[.int .i64 0, .int .i64 0, .string (⟨#[]⟩ : ByteArray), .int .i64 0, .int .i64 0, .string (⟨#[]⟩ : ByteArray), .bool false, .slice none 0 0, .int .u64 0, .int .u64 0, .int .u64 0, .int .i64 0, .bool false, .int .i64 0]) (T := 26) (by kernel_rfl) 26 0 (.tmp 6) (.tmp 59) (.agg #[.int .i64 0, .int .i64 0, .string (⟨#[]⟩ : ByteArray), .int .i64 0, .int .i64 0, .string (⟨#[]⟩ : ByteArray), .bool false, .slice none 0 0, .int .u64 0, .int .u64 0, .int .u64 0, .int .i64 0, .bool false, .int .i64 0]) #[.int .i64 0, .int .i64 0, .string (⟨#[]⟩ : ByteArray), .int .i64 0, .int .i64 0, .string (⟨#[]⟩ : ByteArray), .bool false, .slice none 0 0, .int .u64 0, .int .u64 0, .int .u64 0, .int .i64 0, .bool false, .int .i64 0] rfl (by kernel_rfl) (by kernel_rfl) (by kernel_rfl) (by kernel_rfl) (by kernel_rfl) (by kernel_rfl) (by kernel_rfl) ?_; clear ha HW a; intro a W1082 HW ha
                    refine stepp ha 7 (.int .i64 180) (by kernel_rfl) (by kernel_rfl) ?_; clear ha a; intro a ha
                    refine endl ?_
                    refine thenN (hK1081 _ _ ?_); clear hK1081
                    refine wp_ret ?_
                    refine blkR ?_
                    refine thenR ?_
                    refine thenR ?_
                    refine blkR ?_
                    refine thenR ?_
                    obtain rfl := Option.some.inj h
                    replace HW := HW.nilo 61 2
                    exact finv ha _ _ rfl (.cell (ad := ⟨b976, 0, none⟩) (v := .agg #[.int .i64 0, .int .i64 0, .string (⟨#[]⟩ : ByteArray), .int .i64 0, .int .i64 0, .string (⟨#[]⟩ : ByteArray), .bool false, .slice none 0 0, .int .u64 0, .int .u64 0, .int .u64 0, .int .i64 0, .bool false, .int .i64 0]) (by kernel_rfl) (run_loadVar_ca0 (HW.ca (i := 0) (b := b976) (C := #[.int .i64 0, .int .i64 0, .string (⟨#[]⟩ : ByteArray), .int .i64 0, .int .i64 0, .string (⟨#[]⟩ : ByteArray), .bool false, .slice none 0 0, .int .u64 0, .int .u64 0, .int .u64 0, .int .i64 0, .bool false, .int .i64 0]) (T := 26) (fr := (0, 0)) (by kernel_rfl)) 26 0 (.agg #[.int .i64 0, .int .i64 0, .string (⟨#[]⟩ : ByteArray), .int .i64 0, .int .i64 0, .string (⟨#[]⟩ : ByteArray), .bool false, .slice none 0 0, .int .u64 0, .int .u64 0, .int .u64 0, .int .i64 0, .bool false, .int .i64 0]) (by kernel_rfl)) (.tmp (v := .int .i64 180) (by kernel_rfl) .nil)) (.tuple #[.agg #[.int .i64 0, .int .i64 0, .string (⟨#[]⟩ : ByteArray), .int .i64 0, .int .i64 0, .string (⟨#[]⟩ : ByteArray), .bool false, .slice none 0 0, .int .u64 0, .int .u64 0, .int .u64 0, .int .i64 0, .bool false, .int .i64 0], .int .i64 180]) rfl ⟨none, 0, rfl, HW.pick [] [0] (by decide) (by decide) rfl (by kernel_rfl)⟩
              · skip
                replace h := ite_neg' h hp1066
                refine condF ha (by kernel_rfl) (by kernel_rfl) (t := decide (x1058 < 24)) (decide_eq_false hp1066) ?_
                refine wp_exit ?_
                refine thenE ?_
                refine thenE ?_
                refine inBlk ?_
                refine thenN (hK1015 _ _ ?_); clear hK1015
                refine wp_seq_k (fun K1084 hK1085 => ?_)
                refine wp_region_lit ?_
                refine stepp ha 60 (.string a2) (by kernel_rfl) (by kernel_rfl) ?_; clear ha a; intro a ha
                obtain ⟨hA1086, h_⟩ := asrt_some h; clear h; have h := h_; clear h_
                refine stepsi ha 61 9 (.tmp 60) (.const (.int .i64 20)) a2 .i64 20 rfl (by kernel_rfl) (by kernel_rfl) (by kernel_rfl) (by decide) (show (20 : Int) < ((a2).size : Int) from hA1086) (by kernel_rfl) ?_; clear ha a; intro a ha
                refine stepp ha 62 (.bool ((bt a2 20) == 1)) (by kernel_rfl) (by kernel_rfl) ?_; clear ha a; intro a ha
                refine stepp ha 13 (.bool ((bt a2 20) == 1)) (by kernel_rfl) (by kernel_rfl) ?_; clear ha a; intro a ha
                refine endl ?_
                refine thenN (hK1085 _ _ ?_); clear hK1085
                refine wp_seq_k (fun K1087 hK1088 => ?_)
                refine cutn (fun a W1212 => headgateref18_Change.j0 K a0 a1 a2 t1004 t1010 = some r ∧ Has 138 [(0, .int .i64 a0), (1, .int .i64 a1), (6, .pointer (some ⟨b976, 0, none⟩)), (8, .int .u64 t1004.1), (10, .int .u64 t1010.1), (13, .bool ((bt a2 20) == 1))] a ∧ Wd w W1212 [(b976, .cells #[.int .i64 0, .int .i64 0, .string (⟨#[]⟩ : ByteArray), .int .i64 0, .int .i64 0, .string (⟨#[]⟩ : ByteArray), .bool false, .slice none 0 0, .int .u64 0, .int .u64 0, .int .u64 0, .int .i64 0, .bool false, .int .i64 0] 26 (0, 0))] []) ?_ ?_
                · skip
                  refine wp_seq_k (fun K1089 hK1090 => ?_)
                  refine wp_region_lit ?_
                  refine stepp ha 63 (.bool ((bt a2 20) == 1)) (by kernel_rfl) (by kernel_rfl) ?_; clear ha a; intro a ha
                  refine stepp ha 64 (.bool ((bt a2 20) == 1)) (by kernel_rfl) (by kernel_rfl) ?_; clear ha a; intro a ha
                  by_cases hp1091 : (bt a2 20) = 1
                  · skip
                    replace h := ite_pos' h hp1091
                    replace ha := ha.bool 64 (by kernel_rfl) (ieq_t hp1091)
                    refine stepp ha 65 (.int .i64 a0) (by kernel_rfl) (by kernel_rfl) ?_; clear ha a; intro a ha
                    refine stepp ha 66 (.bool (a0 != 0)) (by kernel_rfl) (by kernel_rfl) ?_; clear ha a; intro a ha
                    refine stepp ha 67 (.bool (a0 != 0)) (by kernel_rfl) (by kernel_rfl) ?_; clear ha a; intro a ha
                    refine stepp ha 68 (.bool (a0 != 0)) (by kernel_rfl) (by kernel_rfl) ?_; clear ha a; intro a ha
                    by_cases hp1092 : a0 = 0
                    · skip
                      replace h := ite_pos' h hp1092
                      replace ha := ha.bool 68 (by kernel_rfl) (ineq_f hp1092)
                      refine stepo ha 69 (by kernel_rfl) ?_; clear ha a; intro a ha
                      refine stepo ha 70 (by kernel_rfl) ?_; clear ha a; intro a ha
                      refine stepp ha 71 (.bool false) (by kernel_rfl) (by kernel_rfl) ?_; clear ha a; intro a ha
                      refine stepp ha 72 (.bool false) (by kernel_rfl) (by kernel_rfl) ?_; clear ha a; intro a ha
                      refine stepp ha 73 (.int .u64 t1010.1) (by kernel_rfl) (by kernel_rfl) ?_; clear ha a; intro a ha
                      refine stepp ha 74 (.bool (t1010.1 != 0)) (by kernel_rfl) (by kernel_rfl) ?_; clear ha a; intro a ha
                      refine stepp ha 75 (.bool (t1010.1 != 0)) (by kernel_rfl) (by kernel_rfl) ?_; clear ha a; intro a ha
                      by_cases hp1093 : t1010.1 = 0
                      · skip
                        replace h := ite_pos' h hp1093
                        replace ha := ha.bool 75 (by kernel_rfl) (ineq_f hp1093)
                        refine stepo ha 76 (by kernel_rfl) ?_; clear ha a; intro a ha
                        refine stepo ha 77 (by kernel_rfl) ?_; clear ha a; intro a ha
                        refine stepp ha 78 (.bool false) (by kernel_rfl) (by kernel_rfl) ?_; clear ha a; intro a ha
                        refine stepp ha 79 (.bool false) (by kernel_rfl) (by kernel_rfl) ?_; clear ha a; intro a ha
                        refine stepo ha 80 (by kernel_rfl) ?_; clear ha a; intro a ha
                        refine stepo ha 81 (by kernel_rfl) ?_; clear ha a; intro a ha
                        refine stepp ha 82 (.bool false) (by kernel_rfl) (by kernel_rfl) ?_; clear ha a; intro a ha
                        refine stepp ha 83 (.bool false) (by kernel_rfl) (by kernel_rfl) ?_; clear ha a; intro a ha
                        refine stepp ha 84 (.bool false) (by kernel_rfl) (by kernel_rfl) ?_; clear ha a; intro a ha
                        refine stepp ha 85 (.int .i64 a1) (by kernel_rfl) (by kernel_rfl) ?_; clear ha a; intro a ha
                        refine stepp ha 86 (.bool (a1 != 0)) (by kernel_rfl) (by kernel_rfl) ?_; clear ha a; intro a ha
                        refine stepp ha 87 (.bool (a1 != 0)) (by kernel_rfl) (by kernel_rfl) ?_; clear ha a; intro a ha
                        by_cases hp1094 : a1 = 0
                        · skip
                          replace h := ite_pos' h hp1094
                          replace ha := ha.bool 87 (by kernel_rfl) (ineq_f hp1094)
                          refine stepo ha 88 (by kernel_rfl) ?_; clear ha a; intro a ha
                          refine stepo ha 89 (by kernel_rfl) ?_; clear ha a; intro a ha
                          refine stepo ha 90 (by kernel_rfl) ?_; clear ha a; intro a ha
                          refine stepo ha 91 (by kernel_rfl) ?_; clear ha a; intro a ha
                          refine stepo ha 92 (by kernel_rfl) ?_; clear ha a; intro a ha
                          refine stepo ha 93 (by kernel_rfl) ?_; clear ha a; intro a ha
                          refine stepo ha 94 (by kernel_rfl) ?_; clear ha a; intro a ha
                          refine stepo ha 95 (by kernel_rfl) ?_; clear ha a; intro a ha
                          refine stepo ha 96 (by kernel_rfl) ?_; clear ha a; intro a ha
                          refine stepo ha 97 (by kernel_rfl) ?_; clear ha a; intro a ha
                          refine stepp ha 98 (.bool false) (by kernel_rfl) (by kernel_rfl) ?_; clear ha a; intro a ha
                          refine stepp ha 99 (.bool false) (by kernel_rfl) (by kernel_rfl) ?_; clear ha a; intro a ha
                          refine endl ?_
                          refine thenN (hK1090 _ _ ?_); clear hK1090
                          refine condF ha (by kernel_rfl) (by kernel_rfl) (t := false) (rfl) ?_
                          refine wp_skip ?_
                          exact thenN ⟨h, ha.sub (subs_cons (by kernel_rfl) (subs_cons (by kernel_rfl) (subs_cons (by kernel_rfl) (subs_cons (by kernel_rfl) (subs_cons (by kernel_rfl) (subs_cons (by kernel_rfl) (subs_nil _))))))), HW.pick [0] [] (by decide) (by decide) (by kernel_rfl) (by kernel_rfl)⟩
                        · skip
                          replace h := ite_neg' h hp1094
                          replace ha := ha.bool 87 (by kernel_rfl) (ineq_t hp1094)
                          refine stepp ha 88 (.int .i64 a0) (by kernel_rfl) (by kernel_rfl) ?_; clear ha a; intro a ha
                          refine stepp ha 89 (.bool (a0 == 0)) (by kernel_rfl) (by kernel_rfl) ?_; clear ha a; intro a ha
                          refine stepp ha 90 (.bool (a0 == 0)) (by kernel_rfl) (by kernel_rfl) ?_; clear ha a; intro a ha
                          replace ha := ha.bool 90 (by kernel_rfl) (ieq_t hp1092)
                          refine stepo ha 91 (by kernel_rfl) ?_; clear ha a; intro a ha
                          refine stepo ha 92 (by kernel_rfl) ?_; clear ha a; intro a ha
                          refine stepp ha 93 (.bool true) (by kernel_rfl) (by kernel_rfl) ?_; clear ha a; intro a ha
                          refine stepp ha 94 (.bool true) (by kernel_rfl) (by kernel_rfl) ?_; clear ha a; intro a ha
                          refine stepo ha 95 (by kernel_rfl) ?_; clear ha a; intro a ha
                          refine stepo ha 96 (by kernel_rfl) ?_; clear ha a; intro a ha
                          refine stepp ha 97 (.bool true) (by kernel_rfl) (by kernel_rfl) ?_; clear ha a; intro a ha
                          refine stepp ha 98 (.bool true) (by kernel_rfl) (by kernel_rfl) ?_; clear ha a; intro a ha
                          refine stepp ha 99 (.bool true) (by kernel_rfl) (by kernel_rfl) ?_; clear ha a; intro a ha
                          refine endl ?_
                          refine thenN (hK1090 _ _ ?_); clear hK1090
                          refine condT ha (by kernel_rfl) (by kernel_rfl) (t := true) (rfl) ?_
                          refine wp_seq_k (fun K1121 hK1122 => ?_)
                          refine wp_region_lit ?_
                          refine stepp ha 100 (.agg #[.int .i64 0, .int .i64 0, .string (⟨#[]⟩ : ByteArray), .int .i64 0, .int .i64 0, .string (⟨#[]⟩ : ByteArray), .bool false, .slice none 0 0, .int .u64 0, .int .u64 0, .int .u64 0, .int .i64 0, .bool false, .int .i64 0]) (by kernel_rfl) (by kernel_rfl) ?_; clear ha a; intro a ha
                          refine stepst ha HW 0 (b := b976) (C := #[.int .i64 0, .int .i64 0, .string (⟨#[]⟩ : ByteArray), .int .i64 0, .int .i64 0, .string (⟨#[]⟩ : ByteArray), .bool false, .slice none 0 0, .int .u64 0, .int .u64 0, .int .u64 0, .int .i64 0, .bool false, .int .i64 0]) (T := 26) (by kernel_rfl) 26 0 (.tmp 6) (.tmp 100) (.agg #[.int .i64 0, .int .i64 0, .string (⟨#[]⟩ : ByteArray), .int .i64 0, .int .i64 0, .string (⟨#[]⟩ : ByteArray), .bool false, .slice none 0 0, .int .u64 0, .int .u64 0, .int .u64 0, .int .i64 0, .bool false, .int .i64 0]) #[.int .i64 0, .int .i64 0, .string (⟨#[]⟩ : ByteArray), .int .i64 0, .int .i64 0, .string (⟨#[]⟩ : ByteArray), .bool false, .slice none 0 0, .int .u64 0, .int .u64 0, .int .u64 0, .int .i64 0, .bool false, .int .i64 0] rfl (by kernel_rfl) (by kernel_rfl) (by kernel_rfl) (by kernel_rfl) (by kernel_rfl) (by kernel_rfl) (by kernel_rfl) ?_; clear ha HW a; intro a W1123 HW ha
                          refine stepp ha 7 (.int .i64 180) (by kernel_rfl) (by kernel_rfl) ?_; clear ha a; intro a ha
                          refine endl ?_
                          refine thenN (hK1122 _ _ ?_); clear hK1122
                          refine wp_ret ?_
                          refine thenR ?_
                          obtain rfl := Option.some.inj h
                          replace HW := HW.nilo 61 2
                          exact finv ha _ _ rfl (.cell (ad := ⟨b976, 0, none⟩) (v := .agg #[.int .i64 0, .int .i64 0, .string (⟨#[]⟩ : ByteArray), .int .i64 0, .int .i64 0, .string (⟨#[]⟩ : ByteArray), .bool false, .slice none 0 0, .int .u64 0, .int .u64 0, .int .u64 0, .int .i64 0, .bool false, .int .i64 0]) (by kernel_rfl) (run_loadVar_ca0 (HW.ca (i := 0) (b := b976) (C := #[.int .i64 0, .int .i64 0, .string (⟨#[]⟩ : ByteArray), .int .i64 0, .int .i64 0, .string (⟨#[]⟩ : ByteArray), .bool false, .slice none 0 0, .int .u64 0, .int .u64 0, .int .u64 0, .int .i64 0, .bool false, .int .i64 0]) (T := 26) (fr := (0, 0)) (by kernel_rfl)) 26 0 (.agg #[.int .i64 0, .int .i64 0, .string (⟨#[]⟩ : ByteArray), .int .i64 0, .int .i64 0, .string (⟨#[]⟩ : ByteArray), .bool false, .slice none 0 0, .int .u64 0, .int .u64 0, .int .u64 0, .int .i64 0, .bool false, .int .i64 0]) (by kernel_rfl)) (.tmp (v := .int .i64 180) (by kernel_rfl) .nil)) (.tuple #[.agg #[.int .i64 0, .int .i64 0, .string (⟨#[]⟩ : ByteArray), .int .i64 0, .int .i64 0, .string (⟨#[]⟩ : ByteArray), .bool false, .slice none 0 0, .int .u64 0, .int .u64 0, .int .u64 0, .int .i64 0, .bool false, .int .i64 0], .int .i64 180]) rfl ⟨none, 0, rfl, HW.pick [] [0] (by decide) (by decide) rfl (by kernel_rfl)⟩
                      · skip
                        replace h := ite_neg' h hp1093
                        replace ha := ha.bool 75 (by kernel_rfl) (ineq_t hp1093)
                        refine stepp ha 76 (.int .i64 a0) (by kernel_rfl) (by kernel_rfl) ?_; clear ha a; intro a ha
                        refine stepp ha 77 (.bool (decide (a0 ≥ 1))) (by kernel_rfl) (by kernel_rfl) ?_; clear ha a; intro a ha
                        refine stepp ha 78 (.bool (decide (a0 ≥ 1))) (by kernel_rfl) (by kernel_rfl) ?_; clear ha a; intro a ha
                        refine stepp ha 79 (.bool (decide (a0 ≥ 1))) (by kernel_rfl) (by kernel_rfl) ?_; clear ha a; intro a ha
                        by_cases hp1095 : a0 ≥ 1
                        · skip
                          replace h := ite_pos' h hp1095
                          replace ha := ha.bool 79 (by kernel_rfl) (decide_eq_true hp1095)
                          refine stepp ha 80 (.int .i64 a0) (by kernel_rfl) (by kernel_rfl) ?_; clear ha a; intro a ha
                          refine stepp ha 81 (.bool (decide (a0 ≤ 3))) (by kernel_rfl) (by kernel_rfl) ?_; clear ha a; intro a ha
                          refine stepp ha 82 (.bool (decide (a0 ≤ 3))) (by kernel_rfl) (by kernel_rfl) ?_; clear ha a; intro a ha
                          refine stepp ha 83 (.bool (decide (a0 ≤ 3))) (by kernel_rfl) (by kernel_rfl) ?_; clear ha a; intro a ha
                          refine stepp ha 84 (.bool (decide (a0 ≤ 3))) (by kernel_rfl) (by kernel_rfl) ?_; clear ha a; intro a ha
                          by_cases hp1096 : a0 ≤ 3
                          · skip
                            replace h := ite_pos' h hp1096
                            replace ha := ha.bool 84 (by kernel_rfl) (decide_eq_true hp1096)
                            refine stepo ha 85 (by kernel_rfl) ?_; clear ha a; intro a ha
                            refine stepo ha 86 (by kernel_rfl) ?_; clear ha a; intro a ha
                            refine stepo ha 87 (by kernel_rfl) ?_; clear ha a; intro a ha
                            refine stepo ha 88 (by kernel_rfl) ?_; clear ha a; intro a ha
                            refine stepo ha 89 (by kernel_rfl) ?_; clear ha a; intro a ha
                            refine stepo ha 90 (by kernel_rfl) ?_; clear ha a; intro a ha
                            refine stepo ha 91 (by kernel_rfl) ?_; clear ha a; intro a ha
                            refine stepo ha 92 (by kernel_rfl) ?_; clear ha a; intro a ha
                            refine stepo ha 93 (by kernel_rfl) ?_; clear ha a; intro a ha
                            refine stepo ha 94 (by kernel_rfl) ?_; clear ha a; intro a ha
                            refine stepo ha 95 (by kernel_rfl) ?_; clear ha a; intro a ha
                            refine stepo ha 96 (by kernel_rfl) ?_; clear ha a; intro a ha
                            refine stepo ha 97 (by kernel_rfl) ?_; clear ha a; intro a ha
                            refine stepo ha 98 (by kernel_rfl) ?_; clear ha a; intro a ha
                            refine stepp ha 99 (.bool true) (by kernel_rfl) (by kernel_rfl) ?_; clear ha a; intro a ha
                            refine endl ?_
                            refine thenN (hK1090 _ _ ?_); clear hK1090
                            refine condT ha (by kernel_rfl) (by kernel_rfl) (t := true) (rfl) ?_
                            refine wp_seq_k (fun K1125 hK1126 => ?_)
                            refine wp_region_lit ?_
                            refine stepp ha 100 (.agg #[.int .i64 0, .int .i64 0, .string (⟨#[]⟩ : ByteArray), .int .i64 0, .int .i64 0, .string (⟨#[]⟩ : ByteArray), .bool false, .slice none 0 0, .int .u64 0, .int .u64 0, .int .u64 0, .int .i64 0, .bool false, .int .i64 0]) (by kernel_rfl) (by kernel_rfl) ?_; clear ha a; intro a ha
                            refine stepst ha HW 0 (b := b976) (C := #[.int .i64 0, .int .i64 0, .string (⟨#[]⟩ : ByteArray), .int .i64 0, .int .i64 0, .string (⟨#[]⟩ : ByteArray), .bool false, .slice none 0 0, .int .u64 0, .int .u64 0, .int .u64 0, .int .i64 0, .bool false, .int .i64 0]) (T := 26) (by kernel_rfl) 26 0 (.tmp 6) (.tmp 100) (.agg #[.int .i64 0, .int .i64 0, .string (⟨#[]⟩ : ByteArray), .int .i64 0, .int .i64 0, .string (⟨#[]⟩ : ByteArray), .bool false, .slice none 0 0, .int .u64 0, .int .u64 0, .int .u64 0, .int .i64 0, .bool false, .int .i64 0]) #[.int .i64 0, .int .i64 0, .string (⟨#[]⟩ : ByteArray), .int .i64 0, .int .i64 0, .string (⟨#[]⟩ : ByteArray), .bool false, .slice none 0 0, .int .u64 0, .int .u64 0, .int .u64 0, .int .i64 0, .bool false, .int .i64 0] rfl (by kernel_rfl) (by kernel_rfl) (by kernel_rfl) (by kernel_rfl) (by kernel_rfl) (by kernel_rfl) (by kernel_rfl) ?_; clear ha HW a; intro a W1127 HW ha
                            refine stepp ha 7 (.int .i64 180) (by kernel_rfl) (by kernel_rfl) ?_; clear ha a; intro a ha
                            refine endl ?_
                            refine thenN (hK1126 _ _ ?_); clear hK1126
                            refine wp_ret ?_
                            refine thenR ?_
                            obtain rfl := Option.some.inj h
                            replace HW := HW.nilo 61 2
                            exact finv ha _ _ rfl (.cell (ad := ⟨b976, 0, none⟩) (v := .agg #[.int .i64 0, .int .i64 0, .string (⟨#[]⟩ : ByteArray), .int .i64 0, .int .i64 0, .string (⟨#[]⟩ : ByteArray), .bool false, .slice none 0 0, .int .u64 0, .int .u64 0, .int .u64 0, .int .i64 0, .bool false, .int .i64 0]) (by kernel_rfl) (run_loadVar_ca0 (HW.ca (i := 0) (b := b976) (C := #[.int .i64 0, .int .i64 0, .string (⟨#[]⟩ : ByteArray), .int .i64 0, .int .i64 0, .string (⟨#[]⟩ : ByteArray), .bool false, .slice none 0 0, .int .u64 0, .int .u64 0, .int .u64 0, .int .i64 0, .bool false, .int .i64 0]) (T := 26) (fr := (0, 0)) (by kernel_rfl)) 26 0 (.agg #[.int .i64 0, .int .i64 0, .string (⟨#[]⟩ : ByteArray), .int .i64 0, .int .i64 0, .string (⟨#[]⟩ : ByteArray), .bool false, .slice none 0 0, .int .u64 0, .int .u64 0, .int .u64 0, .int .i64 0, .bool false, .int .i64 0]) (by kernel_rfl)) (.tmp (v := .int .i64 180) (by kernel_rfl) .nil)) (.tuple #[.agg #[.int .i64 0, .int .i64 0, .string (⟨#[]⟩ : ByteArray), .int .i64 0, .int .i64 0, .string (⟨#[]⟩ : ByteArray), .bool false, .slice none 0 0, .int .u64 0, .int .u64 0, .int .u64 0, .int .i64 0, .bool false, .int .i64 0], .int .i64 180]) rfl ⟨none, 0, rfl, HW.pick [] [0] (by decide) (by decide) rfl (by kernel_rfl)⟩
                          · skip
                            replace h := ite_neg' h hp1096
                            replace ha := ha.bool 84 (by kernel_rfl) (decide_eq_false hp1096)
                            refine stepp ha 85 (.int .i64 a1) (by kernel_rfl) (by kernel_rfl) ?_; clear ha a; intro a ha
                            refine stepp ha 86 (.bool (a1 != 0)) (by kernel_rfl) (by kernel_rfl) ?_; clear ha a; intro a ha
                            refine stepp ha 87 (.bool (a1 != 0)) (by kernel_rfl) (by kernel_rfl) ?_; clear ha a; intro a ha
                            by_cases hp1097 : a1 = 0
                            · skip
                              replace h := ite_pos' h hp1097
                              replace ha := ha.bool 87 (by kernel_rfl) (ineq_f hp1097)
                              refine stepo ha 88 (by kernel_rfl) ?_; clear ha a; intro a ha
                              refine stepo ha 89 (by kernel_rfl) ?_; clear ha a; intro a ha
                              refine stepo ha 90 (by kernel_rfl) ?_; clear ha a; intro a ha
                              refine stepo ha 91 (by kernel_rfl) ?_; clear ha a; intro a ha
                              refine stepo ha 92 (by kernel_rfl) ?_; clear ha a; intro a ha
                              refine stepo ha 93 (by kernel_rfl) ?_; clear ha a; intro a ha
                              refine stepo ha 94 (by kernel_rfl) ?_; clear ha a; intro a ha
                              refine stepo ha 95 (by kernel_rfl) ?_; clear ha a; intro a ha
                              refine stepo ha 96 (by kernel_rfl) ?_; clear ha a; intro a ha
                              refine stepo ha 97 (by kernel_rfl) ?_; clear ha a; intro a ha
                              refine stepp ha 98 (.bool false) (by kernel_rfl) (by kernel_rfl) ?_; clear ha a; intro a ha
                              refine stepp ha 99 (.bool false) (by kernel_rfl) (by kernel_rfl) ?_; clear ha a; intro a ha
                              refine endl ?_
                              refine thenN (hK1090 _ _ ?_); clear hK1090
                              refine condF ha (by kernel_rfl) (by kernel_rfl) (t := false) (rfl) ?_
                              refine wp_skip ?_
                              exact thenN ⟨h, ha.sub (subs_cons (by kernel_rfl) (subs_cons (by kernel_rfl) (subs_cons (by kernel_rfl) (subs_cons (by kernel_rfl) (subs_cons (by kernel_rfl) (subs_cons (by kernel_rfl) (subs_nil _))))))), HW.pick [0] [] (by decide) (by decide) (by kernel_rfl) (by kernel_rfl)⟩
                            · skip
                              replace h := ite_neg' h hp1097
                              replace ha := ha.bool 87 (by kernel_rfl) (ineq_t hp1097)
                              refine stepp ha 88 (.int .i64 a0) (by kernel_rfl) (by kernel_rfl) ?_; clear ha a; intro a ha
                              refine stepp ha 89 (.bool (a0 == 0)) (by kernel_rfl) (by kernel_rfl) ?_; clear ha a; intro a ha
                              refine stepp ha 90 (.bool (a0 == 0)) (by kernel_rfl) (by kernel_rfl) ?_; clear ha a; intro a ha
                              replace ha := ha.bool 90 (by kernel_rfl) (ieq_t hp1092)
                              refine stepo ha 91 (by kernel_rfl) ?_; clear ha a; intro a ha
                              refine stepo ha 92 (by kernel_rfl) ?_; clear ha a; intro a ha
                              refine stepp ha 93 (.bool true) (by kernel_rfl) (by kernel_rfl) ?_; clear ha a; intro a ha
                              refine stepp ha 94 (.bool true) (by kernel_rfl) (by kernel_rfl) ?_; clear ha a; intro a ha
                              refine stepo ha 95 (by kernel_rfl) ?_; clear ha a; intro a ha
                              refine stepo ha 96 (by kernel_rfl) ?_; clear ha a; intro a ha
                              refine stepp ha 97 (.bool true) (by kernel_rfl) (by kernel_rfl) ?_; clear ha a; intro a ha
                              refine stepp ha 98 (.bool true) (by kernel_rfl) (by kernel_rfl) ?_; clear ha a; intro a ha
                              refine stepp ha 99 (.bool true) (by kernel_rfl) (by kernel_rfl) ?_; clear ha a; intro a ha
                              refine endl ?_
                              refine thenN (hK1090 _ _ ?_); clear hK1090
                              refine condT ha (by kernel_rfl) (by kernel_rfl) (t := true) (rfl) ?_
                              refine wp_seq_k (fun K1129 hK1130 => ?_)
                              refine wp_region_lit ?_
                              refine stepp ha 100 (.agg #[.int .i64 0, .int .i64 0, .string (⟨#[]⟩ : ByteArray), .int .i64 0, .int .i64 0, .string (⟨#[]⟩ : ByteArray), .bool false, .slice none 0 0, .int .u64 0, .int .u64 0, .int .u64 0, .int .i64 0, .bool false, .int .i64 0]) (by kernel_rfl) (by kernel_rfl) ?_; clear ha a; intro a ha
                              refine stepst ha HW 0 (b := b976) (C := #[.int .i64 0, .int .i64 0, .string (⟨#[]⟩ : ByteArray), .int .i64 0, .int .i64 0, .string (⟨#[]⟩ : ByteArray), .bool false, .slice none 0 0, .int .u64 0, .int .u64 0, .int .u64 0, .int .i64 0, .bool false, .int .i64 0]) (T := 26) (by kernel_rfl) 26 0 (.tmp 6) (.tmp 100) (.agg #[.int .i64 0, .int .i64 0, .string (⟨#[]⟩ : ByteArray), .int .i64 0, .int .i64 0, .string (⟨#[]⟩ : ByteArray), .bool false, .slice none 0 0, .int .u64 0, .int .u64 0, .int .u64 0, .int .i64 0, .bool false, .int .i64 0]) #[.int .i64 0, .int .i64 0, .string (⟨#[]⟩ : ByteArray), .int .i64 0, .int .i64 0, .string (⟨#[]⟩ : ByteArray), .bool false, .slice none 0 0, .int .u64 0, .int .u64 0, .int .u64 0, .int .i64 0, .bool false, .int .i64 0] rfl (by kernel_rfl) (by kernel_rfl) (by kernel_rfl) (by kernel_rfl) (by kernel_rfl) (by kernel_rfl) (by kernel_rfl) ?_; clear ha HW a; intro a W1131 HW ha
                              refine stepp ha 7 (.int .i64 180) (by kernel_rfl) (by kernel_rfl) ?_; clear ha a; intro a ha
                              refine endl ?_
                              refine thenN (hK1130 _ _ ?_); clear hK1130
                              refine wp_ret ?_
                              refine thenR ?_
                              obtain rfl := Option.some.inj h
                              replace HW := HW.nilo 61 2
                              exact finv ha _ _ rfl (.cell (ad := ⟨b976, 0, none⟩) (v := .agg #[.int .i64 0, .int .i64 0, .string (⟨#[]⟩ : ByteArray), .int .i64 0, .int .i64 0, .string (⟨#[]⟩ : ByteArray), .bool false, .slice none 0 0, .int .u64 0, .int .u64 0, .int .u64 0, .int .i64 0, .bool false, .int .i64 0]) (by kernel_rfl) (run_loadVar_ca0 (HW.ca (i := 0) (b := b976) (C := #[.int .i64 0, .int .i64 0, .string (⟨#[]⟩ : ByteArray), .int .i64 0, .int .i64 0, .string (⟨#[]⟩ : ByteArray), .bool false, .slice none 0 0, .int .u64 0, .int .u64 0, .int .u64 0, .int .i64 0, .bool false, .int .i64 0]) (T := 26) (fr := (0, 0)) (by kernel_rfl)) 26 0 (.agg #[.int .i64 0, .int .i64 0, .string (⟨#[]⟩ : ByteArray), .int .i64 0, .int .i64 0, .string (⟨#[]⟩ : ByteArray), .bool false, .slice none 0 0, .int .u64 0, .int .u64 0, .int .u64 0, .int .i64 0, .bool false, .int .i64 0]) (by kernel_rfl)) (.tmp (v := .int .i64 180) (by kernel_rfl) .nil)) (.tuple #[.agg #[.int .i64 0, .int .i64 0, .string (⟨#[]⟩ : ByteArray), .int .i64 0, .int .i64 0, .string (⟨#[]⟩ : ByteArray), .bool false, .slice none 0 0, .int .u64 0, .int .u64 0, .int .u64 0, .int .i64 0, .bool false, .int .i64 0], .int .i64 180]) rfl ⟨none, 0, rfl, HW.pick [] [0] (by decide) (by decide) rfl (by kernel_rfl)⟩
                        · skip
                          replace h := ite_neg' h hp1095
                          replace ha := ha.bool 79 (by kernel_rfl) (decide_eq_false hp1095)
                          refine stepo ha 80 (by kernel_rfl) ?_; clear ha a; intro a ha
                          refine stepo ha 81 (by kernel_rfl) ?_; clear ha a; intro a ha
                          refine stepp ha 82 (.bool false) (by kernel_rfl) (by kernel_rfl) ?_; clear ha a; intro a ha
                          refine stepp ha 83 (.bool false) (by kernel_rfl) (by kernel_rfl) ?_; clear ha a; intro a ha
                          refine stepp ha 84 (.bool false) (by kernel_rfl) (by kernel_rfl) ?_; clear ha a; intro a ha
                          refine stepp ha 85 (.int .i64 a1) (by kernel_rfl) (by kernel_rfl) ?_; clear ha a; intro a ha
                          refine stepp ha 86 (.bool (a1 != 0)) (by kernel_rfl) (by kernel_rfl) ?_; clear ha a; intro a ha
                          refine stepp ha 87 (.bool (a1 != 0)) (by kernel_rfl) (by kernel_rfl) ?_; clear ha a; intro a ha
                          by_cases hp1098 : a1 = 0
                          · skip
                            replace h := ite_pos' h hp1098
                            replace ha := ha.bool 87 (by kernel_rfl) (ineq_f hp1098)
                            refine stepo ha 88 (by kernel_rfl) ?_; clear ha a; intro a ha
                            refine stepo ha 89 (by kernel_rfl) ?_; clear ha a; intro a ha
                            refine stepo ha 90 (by kernel_rfl) ?_; clear ha a; intro a ha
                            refine stepo ha 91 (by kernel_rfl) ?_; clear ha a; intro a ha
                            refine stepo ha 92 (by kernel_rfl) ?_; clear ha a; intro a ha
                            refine stepo ha 93 (by kernel_rfl) ?_; clear ha a; intro a ha
                            refine stepo ha 94 (by kernel_rfl) ?_; clear ha a; intro a ha
                            refine stepo ha 95 (by kernel_rfl) ?_; clear ha a; intro a ha
                            refine stepo ha 96 (by kernel_rfl) ?_; clear ha a; intro a ha
                            refine stepo ha 97 (by kernel_rfl) ?_; clear ha a; intro a ha
                            refine stepp ha 98 (.bool false) (by kernel_rfl) (by kernel_rfl) ?_; clear ha a; intro a ha
                            refine stepp ha 99 (.bool false) (by kernel_rfl) (by kernel_rfl) ?_; clear ha a; intro a ha
                            refine endl ?_
                            refine thenN (hK1090 _ _ ?_); clear hK1090
                            refine condF ha (by kernel_rfl) (by kernel_rfl) (t := false) (rfl) ?_
                            refine wp_skip ?_
                            exact thenN ⟨h, ha.sub (subs_cons (by kernel_rfl) (subs_cons (by kernel_rfl) (subs_cons (by kernel_rfl) (subs_cons (by kernel_rfl) (subs_cons (by kernel_rfl) (subs_cons (by kernel_rfl) (subs_nil _))))))), HW.pick [0] [] (by decide) (by decide) (by kernel_rfl) (by kernel_rfl)⟩
                          · skip
                            replace h := ite_neg' h hp1098
                            replace ha := ha.bool 87 (by kernel_rfl) (ineq_t hp1098)
                            refine stepp ha 88 (.int .i64 a0) (by kernel_rfl) (by kernel_rfl) ?_; clear ha a; intro a ha
                            refine stepp ha 89 (.bool (a0 == 0)) (by kernel_rfl) (by kernel_rfl) ?_; clear ha a; intro a ha
                            refine stepp ha 90 (.bool (a0 == 0)) (by kernel_rfl) (by kernel_rfl) ?_; clear ha a; intro a ha
                            replace ha := ha.bool 90 (by kernel_rfl) (ieq_t hp1092)
                            refine stepo ha 91 (by kernel_rfl) ?_; clear ha a; intro a ha
                            refine stepo ha 92 (by kernel_rfl) ?_; clear ha a; intro a ha
                            refine stepp ha 93 (.bool true) (by kernel_rfl) (by kernel_rfl) ?_; clear ha a; intro a ha
                            refine stepp ha 94 (.bool true) (by kernel_rfl) (by kernel_rfl) ?_; clear ha a; intro a ha
                            refine stepo ha 95 (by kernel_rfl) ?_; clear ha a; intro a ha
                            refine stepo ha 96 (by kernel_rfl) ?_; clear ha a; intro a ha
                            refine stepp ha 97 (.bool true) (by kernel_rfl) (by kernel_rfl) ?_; clear ha a; intro a ha
                            refine stepp ha 98 (.bool true) (by kernel_rfl) (by kernel_rfl) ?_; clear ha a; intro a ha
                            refine stepp ha 99 (.bool true) (by kernel_rfl) (by kernel_rfl) ?_; clear ha a; intro a ha
                            refine endl ?_
                            refine thenN (hK1090 _ _ ?_); clear hK1090
                            refine condT ha (by kernel_rfl) (by kernel_rfl) (t := true) (rfl) ?_
                            refine wp_seq_k (fun K1133 hK1134 => ?_)
                            refine wp_region_lit ?_
                            refine stepp ha 100 (.agg #[.int .i64 0, .int .i64 0, .string (⟨#[]⟩ : ByteArray), .int .i64 0, .int .i64 0, .string (⟨#[]⟩ : ByteArray), .bool false, .slice none 0 0, .int .u64 0, .int .u64 0, .int .u64 0, .int .i64 0, .bool false, .int .i64 0]) (by kernel_rfl) (by kernel_rfl) ?_; clear ha a; intro a ha
                            refine stepst ha HW 0 (b := b976) (C := #[.int .i64 0, .int .i64 0, .string (⟨#[]⟩ : ByteArray), .int .i64 0, .int .i64 0, .string (⟨#[]⟩ : ByteArray), .bool false, .slice none 0 0, .int .u64 0, .int .u64 0, .int .u64 0, .int .i64 0, .bool false, .int .i64 0]) (T := 26) (by kernel_rfl) 26 0 (.tmp 6) (.tmp 100) (.agg #[.int .i64 0, .int .i64 0, .string (⟨#[]⟩ : ByteArray), .int .i64 0, .int .i64 0, .string (⟨#[]⟩ : ByteArray), .bool false, .slice none 0 0, .int .u64 0, .int .u64 0, .int .u64 0, .int .i64 0, .bool false, .int .i64 0]) #[.int .i64 0, .int .i64 0, .string (⟨#[]⟩ : ByteArray), .int .i64 0, .int .i64 0, .string (⟨#[]⟩ : ByteArray), .bool false, .slice none 0 0, .int .u64 0, .int .u64 0, .int .u64 0, .int .i64 0, .bool false, .int .i64 0] rfl (by kernel_rfl) (by kernel_rfl) (by kernel_rfl) (by kernel_rfl) (by kernel_rfl) (by kernel_rfl) (by kernel_rfl) ?_; clear ha HW a; intro a W1135 HW ha
                            refine stepp ha 7 (.int .i64 180) (by kernel_rfl) (by kernel_rfl) ?_; clear ha a; intro a ha
                            refine endl ?_
                            refine thenN (hK1134 _ _ ?_); clear hK1134
                            refine wp_ret ?_
                            refine thenR ?_
                            obtain rfl := Option.some.inj h
                            replace HW := HW.nilo 61 2
                            exact finv ha _ _ rfl (.cell (ad := ⟨b976, 0, none⟩) (v := .agg #[.int .i64 0, .int .i64 0, .string (⟨#[]⟩ : ByteArray), .int .i64 0, .int .i64 0, .string (⟨#[]⟩ : ByteArray), .bool false, .slice none 0 0, .int .u64 0, .int .u64 0, .int .u64 0, .int .i64 0, .bool false, .int .i64 0]) (by kernel_rfl) (run_loadVar_ca0 (HW.ca (i := 0) (b := b976) (C := #[.int .i64 0, .int .i64 0, .string (⟨#[]⟩ : ByteArray), .int .i64 0, .int .i64 0, .string (⟨#[]⟩ : ByteArray), .bool false, .slice none 0 0, .int .u64 0, .int .u64 0, .int .u64 0, .int .i64 0, .bool false, .int .i64 0]) (T := 26) (fr := (0, 0)) (by kernel_rfl)) 26 0 (.agg #[.int .i64 0, .int .i64 0, .string (⟨#[]⟩ : ByteArray), .int .i64 0, .int .i64 0, .string (⟨#[]⟩ : ByteArray), .bool false, .slice none 0 0, .int .u64 0, .int .u64 0, .int .u64 0, .int .i64 0, .bool false, .int .i64 0]) (by kernel_rfl)) (.tmp (v := .int .i64 180) (by kernel_rfl) .nil)) (.tuple #[.agg #[.int .i64 0, .int .i64 0, .string (⟨#[]⟩ : ByteArray), .int .i64 0, .int .i64 0, .string (⟨#[]⟩ : ByteArray), .bool false, .slice none 0 0, .int .u64 0, .int .u64 0, .int .u64 0, .int .i64 0, .bool false, .int .i64 0], .int .i64 180]) rfl ⟨none, 0, rfl, HW.pick [] [0] (by decide) (by decide) rfl (by kernel_rfl)⟩
                    · skip
                      replace h := ite_neg' h hp1092
                      replace ha := ha.bool 68 (by kernel_rfl) (ineq_t hp1092)
                      refine stepp ha 69 (.int .i64 a0) (by kernel_rfl) (by kernel_rfl) ?_; clear ha a; intro a ha
                      refine stepp ha 70 (.bool (a0 != 6)) (by kernel_rfl) (by kernel_rfl) ?_; clear ha a; intro a ha
                      refine stepp ha 71 (.bool (a0 != 6)) (by kernel_rfl) (by kernel_rfl) ?_; clear ha a; intro a ha
                      refine stepp ha 72 (.bool (a0 != 6)) (by kernel_rfl) (by kernel_rfl) ?_; clear ha a; intro a ha
                      by_cases hp1099 : a0 = 6
                      · skip
                        replace h := ite_pos' h hp1099
                        replace ha := ha.bool 72 (by kernel_rfl) (ineq_f hp1099)
                        refine stepp ha 73 (.int .u64 t1010.1) (by kernel_rfl) (by kernel_rfl) ?_; clear ha a; intro a ha
                        refine stepp ha 74 (.bool (t1010.1 != 0)) (by kernel_rfl) (by kernel_rfl) ?_; clear ha a; intro a ha
                        refine stepp ha 75 (.bool (t1010.1 != 0)) (by kernel_rfl) (by kernel_rfl) ?_; clear ha a; intro a ha
                        by_cases hp1100 : t1010.1 = 0
                        · skip
                          replace h := ite_pos' h hp1100
                          replace ha := ha.bool 75 (by kernel_rfl) (ineq_f hp1100)
                          refine stepo ha 76 (by kernel_rfl) ?_; clear ha a; intro a ha
                          refine stepo ha 77 (by kernel_rfl) ?_; clear ha a; intro a ha
                          refine stepp ha 78 (.bool false) (by kernel_rfl) (by kernel_rfl) ?_; clear ha a; intro a ha
                          refine stepp ha 79 (.bool false) (by kernel_rfl) (by kernel_rfl) ?_; clear ha a; intro a ha
                          refine stepo ha 80 (by kernel_rfl) ?_; clear ha a; intro a ha
                          refine stepo ha 81 (by kernel_rfl) ?_; clear ha a; intro a ha
                          refine stepp ha 82 (.bool false) (by kernel_rfl) (by kernel_rfl) ?_; clear ha a; intro a ha
                          refine stepp ha 83 (.bool false) (by kernel_rfl) (by kernel_rfl) ?_; clear ha a; intro a ha
                          refine stepp ha 84 (.bool false) (by kernel_rfl) (by kernel_rfl) ?_; clear ha a; intro a ha
                          refine stepp ha 85 (.int .i64 a1) (by kernel_rfl) (by kernel_rfl) ?_; clear ha a; intro a ha
                          refine stepp ha 86 (.bool (a1 != 0)) (by kernel_rfl) (by kernel_rfl) ?_; clear ha a; intro a ha
                          refine stepp ha 87 (.bool (a1 != 0)) (by kernel_rfl) (by kernel_rfl) ?_; clear ha a; intro a ha
                          by_cases hp1101 : a1 = 0
                          · skip
                            replace h := ite_pos' h hp1101
                            replace ha := ha.bool 87 (by kernel_rfl) (ineq_f hp1101)
                            refine stepo ha 88 (by kernel_rfl) ?_; clear ha a; intro a ha
                            refine stepo ha 89 (by kernel_rfl) ?_; clear ha a; intro a ha
                            refine stepo ha 90 (by kernel_rfl) ?_; clear ha a; intro a ha
                            refine stepo ha 91 (by kernel_rfl) ?_; clear ha a; intro a ha
                            refine stepo ha 92 (by kernel_rfl) ?_; clear ha a; intro a ha
                            refine stepo ha 93 (by kernel_rfl) ?_; clear ha a; intro a ha
                            refine stepo ha 94 (by kernel_rfl) ?_; clear ha a; intro a ha
                            refine stepo ha 95 (by kernel_rfl) ?_; clear ha a; intro a ha
                            refine stepo ha 96 (by kernel_rfl) ?_; clear ha a; intro a ha
                            refine stepo ha 97 (by kernel_rfl) ?_; clear ha a; intro a ha
                            refine stepp ha 98 (.bool false) (by kernel_rfl) (by kernel_rfl) ?_; clear ha a; intro a ha
                            refine stepp ha 99 (.bool false) (by kernel_rfl) (by kernel_rfl) ?_; clear ha a; intro a ha
                            refine endl ?_
                            refine thenN (hK1090 _ _ ?_); clear hK1090
                            refine condF ha (by kernel_rfl) (by kernel_rfl) (t := false) (rfl) ?_
                            refine wp_skip ?_
                            exact thenN ⟨h, ha.sub (subs_cons (by kernel_rfl) (subs_cons (by kernel_rfl) (subs_cons (by kernel_rfl) (subs_cons (by kernel_rfl) (subs_cons (by kernel_rfl) (subs_cons (by kernel_rfl) (subs_nil _))))))), HW.pick [0] [] (by decide) (by decide) (by kernel_rfl) (by kernel_rfl)⟩
                          · skip
                            replace h := ite_neg' h hp1101
                            replace ha := ha.bool 87 (by kernel_rfl) (ineq_t hp1101)
                            refine stepp ha 88 (.int .i64 a0) (by kernel_rfl) (by kernel_rfl) ?_; clear ha a; intro a ha
                            refine stepp ha 89 (.bool (a0 == 0)) (by kernel_rfl) (by kernel_rfl) ?_; clear ha a; intro a ha
                            refine stepp ha 90 (.bool (a0 == 0)) (by kernel_rfl) (by kernel_rfl) ?_; clear ha a; intro a ha
                            replace ha := ha.bool 90 (by kernel_rfl) (ieq_f hp1092)
                            refine stepp ha 91 (.int .i64 a0) (by kernel_rfl) (by kernel_rfl) ?_; clear ha a; intro a ha
                            refine stepp ha 92 (.bool (a0 == 3)) (by kernel_rfl) (by kernel_rfl) ?_; clear ha a; intro a ha
                            refine stepp ha 93 (.bool (a0 == 3)) (by kernel_rfl) (by kernel_rfl) ?_; clear ha a; intro a ha
                            refine stepp ha 94 (.bool (a0 == 3)) (by kernel_rfl) (by kernel_rfl) ?_; clear ha a; intro a ha
                            by_cases hp1102 : a0 = 3
                            · skip
                              replace h := ite_pos' h hp1102
                              replace ha := ha.bool 94 (by kernel_rfl) (ieq_t hp1102)
                              refine stepo ha 95 (by kernel_rfl) ?_; clear ha a; intro a ha
                              refine stepo ha 96 (by kernel_rfl) ?_; clear ha a; intro a ha
                              refine stepp ha 97 (.bool true) (by kernel_rfl) (by kernel_rfl) ?_; clear ha a; intro a ha
                              refine stepp ha 98 (.bool true) (by kernel_rfl) (by kernel_rfl) ?_; clear ha a; intro a ha
                              refine stepp ha 99 (.bool true) (by kernel_rfl) (by kernel_rfl) ?_; clear ha a; intro a ha
                              refine endl ?_
                              refine thenN (hK1090 _ _ ?_); clear hK1090
                              refine condT ha (by kernel_rfl) (by kernel_rfl) (t := true) (rfl) ?_
                              refine wp_seq_k (fun K1137 hK1138 => ?_)
                              refine wp_region_lit ?_
                              refine stepp ha 100 (.agg #[.int .i64 0, .int .i64 0, .string (⟨#[]⟩ : ByteArray), .int .i64 0, .int .i64 0, .string (⟨#[]⟩ : ByteArray), .bool false, .slice none 0 0, .int .u64 0, .int .u64 0, .int .u64 0, .int .i64 0, .bool false, .int .i64 0]) (by kernel_rfl) (by kernel_rfl) ?_; clear ha a; intro a ha
                              refine stepst ha HW 0 (b := b976) (C := #[.int .i64 0, .int .i64 0, .string (⟨#[]⟩ : ByteArray), .int .i64 0, .int .i64 0, .string (⟨#[]⟩ : ByteArray), .bool false, .slice none 0 0, .int .u64 0, .int .u64 0, .int .u64 0, .int .i64 0, .bool false, .int .i64 0]) (T := 26) (by kernel_rfl) 26 0 (.tmp 6) (.tmp 100) (.agg #[.int .i64 0, .int .i64 0, .string (⟨#[]⟩ : ByteArray), .int .i64 0, .int .i64 0, .string (⟨#[]⟩ : ByteArray), .bool false, .slice none 0 0, .int .u64 0, .int .u64 0, .int .u64 0, .int .i64 0, .bool false, .int .i64 0]) #[.int .i64 0, .int .i64 0, .string (⟨#[]⟩ : ByteArray), .int .i64 0, .int .i64 0, .string (⟨#[]⟩ : ByteArray), .bool false, .slice none 0 0, .int .u64 0, .int .u64 0, .int .u64 0, .int .i64 0, .bool false, .int .i64 0] rfl (by kernel_rfl) (by kernel_rfl) (by kernel_rfl) (by kernel_rfl) (by kernel_rfl) (by kernel_rfl) (by kernel_rfl) ?_; clear ha HW a; intro a W1139 HW ha
                              refine stepp ha 7 (.int .i64 180) (by kernel_rfl) (by kernel_rfl) ?_; clear ha a; intro a ha
                              refine endl ?_
                              refine thenN (hK1138 _ _ ?_); clear hK1138
                              refine wp_ret ?_
                              refine thenR ?_
                              obtain rfl := Option.some.inj h
                              replace HW := HW.nilo 61 2
                              exact finv ha _ _ rfl (.cell (ad := ⟨b976, 0, none⟩) (v := .agg #[.int .i64 0, .int .i64 0, .string (⟨#[]⟩ : ByteArray), .int .i64 0, .int .i64 0, .string (⟨#[]⟩ : ByteArray), .bool false, .slice none 0 0, .int .u64 0, .int .u64 0, .int .u64 0, .int .i64 0, .bool false, .int .i64 0]) (by kernel_rfl) (run_loadVar_ca0 (HW.ca (i := 0) (b := b976) (C := #[.int .i64 0, .int .i64 0, .string (⟨#[]⟩ : ByteArray), .int .i64 0, .int .i64 0, .string (⟨#[]⟩ : ByteArray), .bool false, .slice none 0 0, .int .u64 0, .int .u64 0, .int .u64 0, .int .i64 0, .bool false, .int .i64 0]) (T := 26) (fr := (0, 0)) (by kernel_rfl)) 26 0 (.agg #[.int .i64 0, .int .i64 0, .string (⟨#[]⟩ : ByteArray), .int .i64 0, .int .i64 0, .string (⟨#[]⟩ : ByteArray), .bool false, .slice none 0 0, .int .u64 0, .int .u64 0, .int .u64 0, .int .i64 0, .bool false, .int .i64 0]) (by kernel_rfl)) (.tmp (v := .int .i64 180) (by kernel_rfl) .nil)) (.tuple #[.agg #[.int .i64 0, .int .i64 0, .string (⟨#[]⟩ : ByteArray), .int .i64 0, .int .i64 0, .string (⟨#[]⟩ : ByteArray), .bool false, .slice none 0 0, .int .u64 0, .int .u64 0, .int .u64 0, .int .i64 0, .bool false, .int .i64 0], .int .i64 180]) rfl ⟨none, 0, rfl, HW.pick [] [0] (by decide) (by decide) rfl (by kernel_rfl)⟩
                            · skip
                              replace h := ite_neg' h hp1102
                              replace ha := ha.bool 94 (by kernel_rfl) (ieq_f hp1102)
                              refine stepp ha 95 (.int .i64 a0) (by kernel_rfl) (by kernel_rfl) ?_; clear ha a; intro a ha
                              refine stepp ha 96 (.bool (a0 == 6)) (by kernel_rfl) (by kernel_rfl) ?_; clear ha a; intro a ha
                              refine stepp ha 97 (.bool (a0 == 6)) (by kernel_rfl) (by kernel_rfl) ?_; clear ha a; intro a ha
                              refine stepp ha 98 (.bool (a0 == 6)) (by kernel_rfl) (by kernel_rfl) ?_; clear ha a; intro a ha
                              refine stepp ha 99 (.bool (a0 == 6)) (by kernel_rfl) (by kernel_rfl) ?_; clear ha a; intro a ha
                              refine endl ?_
                              refine thenN (hK1090 _ _ ?_); clear hK1090
                              refine condT ha (by kernel_rfl) (by kernel_rfl) (t := (a0 == 6)) (ieq_t hp1099) ?_
                              refine wp_seq_k (fun K1141 hK1142 => ?_)
                              refine wp_region_lit ?_
                              refine stepp ha 100 (.agg #[.int .i64 0, .int .i64 0, .string (⟨#[]⟩ : ByteArray), .int .i64 0, .int .i64 0, .string (⟨#[]⟩ : ByteArray), .bool false, .slice none 0 0, .int .u64 0, .int .u64 0, .int .u64 0, .int .i64 0, .bool false, .int .i64 0]) (by kernel_rfl) (by kernel_rfl) ?_; clear ha a; intro a ha
                              refine stepst ha HW 0 (b := b976) (C := #[.int .i64 0, .int .i64 0, .string (⟨#[]⟩ : ByteArray), .int .i64 0, .int .i64 0, .string (⟨#[]⟩ : ByteArray), .bool false, .slice none 0 0, .int .u64 0, .int .u64 0, .int .u64 0, .int .i64 0, .bool false, .int .i64 0]) (T := 26) (by kernel_rfl) 26 0 (.tmp 6) (.tmp 100) (.agg #[.int .i64 0, .int .i64 0, .string (⟨#[]⟩ : ByteArray), .int .i64 0, .int .i64 0, .string (⟨#[]⟩ : ByteArray), .bool false, .slice none 0 0, .int .u64 0, .int .u64 0, .int .u64 0, .int .i64 0, .bool false, .int .i64 0]) #[.int .i64 0, .int .i64 0, .string (⟨#[]⟩ : ByteArray), .int .i64 0, .int .i64 0, .string (⟨#[]⟩ : ByteArray), .bool false, .slice none 0 0, .int .u64 0, .int .u64 0, .int .u64 0, .int .i64 0, .bool false, .int .i64 0] rfl (by kernel_rfl) (by kernel_rfl) (by kernel_rfl) (by kernel_rfl) (by kernel_rfl) (by kernel_rfl) (by kernel_rfl) ?_; clear ha HW a; intro a W1143 HW ha
                              refine stepp ha 7 (.int .i64 180) (by kernel_rfl) (by kernel_rfl) ?_; clear ha a; intro a ha
                              refine endl ?_
                              refine thenN (hK1142 _ _ ?_); clear hK1142
                              refine wp_ret ?_
                              refine thenR ?_
                              obtain rfl := Option.some.inj h
                              replace HW := HW.nilo 61 2
                              exact finv ha _ _ rfl (.cell (ad := ⟨b976, 0, none⟩) (v := .agg #[.int .i64 0, .int .i64 0, .string (⟨#[]⟩ : ByteArray), .int .i64 0, .int .i64 0, .string (⟨#[]⟩ : ByteArray), .bool false, .slice none 0 0, .int .u64 0, .int .u64 0, .int .u64 0, .int .i64 0, .bool false, .int .i64 0]) (by kernel_rfl) (run_loadVar_ca0 (HW.ca (i := 0) (b := b976) (C := #[.int .i64 0, .int .i64 0, .string (⟨#[]⟩ : ByteArray), .int .i64 0, .int .i64 0, .string (⟨#[]⟩ : ByteArray), .bool false, .slice none 0 0, .int .u64 0, .int .u64 0, .int .u64 0, .int .i64 0, .bool false, .int .i64 0]) (T := 26) (fr := (0, 0)) (by kernel_rfl)) 26 0 (.agg #[.int .i64 0, .int .i64 0, .string (⟨#[]⟩ : ByteArray), .int .i64 0, .int .i64 0, .string (⟨#[]⟩ : ByteArray), .bool false, .slice none 0 0, .int .u64 0, .int .u64 0, .int .u64 0, .int .i64 0, .bool false, .int .i64 0]) (by kernel_rfl)) (.tmp (v := .int .i64 180) (by kernel_rfl) .nil)) (.tuple #[.agg #[.int .i64 0, .int .i64 0, .string (⟨#[]⟩ : ByteArray), .int .i64 0, .int .i64 0, .string (⟨#[]⟩ : ByteArray), .bool false, .slice none 0 0, .int .u64 0, .int .u64 0, .int .u64 0, .int .i64 0, .bool false, .int .i64 0], .int .i64 180]) rfl ⟨none, 0, rfl, HW.pick [] [0] (by decide) (by decide) rfl (by kernel_rfl)⟩
                        · skip
                          replace h := ite_neg' h hp1100
                          replace ha := ha.bool 75 (by kernel_rfl) (ineq_t hp1100)
                          refine stepp ha 76 (.int .i64 a0) (by kernel_rfl) (by kernel_rfl) ?_; clear ha a; intro a ha
                          refine stepp ha 77 (.bool (decide (a0 ≥ 1))) (by kernel_rfl) (by kernel_rfl) ?_; clear ha a; intro a ha
                          refine stepp ha 78 (.bool (decide (a0 ≥ 1))) (by kernel_rfl) (by kernel_rfl) ?_; clear ha a; intro a ha
                          refine stepp ha 79 (.bool (decide (a0 ≥ 1))) (by kernel_rfl) (by kernel_rfl) ?_; clear ha a; intro a ha
                          by_cases hp1103 : a0 ≥ 1
                          · skip
                            replace h := ite_pos' h hp1103
                            replace ha := ha.bool 79 (by kernel_rfl) (decide_eq_true hp1103)
                            refine stepp ha 80 (.int .i64 a0) (by kernel_rfl) (by kernel_rfl) ?_; clear ha a; intro a ha
                            refine stepp ha 81 (.bool (decide (a0 ≤ 3))) (by kernel_rfl) (by kernel_rfl) ?_; clear ha a; intro a ha
                            refine stepp ha 82 (.bool (decide (a0 ≤ 3))) (by kernel_rfl) (by kernel_rfl) ?_; clear ha a; intro a ha
                            refine stepp ha 83 (.bool (decide (a0 ≤ 3))) (by kernel_rfl) (by kernel_rfl) ?_; clear ha a; intro a ha
                            refine stepp ha 84 (.bool (decide (a0 ≤ 3))) (by kernel_rfl) (by kernel_rfl) ?_; clear ha a; intro a ha
                            by_cases hp1104 : a0 ≤ 3
                            · skip
                              replace h := ite_pos' h hp1104
                              replace ha := ha.bool 84 (by kernel_rfl) (decide_eq_true hp1104)
                              refine stepo ha 85 (by kernel_rfl) ?_; clear ha a; intro a ha
                              refine stepo ha 86 (by kernel_rfl) ?_; clear ha a; intro a ha
                              refine stepo ha 87 (by kernel_rfl) ?_; clear ha a; intro a ha
                              refine stepo ha 88 (by kernel_rfl) ?_; clear ha a; intro a ha
                              refine stepo ha 89 (by kernel_rfl) ?_; clear ha a; intro a ha
                              refine stepo ha 90 (by kernel_rfl) ?_; clear ha a; intro a ha
                              refine stepo ha 91 (by kernel_rfl) ?_; clear ha a; intro a ha
                              refine stepo ha 92 (by kernel_rfl) ?_; clear ha a; intro a ha
                              refine stepo ha 93 (by kernel_rfl) ?_; clear ha a; intro a ha
                              refine stepo ha 94 (by kernel_rfl) ?_; clear ha a; intro a ha
                              refine stepo ha 95 (by kernel_rfl) ?_; clear ha a; intro a ha
                              refine stepo ha 96 (by kernel_rfl) ?_; clear ha a; intro a ha
                              refine stepo ha 97 (by kernel_rfl) ?_; clear ha a; intro a ha
                              refine stepo ha 98 (by kernel_rfl) ?_; clear ha a; intro a ha
                              refine stepp ha 99 (.bool true) (by kernel_rfl) (by kernel_rfl) ?_; clear ha a; intro a ha
                              refine endl ?_
                              refine thenN (hK1090 _ _ ?_); clear hK1090
                              refine condT ha (by kernel_rfl) (by kernel_rfl) (t := true) (rfl) ?_
                              refine wp_seq_k (fun K1145 hK1146 => ?_)
                              refine wp_region_lit ?_
                              refine stepp ha 100 (.agg #[.int .i64 0, .int .i64 0, .string (⟨#[]⟩ : ByteArray), .int .i64 0, .int .i64 0, .string (⟨#[]⟩ : ByteArray), .bool false, .slice none 0 0, .int .u64 0, .int .u64 0, .int .u64 0, .int .i64 0, .bool false, .int .i64 0]) (by kernel_rfl) (by kernel_rfl) ?_; clear ha a; intro a ha
                              refine stepst ha HW 0 (b := b976) (C := #[.int .i64 0, .int .i64 0, .string (⟨#[]⟩ : ByteArray), .int .i64 0, .int .i64 0, .string (⟨#[]⟩ : ByteArray), .bool false, .slice none 0 0, .int .u64 0, .int .u64 0, .int .u64 0, .int .i64 0, .bool false, .int .i64 0]) (T := 26) (by kernel_rfl) 26 0 (.tmp 6) (.tmp 100) (.agg #[.int .i64 0, .int .i64 0, .string (⟨#[]⟩ : ByteArray), .int .i64 0, .int .i64 0, .string (⟨#[]⟩ : ByteArray), .bool false, .slice none 0 0, .int .u64 0, .int .u64 0, .int .u64 0, .int .i64 0, .bool false, .int .i64 0]) #[.int .i64 0, .int .i64 0, .string (⟨#[]⟩ : ByteArray), .int .i64 0, .int .i64 0, .string (⟨#[]⟩ : ByteArray), .bool false, .slice none 0 0, .int .u64 0, .int .u64 0, .int .u64 0, .int .i64 0, .bool false, .int .i64 0] rfl (by kernel_rfl) (by kernel_rfl) (by kernel_rfl) (by kernel_rfl) (by kernel_rfl) (by kernel_rfl) (by kernel_rfl) ?_; clear ha HW a; intro a W1147 HW ha
                              refine stepp ha 7 (.int .i64 180) (by kernel_rfl) (by kernel_rfl) ?_; clear ha a; intro a ha
                              refine endl ?_
                              refine thenN (hK1146 _ _ ?_); clear hK1146
                              refine wp_ret ?_
                              refine thenR ?_
                              obtain rfl := Option.some.inj h
                              replace HW := HW.nilo 61 2
                              exact finv ha _ _ rfl (.cell (ad := ⟨b976, 0, none⟩) (v := .agg #[.int .i64 0, .int .i64 0, .string (⟨#[]⟩ : ByteArray), .int .i64 0, .int .i64 0, .string (⟨#[]⟩ : ByteArray), .bool false, .slice none 0 0, .int .u64 0, .int .u64 0, .int .u64 0, .int .i64 0, .bool false, .int .i64 0]) (by kernel_rfl) (run_loadVar_ca0 (HW.ca (i := 0) (b := b976) (C := #[.int .i64 0, .int .i64 0, .string (⟨#[]⟩ : ByteArray), .int .i64 0, .int .i64 0, .string (⟨#[]⟩ : ByteArray), .bool false, .slice none 0 0, .int .u64 0, .int .u64 0, .int .u64 0, .int .i64 0, .bool false, .int .i64 0]) (T := 26) (fr := (0, 0)) (by kernel_rfl)) 26 0 (.agg #[.int .i64 0, .int .i64 0, .string (⟨#[]⟩ : ByteArray), .int .i64 0, .int .i64 0, .string (⟨#[]⟩ : ByteArray), .bool false, .slice none 0 0, .int .u64 0, .int .u64 0, .int .u64 0, .int .i64 0, .bool false, .int .i64 0]) (by kernel_rfl)) (.tmp (v := .int .i64 180) (by kernel_rfl) .nil)) (.tuple #[.agg #[.int .i64 0, .int .i64 0, .string (⟨#[]⟩ : ByteArray), .int .i64 0, .int .i64 0, .string (⟨#[]⟩ : ByteArray), .bool false, .slice none 0 0, .int .u64 0, .int .u64 0, .int .u64 0, .int .i64 0, .bool false, .int .i64 0], .int .i64 180]) rfl ⟨none, 0, rfl, HW.pick [] [0] (by decide) (by decide) rfl (by kernel_rfl)⟩
                            · skip
                              replace h := ite_neg' h hp1104
                              replace ha := ha.bool 84 (by kernel_rfl) (decide_eq_false hp1104)
                              refine stepp ha 85 (.int .i64 a1) (by kernel_rfl) (by kernel_rfl) ?_; clear ha a; intro a ha
                              refine stepp ha 86 (.bool (a1 != 0)) (by kernel_rfl) (by kernel_rfl) ?_; clear ha a; intro a ha
                              refine stepp ha 87 (.bool (a1 != 0)) (by kernel_rfl) (by kernel_rfl) ?_; clear ha a; intro a ha
                              by_cases hp1105 : a1 = 0
                              · skip
                                replace h := ite_pos' h hp1105
                                replace ha := ha.bool 87 (by kernel_rfl) (ineq_f hp1105)
                                refine stepo ha 88 (by kernel_rfl) ?_; clear ha a; intro a ha
                                refine stepo ha 89 (by kernel_rfl) ?_; clear ha a; intro a ha
                                refine stepo ha 90 (by kernel_rfl) ?_; clear ha a; intro a ha
                                refine stepo ha 91 (by kernel_rfl) ?_; clear ha a; intro a ha
                                refine stepo ha 92 (by kernel_rfl) ?_; clear ha a; intro a ha
                                refine stepo ha 93 (by kernel_rfl) ?_; clear ha a; intro a ha
                                refine stepo ha 94 (by kernel_rfl) ?_; clear ha a; intro a ha
                                refine stepo ha 95 (by kernel_rfl) ?_; clear ha a; intro a ha
                                refine stepo ha 96 (by kernel_rfl) ?_; clear ha a; intro a ha
                                refine stepo ha 97 (by kernel_rfl) ?_; clear ha a; intro a ha
                                refine stepp ha 98 (.bool false) (by kernel_rfl) (by kernel_rfl) ?_; clear ha a; intro a ha
                                refine stepp ha 99 (.bool false) (by kernel_rfl) (by kernel_rfl) ?_; clear ha a; intro a ha
                                refine endl ?_
                                refine thenN (hK1090 _ _ ?_); clear hK1090
                                refine condF ha (by kernel_rfl) (by kernel_rfl) (t := false) (rfl) ?_
                                refine wp_skip ?_
                                exact thenN ⟨h, ha.sub (subs_cons (by kernel_rfl) (subs_cons (by kernel_rfl) (subs_cons (by kernel_rfl) (subs_cons (by kernel_rfl) (subs_cons (by kernel_rfl) (subs_cons (by kernel_rfl) (subs_nil _))))))), HW.pick [0] [] (by decide) (by decide) (by kernel_rfl) (by kernel_rfl)⟩
                              · skip
                                replace h := ite_neg' h hp1105
                                replace ha := ha.bool 87 (by kernel_rfl) (ineq_t hp1105)
                                refine stepp ha 88 (.int .i64 a0) (by kernel_rfl) (by kernel_rfl) ?_; clear ha a; intro a ha
                                refine stepp ha 89 (.bool (a0 == 0)) (by kernel_rfl) (by kernel_rfl) ?_; clear ha a; intro a ha
                                refine stepp ha 90 (.bool (a0 == 0)) (by kernel_rfl) (by kernel_rfl) ?_; clear ha a; intro a ha
                                replace ha := ha.bool 90 (by kernel_rfl) (ieq_f hp1092)
                                refine stepp ha 91 (.int .i64 a0) (by kernel_rfl) (by kernel_rfl) ?_; clear ha a; intro a ha
                                refine stepp ha 92 (.bool (a0 == 3)) (by kernel_rfl) (by kernel_rfl) ?_; clear ha a; intro a ha
                                refine stepp ha 93 (.bool (a0 == 3)) (by kernel_rfl) (by kernel_rfl) ?_; clear ha a; intro a ha
                                refine stepp ha 94 (.bool (a0 == 3)) (by kernel_rfl) (by kernel_rfl) ?_; clear ha a; intro a ha
                                by_cases hp1106 : a0 = 3
                                · skip
                                  replace h := ite_pos' h hp1106
                                  replace ha := ha.bool 94 (by kernel_rfl) (ieq_t hp1106)
                                  refine stepo ha 95 (by kernel_rfl) ?_; clear ha a; intro a ha
                                  refine stepo ha 96 (by kernel_rfl) ?_; clear ha a; intro a ha
                                  refine stepp ha 97 (.bool true) (by kernel_rfl) (by kernel_rfl) ?_; clear ha a; intro a ha
                                  refine stepp ha 98 (.bool true) (by kernel_rfl) (by kernel_rfl) ?_; clear ha a; intro a ha
                                  refine stepp ha 99 (.bool true) (by kernel_rfl) (by kernel_rfl) ?_; clear ha a; intro a ha
                                  refine endl ?_
                                  refine thenN (hK1090 _ _ ?_); clear hK1090
                                  refine condT ha (by kernel_rfl) (by kernel_rfl) (t := true) (rfl) ?_
                                  refine wp_seq_k (fun K1149 hK1150 => ?_)
                                  refine wp_region_lit ?_
                                  refine stepp ha 100 (.agg #[.int .i64 0, .int .i64 0, .string (⟨#[]⟩ : ByteArray), .int .i64 0, .int .i64 0, .string (⟨#[]⟩ : ByteArray), .bool false, .slice none 0 0, .int .u64 0, .int .u64 0, .int .u64 0, .int .i64 0, .bool false, .int .i64 0]) (by kernel_rfl) (by kernel_rfl) ?_; clear ha a; intro a ha
                                  refine stepst ha HW 0 (b := b976) (C := #[.int .i64 0, .int .i64 0, .string (⟨#[]⟩ : ByteArray), .int .i64 0, .int .i64 0, .string (⟨#[]⟩ : ByteArray), .bool false, .slice none 0 0, .int .u64 0, .int .u64 0, .int .u64 0, .int .i64 0, .bool false, .int .i64 0]) (T := 26) (by kernel_rfl) 26 0 (.tmp 6) (.tmp 100) (.agg #[.int .i64 0, .int .i64 0, .string (⟨#[]⟩ : ByteArray), .int .i64 0, .int .i64 0, .string (⟨#[]⟩ : ByteArray), .bool false, .slice none 0 0, .int .u64 0, .int .u64 0, .int .u64 0, .int .i64 0, .bool false, .int .i64 0]) #[.int .i64 0, .int .i64 0, .string (⟨#[]⟩ : ByteArray), .int .i64 0, .int .i64 0, .string (⟨#[]⟩ : ByteArray), .bool false, .slice none 0 0, .int .u64 0, .int .u64 0, .int .u64 0, .int .i64 0, .bool false, .int .i64 0] rfl (by kernel_rfl) (by kernel_rfl) (by kernel_rfl) (by kernel_rfl) (by kernel_rfl) (by kernel_rfl) (by kernel_rfl) ?_; clear ha HW a; intro a W1151 HW ha
                                  refine stepp ha 7 (.int .i64 180) (by kernel_rfl) (by kernel_rfl) ?_; clear ha a; intro a ha
                                  refine endl ?_
                                  refine thenN (hK1150 _ _ ?_); clear hK1150
                                  refine wp_ret ?_
                                  refine thenR ?_
                                  obtain rfl := Option.some.inj h
                                  replace HW := HW.nilo 61 2
                                  exact finv ha _ _ rfl (.cell (ad := ⟨b976, 0, none⟩) (v := .agg #[.int .i64 0, .int .i64 0, .string (⟨#[]⟩ : ByteArray), .int .i64 0, .int .i64 0, .string (⟨#[]⟩ : ByteArray), .bool false, .slice none 0 0, .int .u64 0, .int .u64 0, .int .u64 0, .int .i64 0, .bool false, .int .i64 0]) (by kernel_rfl) (run_loadVar_ca0 (HW.ca (i := 0) (b := b976) (C := #[.int .i64 0, .int .i64 0, .string (⟨#[]⟩ : ByteArray), .int .i64 0, .int .i64 0, .string (⟨#[]⟩ : ByteArray), .bool false, .slice none 0 0, .int .u64 0, .int .u64 0, .int .u64 0, .int .i64 0, .bool false, .int .i64 0]) (T := 26) (fr := (0, 0)) (by kernel_rfl)) 26 0 (.agg #[.int .i64 0, .int .i64 0, .string (⟨#[]⟩ : ByteArray), .int .i64 0, .int .i64 0, .string (⟨#[]⟩ : ByteArray), .bool false, .slice none 0 0, .int .u64 0, .int .u64 0, .int .u64 0, .int .i64 0, .bool false, .int .i64 0]) (by kernel_rfl)) (.tmp (v := .int .i64 180) (by kernel_rfl) .nil)) (.tuple #[.agg #[.int .i64 0, .int .i64 0, .string (⟨#[]⟩ : ByteArray), .int .i64 0, .int .i64 0, .string (⟨#[]⟩ : ByteArray), .bool false, .slice none 0 0, .int .u64 0, .int .u64 0, .int .u64 0, .int .i64 0, .bool false, .int .i64 0], .int .i64 180]) rfl ⟨none, 0, rfl, HW.pick [] [0] (by decide) (by decide) rfl (by kernel_rfl)⟩
                                · skip
                                  replace h := ite_neg' h hp1106
                                  replace ha := ha.bool 94 (by kernel_rfl) (ieq_f hp1106)
                                  refine stepp ha 95 (.int .i64 a0) (by kernel_rfl) (by kernel_rfl) ?_; clear ha a; intro a ha
                                  refine stepp ha 96 (.bool (a0 == 6)) (by kernel_rfl) (by kernel_rfl) ?_; clear ha a; intro a ha
                                  refine stepp ha 97 (.bool (a0 == 6)) (by kernel_rfl) (by kernel_rfl) ?_; clear ha a; intro a ha
                                  refine stepp ha 98 (.bool (a0 == 6)) (by kernel_rfl) (by kernel_rfl) ?_; clear ha a; intro a ha
                                  refine stepp ha 99 (.bool (a0 == 6)) (by kernel_rfl) (by kernel_rfl) ?_; clear ha a; intro a ha
                                  refine endl ?_
                                  refine thenN (hK1090 _ _ ?_); clear hK1090
                                  refine condT ha (by kernel_rfl) (by kernel_rfl) (t := (a0 == 6)) (ieq_t hp1099) ?_
                                  refine wp_seq_k (fun K1153 hK1154 => ?_)
                                  refine wp_region_lit ?_
                                  refine stepp ha 100 (.agg #[.int .i64 0, .int .i64 0, .string (⟨#[]⟩ : ByteArray), .int .i64 0, .int .i64 0, .string (⟨#[]⟩ : ByteArray), .bool false, .slice none 0 0, .int .u64 0, .int .u64 0, .int .u64 0, .int .i64 0, .bool false, .int .i64 0]) (by kernel_rfl) (by kernel_rfl) ?_; clear ha a; intro a ha
                                  refine stepst ha HW 0 (b := b976) (C := #[.int .i64 0, .int .i64 0, .string (⟨#[]⟩ : ByteArray), .int .i64 0, .int .i64 0, .string (⟨#[]⟩ : ByteArray), .bool false, .slice none 0 0, .int .u64 0, .int .u64 0, .int .u64 0, .int .i64 0, .bool false, .int .i64 0]) (T := 26) (by kernel_rfl) 26 0 (.tmp 6) (.tmp 100) (.agg #[.int .i64 0, .int .i64 0, .string (⟨#[]⟩ : ByteArray), .int .i64 0, .int .i64 0, .string (⟨#[]⟩ : ByteArray), .bool false, .slice none 0 0, .int .u64 0, .int .u64 0, .int .u64 0, .int .i64 0, .bool false, .int .i64 0]) #[.int .i64 0, .int .i64 0, .string (⟨#[]⟩ : ByteArray), .int .i64 0, .int .i64 0, .string (⟨#[]⟩ : ByteArray), .bool false, .slice none 0 0, .int .u64 0, .int .u64 0, .int .u64 0, .int .i64 0, .bool false, .int .i64 0] rfl (by kernel_rfl) (by kernel_rfl) (by kernel_rfl) (by kernel_rfl) (by kernel_rfl) (by kernel_rfl) (by kernel_rfl) ?_; clear ha HW a; intro a W1155 HW ha
                                  refine stepp ha 7 (.int .i64 180) (by kernel_rfl) (by kernel_rfl) ?_; clear ha a; intro a ha
                                  refine endl ?_
                                  refine thenN (hK1154 _ _ ?_); clear hK1154
                                  refine wp_ret ?_
                                  refine thenR ?_
                                  obtain rfl := Option.some.inj h
                                  replace HW := HW.nilo 61 2
                                  exact finv ha _ _ rfl (.cell (ad := ⟨b976, 0, none⟩) (v := .agg #[.int .i64 0, .int .i64 0, .string (⟨#[]⟩ : ByteArray), .int .i64 0, .int .i64 0, .string (⟨#[]⟩ : ByteArray), .bool false, .slice none 0 0, .int .u64 0, .int .u64 0, .int .u64 0, .int .i64 0, .bool false, .int .i64 0]) (by kernel_rfl) (run_loadVar_ca0 (HW.ca (i := 0) (b := b976) (C := #[.int .i64 0, .int .i64 0, .string (⟨#[]⟩ : ByteArray), .int .i64 0, .int .i64 0, .string (⟨#[]⟩ : ByteArray), .bool false, .slice none 0 0, .int .u64 0, .int .u64 0, .int .u64 0, .int .i64 0, .bool false, .int .i64 0]) (T := 26) (fr := (0, 0)) (by kernel_rfl)) 26 0 (.agg #[.int .i64 0, .int .i64 0, .string (⟨#[]⟩ : ByteArray), .int .i64 0, .int .i64 0, .string (⟨#[]⟩ : ByteArray), .bool false, .slice none 0 0, .int .u64 0, .int .u64 0, .int .u64 0, .int .i64 0, .bool false, .int .i64 0]) (by kernel_rfl)) (.tmp (v := .int .i64 180) (by kernel_rfl) .nil)) (.tuple #[.agg #[.int .i64 0, .int .i64 0, .string (⟨#[]⟩ : ByteArray), .int .i64 0, .int .i64 0, .string (⟨#[]⟩ : ByteArray), .bool false, .slice none 0 0, .int .u64 0, .int .u64 0, .int .u64 0, .int .i64 0, .bool false, .int .i64 0], .int .i64 180]) rfl ⟨none, 0, rfl, HW.pick [] [0] (by decide) (by decide) rfl (by kernel_rfl)⟩
                          · skip
                            replace h := ite_neg' h hp1103
                            replace ha := ha.bool 79 (by kernel_rfl) (decide_eq_false hp1103)
                            refine stepo ha 80 (by kernel_rfl) ?_; clear ha a; intro a ha
                            refine stepo ha 81 (by kernel_rfl) ?_; clear ha a; intro a ha
                            refine stepp ha 82 (.bool false) (by kernel_rfl) (by kernel_rfl) ?_; clear ha a; intro a ha
                            refine stepp ha 83 (.bool false) (by kernel_rfl) (by kernel_rfl) ?_; clear ha a; intro a ha
                            refine stepp ha 84 (.bool false) (by kernel_rfl) (by kernel_rfl) ?_; clear ha a; intro a ha
                            refine stepp ha 85 (.int .i64 a1) (by kernel_rfl) (by kernel_rfl) ?_; clear ha a; intro a ha
                            refine stepp ha 86 (.bool (a1 != 0)) (by kernel_rfl) (by kernel_rfl) ?_; clear ha a; intro a ha
                            refine stepp ha 87 (.bool (a1 != 0)) (by kernel_rfl) (by kernel_rfl) ?_; clear ha a; intro a ha
                            by_cases hp1107 : a1 = 0
                            · skip
                              replace h := ite_pos' h hp1107
                              replace ha := ha.bool 87 (by kernel_rfl) (ineq_f hp1107)
                              refine stepo ha 88 (by kernel_rfl) ?_; clear ha a; intro a ha
                              refine stepo ha 89 (by kernel_rfl) ?_; clear ha a; intro a ha
                              refine stepo ha 90 (by kernel_rfl) ?_; clear ha a; intro a ha
                              refine stepo ha 91 (by kernel_rfl) ?_; clear ha a; intro a ha
                              refine stepo ha 92 (by kernel_rfl) ?_; clear ha a; intro a ha
                              refine stepo ha 93 (by kernel_rfl) ?_; clear ha a; intro a ha
                              refine stepo ha 94 (by kernel_rfl) ?_; clear ha a; intro a ha
                              refine stepo ha 95 (by kernel_rfl) ?_; clear ha a; intro a ha
                              refine stepo ha 96 (by kernel_rfl) ?_; clear ha a; intro a ha
                              refine stepo ha 97 (by kernel_rfl) ?_; clear ha a; intro a ha
                              refine stepp ha 98 (.bool false) (by kernel_rfl) (by kernel_rfl) ?_; clear ha a; intro a ha
                              refine stepp ha 99 (.bool false) (by kernel_rfl) (by kernel_rfl) ?_; clear ha a; intro a ha
                              refine endl ?_
                              refine thenN (hK1090 _ _ ?_); clear hK1090
                              refine condF ha (by kernel_rfl) (by kernel_rfl) (t := false) (rfl) ?_
                              refine wp_skip ?_
                              exact thenN ⟨h, ha.sub (subs_cons (by kernel_rfl) (subs_cons (by kernel_rfl) (subs_cons (by kernel_rfl) (subs_cons (by kernel_rfl) (subs_cons (by kernel_rfl) (subs_cons (by kernel_rfl) (subs_nil _))))))), HW.pick [0] [] (by decide) (by decide) (by kernel_rfl) (by kernel_rfl)⟩
                            · skip
                              replace h := ite_neg' h hp1107
                              replace ha := ha.bool 87 (by kernel_rfl) (ineq_t hp1107)
                              refine stepp ha 88 (.int .i64 a0) (by kernel_rfl) (by kernel_rfl) ?_; clear ha a; intro a ha
                              refine stepp ha 89 (.bool (a0 == 0)) (by kernel_rfl) (by kernel_rfl) ?_; clear ha a; intro a ha
                              refine stepp ha 90 (.bool (a0 == 0)) (by kernel_rfl) (by kernel_rfl) ?_; clear ha a; intro a ha
                              replace ha := ha.bool 90 (by kernel_rfl) (ieq_f hp1092)
                              refine stepp ha 91 (.int .i64 a0) (by kernel_rfl) (by kernel_rfl) ?_; clear ha a; intro a ha
                              refine stepp ha 92 (.bool (a0 == 3)) (by kernel_rfl) (by kernel_rfl) ?_; clear ha a; intro a ha
                              refine stepp ha 93 (.bool (a0 == 3)) (by kernel_rfl) (by kernel_rfl) ?_; clear ha a; intro a ha
                              refine stepp ha 94 (.bool (a0 == 3)) (by kernel_rfl) (by kernel_rfl) ?_; clear ha a; intro a ha
                              by_cases hp1108 : a0 = 3
                              · skip
                                replace h := ite_pos' h hp1108
                                replace ha := ha.bool 94 (by kernel_rfl) (ieq_t hp1108)
                                refine stepo ha 95 (by kernel_rfl) ?_; clear ha a; intro a ha
                                refine stepo ha 96 (by kernel_rfl) ?_; clear ha a; intro a ha
                                refine stepp ha 97 (.bool true) (by kernel_rfl) (by kernel_rfl) ?_; clear ha a; intro a ha
                                refine stepp ha 98 (.bool true) (by kernel_rfl) (by kernel_rfl) ?_; clear ha a; intro a ha
                                refine stepp ha 99 (.bool true) (by kernel_rfl) (by kernel_rfl) ?_; clear ha a; intro a ha
                                refine endl ?_
                                refine thenN (hK1090 _ _ ?_); clear hK1090
                                refine condT ha (by kernel_rfl) (by kernel_rfl) (t := true) (rfl) ?_
                                refine wp_seq_k (fun K1157 hK1158 => ?_)
                                refine wp_region_lit ?_
                                refine stepp ha 100 (.agg #[.int .i64 0, .int .i64 0, .string (⟨#[]⟩ : ByteArray), .int .i64 0, .int .i64 0, .string (⟨#[]⟩ : ByteArray), .bool false, .slice none 0 0, .int .u64 0, .int .u64 0, .int .u64 0, .int .i64 0, .bool false, .int .i64 0]) (by kernel_rfl) (by kernel_rfl) ?_; clear ha a; intro a ha
                                refine stepst ha HW 0 (b := b976) (C := #[.int .i64 0, .int .i64 0, .string (⟨#[]⟩ : ByteArray), .int .i64 0, .int .i64 0, .string (⟨#[]⟩ : ByteArray), .bool false, .slice none 0 0, .int .u64 0, .int .u64 0, .int .u64 0, .int .i64 0, .bool false, .int .i64 0]) (T := 26) (by kernel_rfl) 26 0 (.tmp 6) (.tmp 100) (.agg #[.int .i64 0, .int .i64 0, .string (⟨#[]⟩ : ByteArray), .int .i64 0, .int .i64 0, .string (⟨#[]⟩ : ByteArray), .bool false, .slice none 0 0, .int .u64 0, .int .u64 0, .int .u64 0, .int .i64 0, .bool false, .int .i64 0]) #[.int .i64 0, .int .i64 0, .string (⟨#[]⟩ : ByteArray), .int .i64 0, .int .i64 0, .string (⟨#[]⟩ : ByteArray), .bool false, .slice none 0 0, .int .u64 0, .int .u64 0, .int .u64 0, .int .i64 0, .bool false, .int .i64 0] rfl (by kernel_rfl) (by kernel_rfl) (by kernel_rfl) (by kernel_rfl) (by kernel_rfl) (by kernel_rfl) (by kernel_rfl) ?_; clear ha HW a; intro a W1159 HW ha
                                refine stepp ha 7 (.int .i64 180) (by kernel_rfl) (by kernel_rfl) ?_; clear ha a; intro a ha
                                refine endl ?_
                                refine thenN (hK1158 _ _ ?_); clear hK1158
                                refine wp_ret ?_
                                refine thenR ?_
                                obtain rfl := Option.some.inj h
                                replace HW := HW.nilo 61 2
                                exact finv ha _ _ rfl (.cell (ad := ⟨b976, 0, none⟩) (v := .agg #[.int .i64 0, .int .i64 0, .string (⟨#[]⟩ : ByteArray), .int .i64 0, .int .i64 0, .string (⟨#[]⟩ : ByteArray), .bool false, .slice none 0 0, .int .u64 0, .int .u64 0, .int .u64 0, .int .i64 0, .bool false, .int .i64 0]) (by kernel_rfl) (run_loadVar_ca0 (HW.ca (i := 0) (b := b976) (C := #[.int .i64 0, .int .i64 0, .string (⟨#[]⟩ : ByteArray), .int .i64 0, .int .i64 0, .string (⟨#[]⟩ : ByteArray), .bool false, .slice none 0 0, .int .u64 0, .int .u64 0, .int .u64 0, .int .i64 0, .bool false, .int .i64 0]) (T := 26) (fr := (0, 0)) (by kernel_rfl)) 26 0 (.agg #[.int .i64 0, .int .i64 0, .string (⟨#[]⟩ : ByteArray), .int .i64 0, .int .i64 0, .string (⟨#[]⟩ : ByteArray), .bool false, .slice none 0 0, .int .u64 0, .int .u64 0, .int .u64 0, .int .i64 0, .bool false, .int .i64 0]) (by kernel_rfl)) (.tmp (v := .int .i64 180) (by kernel_rfl) .nil)) (.tuple #[.agg #[.int .i64 0, .int .i64 0, .string (⟨#[]⟩ : ByteArray), .int .i64 0, .int .i64 0, .string (⟨#[]⟩ : ByteArray), .bool false, .slice none 0 0, .int .u64 0, .int .u64 0, .int .u64 0, .int .i64 0, .bool false, .int .i64 0], .int .i64 180]) rfl ⟨none, 0, rfl, HW.pick [] [0] (by decide) (by decide) rfl (by kernel_rfl)⟩
                              · skip
                                replace h := ite_neg' h hp1108
                                replace ha := ha.bool 94 (by kernel_rfl) (ieq_f hp1108)
                                refine stepp ha 95 (.int .i64 a0) (by kernel_rfl) (by kernel_rfl) ?_; clear ha a; intro a ha
                                refine stepp ha 96 (.bool (a0 == 6)) (by kernel_rfl) (by kernel_rfl) ?_; clear ha a; intro a ha
                                refine stepp ha 97 (.bool (a0 == 6)) (by kernel_rfl) (by kernel_rfl) ?_; clear ha a; intro a ha
                                refine stepp ha 98 (.bool (a0 == 6)) (by kernel_rfl) (by kernel_rfl) ?_; clear ha a; intro a ha
                                refine stepp ha 99 (.bool (a0 == 6)) (by kernel_rfl) (by kernel_rfl) ?_; clear ha a; intro a ha
                                refine endl ?_
                                refine thenN (hK1090 _ _ ?_); clear hK1090
                                refine condT ha (by kernel_rfl) (by kernel_rfl) (t := (a0 == 6)) (ieq_t hp1099) ?_
                                refine wp_seq_k (fun K1161 hK1162 => ?_)
                                refine wp_region_lit ?_
                                refine stepp ha 100 (.agg #[.int .i64 0, .int .i64 0, .string (⟨#[]⟩ : ByteArray), .int .i64 0, .int .i64 0, .string (⟨#[]⟩ : ByteArray), .bool false, .slice none 0 0, .int .u64 0, .int .u64 0, .int .u64 0, .int .i64 0, .bool false, .int .i64 0]) (by kernel_rfl) (by kernel_rfl) ?_; clear ha a; intro a ha
                                refine stepst ha HW 0 (b := b976) (C := #[.int .i64 0, .int .i64 0, .string (⟨#[]⟩ : ByteArray), .int .i64 0, .int .i64 0, .string (⟨#[]⟩ : ByteArray), .bool false, .slice none 0 0, .int .u64 0, .int .u64 0, .int .u64 0, .int .i64 0, .bool false, .int .i64 0]) (T := 26) (by kernel_rfl) 26 0 (.tmp 6) (.tmp 100) (.agg #[.int .i64 0, .int .i64 0, .string (⟨#[]⟩ : ByteArray), .int .i64 0, .int .i64 0, .string (⟨#[]⟩ : ByteArray), .bool false, .slice none 0 0, .int .u64 0, .int .u64 0, .int .u64 0, .int .i64 0, .bool false, .int .i64 0]) #[.int .i64 0, .int .i64 0, .string (⟨#[]⟩ : ByteArray), .int .i64 0, .int .i64 0, .string (⟨#[]⟩ : ByteArray), .bool false, .slice none 0 0, .int .u64 0, .int .u64 0, .int .u64 0, .int .i64 0, .bool false, .int .i64 0] rfl (by kernel_rfl) (by kernel_rfl) (by kernel_rfl) (by kernel_rfl) (by kernel_rfl) (by kernel_rfl) (by kernel_rfl) ?_; clear ha HW a; intro a W1163 HW ha
                                refine stepp ha 7 (.int .i64 180) (by kernel_rfl) (by kernel_rfl) ?_; clear ha a; intro a ha
                                refine endl ?_
                                refine thenN (hK1162 _ _ ?_); clear hK1162
                                refine wp_ret ?_
                                refine thenR ?_
                                obtain rfl := Option.some.inj h
                                replace HW := HW.nilo 61 2
                                exact finv ha _ _ rfl (.cell (ad := ⟨b976, 0, none⟩) (v := .agg #[.int .i64 0, .int .i64 0, .string (⟨#[]⟩ : ByteArray), .int .i64 0, .int .i64 0, .string (⟨#[]⟩ : ByteArray), .bool false, .slice none 0 0, .int .u64 0, .int .u64 0, .int .u64 0, .int .i64 0, .bool false, .int .i64 0]) (by kernel_rfl) (run_loadVar_ca0 (HW.ca (i := 0) (b := b976) (C := #[.int .i64 0, .int .i64 0, .string (⟨#[]⟩ : ByteArray), .int .i64 0, .int .i64 0, .string (⟨#[]⟩ : ByteArray), .bool false, .slice none 0 0, .int .u64 0, .int .u64 0, .int .u64 0, .int .i64 0, .bool false, .int .i64 0]) (T := 26) (fr := (0, 0)) (by kernel_rfl)) 26 0 (.agg #[.int .i64 0, .int .i64 0, .string (⟨#[]⟩ : ByteArray), .int .i64 0, .int .i64 0, .string (⟨#[]⟩ : ByteArray), .bool false, .slice none 0 0, .int .u64 0, .int .u64 0, .int .u64 0, .int .i64 0, .bool false, .int .i64 0]) (by kernel_rfl)) (.tmp (v := .int .i64 180) (by kernel_rfl) .nil)) (.tuple #[.agg #[.int .i64 0, .int .i64 0, .string (⟨#[]⟩ : ByteArray), .int .i64 0, .int .i64 0, .string (⟨#[]⟩ : ByteArray), .bool false, .slice none 0 0, .int .u64 0, .int .u64 0, .int .u64 0, .int .i64 0, .bool false, .int .i64 0], .int .i64 180]) rfl ⟨none, 0, rfl, HW.pick [] [0] (by decide) (by decide) rfl (by kernel_rfl)⟩
                      · skip
                        replace h := ite_neg' h hp1099
                        replace ha := ha.bool 72 (by kernel_rfl) (ineq_t hp1099)
                        refine stepo ha 73 (by kernel_rfl) ?_; clear ha a; intro a ha
                        refine stepo ha 74 (by kernel_rfl) ?_; clear ha a; intro a ha
                        refine stepo ha 75 (by kernel_rfl) ?_; clear ha a; intro a ha
                        refine stepo ha 76 (by kernel_rfl) ?_; clear ha a; intro a ha
                        refine stepo ha 77 (by kernel_rfl) ?_; clear ha a; intro a ha
                        refine stepo ha 78 (by kernel_rfl) ?_; clear ha a; intro a ha
                        refine stepo ha 79 (by kernel_rfl) ?_; clear ha a; intro a ha
                        refine stepo ha 80 (by kernel_rfl) ?_; clear ha a; intro a ha
                        refine stepo ha 81 (by kernel_rfl) ?_; clear ha a; intro a ha
                        refine stepo ha 82 (by kernel_rfl) ?_; clear ha a; intro a ha
                        refine stepp ha 83 (.bool true) (by kernel_rfl) (by kernel_rfl) ?_; clear ha a; intro a ha
                        refine stepp ha 84 (.bool true) (by kernel_rfl) (by kernel_rfl) ?_; clear ha a; intro a ha
                        refine stepo ha 85 (by kernel_rfl) ?_; clear ha a; intro a ha
                        refine stepo ha 86 (by kernel_rfl) ?_; clear ha a; intro a ha
                        refine stepo ha 87 (by kernel_rfl) ?_; clear ha a; intro a ha
                        refine stepo ha 88 (by kernel_rfl) ?_; clear ha a; intro a ha
                        refine stepo ha 89 (by kernel_rfl) ?_; clear ha a; intro a ha
                        refine stepo ha 90 (by kernel_rfl) ?_; clear ha a; intro a ha
                        refine stepo ha 91 (by kernel_rfl) ?_; clear ha a; intro a ha
                        refine stepo ha 92 (by kernel_rfl) ?_; clear ha a; intro a ha
                        refine stepo ha 93 (by kernel_rfl) ?_; clear ha a; intro a ha
                        refine stepo ha 94 (by kernel_rfl) ?_; clear ha a; intro a ha
                        refine stepo ha 95 (by kernel_rfl) ?_; clear ha a; intro a ha
                        refine stepo ha 96 (by kernel_rfl) ?_; clear ha a; intro a ha
                        refine stepo ha 97 (by kernel_rfl) ?_; clear ha a; intro a ha
                        refine stepo ha 98 (by kernel_rfl) ?_; clear ha a; intro a ha
                        refine stepp ha 99 (.bool true) (by kernel_rfl) (by kernel_rfl) ?_; clear ha a; intro a ha
                        refine endl ?_
                        refine thenN (hK1090 _ _ ?_); clear hK1090
                        refine condT ha (by kernel_rfl) (by kernel_rfl) (t := true) (rfl) ?_
                        refine wp_seq_k (fun K1165 hK1166 => ?_)
                        refine wp_region_lit ?_
                        refine stepp ha 100 (.agg #[.int .i64 0, .int .i64 0, .string (⟨#[]⟩ : ByteArray), .int .i64 0, .int .i64 0, .string (⟨#[]⟩ : ByteArray), .bool false, .slice none 0 0, .int .u64 0, .int .u64 0, .int .u64 0, .int .i64 0, .bool false, .int .i64 0]) (by kernel_rfl) (by kernel_rfl) ?_; clear ha a; intro a ha
                        refine stepst ha HW 0 (b := b976) (C := #[.int .i64 0, .int .i64 0, .string (⟨#[]⟩ : ByteArray), .int .i64 0, .int .i64 0, .string (⟨#[]⟩ : ByteArray), .bool false, .slice none 0 0, .int .u64 0, .int .u64 0, .int .u64 0, .int .i64 0, .bool false, .int .i64 0]) (T := 26) (by kernel_rfl) 26 0 (.tmp 6) (.tmp 100) (.agg #[.int .i64 0, .int .i64 0, .string (⟨#[]⟩ : ByteArray), .int .i64 0, .int .i64 0, .string (⟨#[]⟩ : ByteArray), .bool false, .slice none 0 0, .int .u64 0, .int .u64 0, .int .u64 0, .int .i64 0, .bool false, .int .i64 0]) #[.int .i64 0, .int .i64 0, .string (⟨#[]⟩ : ByteArray), .int .i64 0, .int .i64 0, .string (⟨#[]⟩ : ByteArray), .bool false, .slice none 0 0, .int .u64 0, .int .u64 0, .int .u64 0, .int .i64 0, .bool false, .int .i64 0] rfl (by kernel_rfl) (by kernel_rfl) (by kernel_rfl) (by kernel_rfl) (by kernel_rfl) (by kernel_rfl) (by kernel_rfl) ?_; clear ha HW a; intro a W1167 HW ha
                        refine stepp ha 7 (.int .i64 180) (by kernel_rfl) (by kernel_rfl) ?_; clear ha a; intro a ha
                        refine endl ?_
                        refine thenN (hK1166 _ _ ?_); clear hK1166
                        refine wp_ret ?_
                        refine thenR ?_
                        obtain rfl := Option.some.inj h
                        replace HW := HW.nilo 61 2
                        exact finv ha _ _ rfl (.cell (ad := ⟨b976, 0, none⟩) (v := .agg #[.int .i64 0, .int .i64 0, .string (⟨#[]⟩ : ByteArray), .int .i64 0, .int .i64 0, .string (⟨#[]⟩ : ByteArray), .bool false, .slice none 0 0, .int .u64 0, .int .u64 0, .int .u64 0, .int .i64 0, .bool false, .int .i64 0]) (by kernel_rfl) (run_loadVar_ca0 (HW.ca (i := 0) (b := b976) (C := #[.int .i64 0, .int .i64 0, .string (⟨#[]⟩ : ByteArray), .int .i64 0, .int .i64 0, .string (⟨#[]⟩ : ByteArray), .bool false, .slice none 0 0, .int .u64 0, .int .u64 0, .int .u64 0, .int .i64 0, .bool false, .int .i64 0]) (T := 26) (fr := (0, 0)) (by kernel_rfl)) 26 0 (.agg #[.int .i64 0, .int .i64 0, .string (⟨#[]⟩ : ByteArray), .int .i64 0, .int .i64 0, .string (⟨#[]⟩ : ByteArray), .bool false, .slice none 0 0, .int .u64 0, .int .u64 0, .int .u64 0, .int .i64 0, .bool false, .int .i64 0]) (by kernel_rfl)) (.tmp (v := .int .i64 180) (by kernel_rfl) .nil)) (.tuple #[.agg #[.int .i64 0, .int .i64 0, .string (⟨#[]⟩ : ByteArray), .int .i64 0, .int .i64 0, .string (⟨#[]⟩ : ByteArray), .bool false, .slice none 0 0, .int .u64 0, .int .u64 0, .int .u64 0, .int .i64 0, .bool false, .int .i64 0], .int .i64 180]) rfl ⟨none, 0, rfl, HW.pick [] [0] (by decide) (by decide) rfl (by kernel_rfl)⟩
                  · skip
                    replace h := ite_neg' h hp1091
                    replace ha := ha.bool 64 (by kernel_rfl) (ieq_f hp1091)
                    refine stepo ha 65 (by kernel_rfl) ?_; clear ha a; intro a ha
                    refine stepo ha 66 (by kernel_rfl) ?_; clear ha a; intro a ha
                    refine stepp ha 67 (.bool false) (by kernel_rfl) (by kernel_rfl) ?_; clear ha a; intro a ha
                    refine stepp ha 68 (.bool false) (by kernel_rfl) (by kernel_rfl) ?_; clear ha a; intro a ha
                    refine stepo ha 69 (by kernel_rfl) ?_; clear ha a; intro a ha
                    refine stepo ha 70 (by kernel_rfl) ?_; clear ha a; intro a ha
                    refine stepp ha 71 (.bool false) (by kernel_rfl) (by kernel_rfl) ?_; clear ha a; intro a ha
                    refine stepp ha 72 (.bool false) (by kernel_rfl) (by kernel_rfl) ?_; clear ha a; intro a ha
                    refine stepp ha 73 (.int .u64 t1010.1) (by kernel_rfl) (by kernel_rfl) ?_; clear ha a; intro a ha
                    refine stepp ha 74 (.bool (t1010.1 != 0)) (by kernel_rfl) (by kernel_rfl) ?_; clear ha a; intro a ha
                    refine stepp ha 75 (.bool (t1010.1 != 0)) (by kernel_rfl) (by kernel_rfl) ?_; clear ha a; intro a ha
                    by_cases hp1109 : t1010.1 = 0
                    · skip
                      replace h := ite_pos' h hp1109
                      replace ha := ha.bool 75 (by kernel_rfl) (ineq_f hp1109)
                      refine stepo ha 76 (by kernel_rfl) ?_; clear ha a; intro a ha
                      refine stepo ha 77 (by kernel_rfl) ?_; clear ha a; intro a ha
                      refine stepp ha 78 (.bool false) (by kernel_rfl) (by kernel_rfl) ?_; clear ha a; intro a ha
                      refine stepp ha 79 (.bool false) (by kernel_rfl) (by kernel_rfl) ?_; clear ha a; intro a ha
                      refine stepo ha 80 (by kernel_rfl) ?_; clear ha a; intro a ha
                      refine stepo ha 81 (by kernel_rfl) ?_; clear ha a; intro a ha
                      refine stepp ha 82 (.bool false) (by kernel_rfl) (by kernel_rfl) ?_; clear ha a; intro a ha
                      refine stepp ha 83 (.bool false) (by kernel_rfl) (by kernel_rfl) ?_; clear ha a; intro a ha
                      refine stepp ha 84 (.bool false) (by kernel_rfl) (by kernel_rfl) ?_; clear ha a; intro a ha
                      refine stepp ha 85 (.int .i64 a1) (by kernel_rfl) (by kernel_rfl) ?_; clear ha a; intro a ha
                      refine stepp ha 86 (.bool (a1 != 0)) (by kernel_rfl) (by kernel_rfl) ?_; clear ha a; intro a ha
                      refine stepp ha 87 (.bool (a1 != 0)) (by kernel_rfl) (by kernel_rfl) ?_; clear ha a; intro a ha
                      by_cases hp1110 : a1 = 0
                      · skip
                        replace h := ite_pos' h hp1110
                        replace ha := ha.bool 87 (by kernel_rfl) (ineq_f hp1110)
                        refine stepo ha 88 (by kernel_rfl) ?_; clear ha a; intro a ha
                        refine stepo ha 89 (by kernel_rfl) ?_; clear ha a; intro a ha
                        refine stepo ha 90 (by kernel_rfl) ?_; clear ha a; intro a ha
                        refine stepo ha 91 (by kernel_rfl) ?_; clear ha a; intro a ha
                        refine stepo ha 92 (by kernel_rfl) ?_; clear ha a; intro a ha
                        refine stepo ha 93 (by kernel_rfl) ?_; clear ha a; intro a ha
                        refine stepo ha 94 (by kernel_rfl) ?_; clear ha a; intro a ha
                        refine stepo ha 95 (by kernel_rfl) ?_; clear ha a; intro a ha
                        refine stepo ha 96 (by kernel_rfl) ?_; clear ha a; intro a ha
                        refine stepo ha 97 (by kernel_rfl) ?_; clear ha a; intro a ha
                        refine stepp ha 98 (.bool false) (by kernel_rfl) (by kernel_rfl) ?_; clear ha a; intro a ha
                        refine stepp ha 99 (.bool false) (by kernel_rfl) (by kernel_rfl) ?_; clear ha a; intro a ha
                        refine endl ?_
                        refine thenN (hK1090 _ _ ?_); clear hK1090
                        refine condF ha (by kernel_rfl) (by kernel_rfl) (t := false) (rfl) ?_
                        refine wp_skip ?_
                        exact thenN ⟨h, ha.sub (subs_cons (by kernel_rfl) (subs_cons (by kernel_rfl) (subs_cons (by kernel_rfl) (subs_cons (by kernel_rfl) (subs_cons (by kernel_rfl) (subs_cons (by kernel_rfl) (subs_nil _))))))), HW.pick [0] [] (by decide) (by decide) (by kernel_rfl) (by kernel_rfl)⟩
                      · skip
                        replace h := ite_neg' h hp1110
                        replace ha := ha.bool 87 (by kernel_rfl) (ineq_t hp1110)
                        refine stepp ha 88 (.int .i64 a0) (by kernel_rfl) (by kernel_rfl) ?_; clear ha a; intro a ha
                        refine stepp ha 89 (.bool (a0 == 0)) (by kernel_rfl) (by kernel_rfl) ?_; clear ha a; intro a ha
                        refine stepp ha 90 (.bool (a0 == 0)) (by kernel_rfl) (by kernel_rfl) ?_; clear ha a; intro a ha
                        by_cases hp1111 : a0 = 0
                        · skip
                          replace h := ite_pos' h hp1111
                          replace ha := ha.bool 90 (by kernel_rfl) (ieq_t hp1111)
                          refine stepo ha 91 (by kernel_rfl) ?_; clear ha a; intro a ha
                          refine stepo ha 92 (by kernel_rfl) ?_; clear ha a; intro a ha
                          refine stepp ha 93 (.bool true) (by kernel_rfl) (by kernel_rfl) ?_; clear ha a; intro a ha
                          refine stepp ha 94 (.bool true) (by kernel_rfl) (by kernel_rfl) ?_; clear ha a; intro a ha
                          refine stepo ha 95 (by kernel_rfl) ?_; clear ha a; intro a ha
                          refine stepo ha 96 (by kernel_rfl) ?_; clear ha a; intro a ha
                          refine stepp ha 97 (.bool true) (by kernel_rfl) (by kernel_rfl) ?_; clear ha a; intro a ha
                          refine stepp ha 98 (.bool true) (by kernel_rfl) (by kernel_rfl) ?_; clear ha a; intro a ha
                          refine stepp ha 99 (.bool true) (by kernel_rfl) (by kernel_rfl) ?_; clear ha a; intro a ha
                          refine endl ?_
                          refine thenN (hK1090 _ _ ?_); clear hK1090
                          refine condT ha (by kernel_rfl) (by kernel_rfl) (t := true) (rfl) ?_
                          refine wp_seq_k (fun K1169 hK1170 => ?_)
                          refine wp_region_lit ?_
                          refine stepp ha 100 (.agg #[.int .i64 0, .int .i64 0, .string (⟨#[]⟩ : ByteArray), .int .i64 0, .int .i64 0, .string (⟨#[]⟩ : ByteArray), .bool false, .slice none 0 0, .int .u64 0, .int .u64 0, .int .u64 0, .int .i64 0, .bool false, .int .i64 0]) (by kernel_rfl) (by kernel_rfl) ?_; clear ha a; intro a ha
                          refine stepst ha HW 0 (b := b976) (C := #[.int .i64 0, .int .i64 0, .string (⟨#[]⟩ : ByteArray), .int .i64 0, .int .i64 0, .string (⟨#[]⟩ : ByteArray), .bool false, .slice none 0 0, .int .u64 0, .int .u64 0, .int .u64 0, .int .i64 0, .bool false, .int .i64 0]) (T := 26) (by kernel_rfl) 26 0 (.tmp 6) (.tmp 100) (.agg #[.int .i64 0, .int .i64 0, .string (⟨#[]⟩ : ByteArray), .int .i64 0, .int .i64 0, .string (⟨#[]⟩ : ByteArray), .bool false, .slice none 0 0, .int .u64 0, .int .u64 0, .int .u64 0, .int .i64 0, .bool false, .int .i64 0]) #[.int .i64 0, .int .i64 0, .string (⟨#[]⟩ : ByteArray), .int .i64 0, .int .i64 0, .string (⟨#[]⟩ : ByteArray), .bool false, .slice none 0 0, .int .u64 0, .int .u64 0, .int .u64 0, .int .i64 0, .bool false, .int .i64 0] rfl (by kernel_rfl) (by kernel_rfl) (by kernel_rfl) (by kernel_rfl) (by kernel_rfl) (by kernel_rfl) (by kernel_rfl) ?_; clear ha HW a; intro a W1171 HW ha
                          refine stepp ha 7 (.int .i64 180) (by kernel_rfl) (by kernel_rfl) ?_; clear ha a; intro a ha
                          refine endl ?_
                          refine thenN (hK1170 _ _ ?_); clear hK1170
                          refine wp_ret ?_
                          refine thenR ?_
                          obtain rfl := Option.some.inj h
                          replace HW := HW.nilo 61 2
                          exact finv ha _ _ rfl (.cell (ad := ⟨b976, 0, none⟩) (v := .agg #[.int .i64 0, .int .i64 0, .string (⟨#[]⟩ : ByteArray), .int .i64 0, .int .i64 0, .string (⟨#[]⟩ : ByteArray), .bool false, .slice none 0 0, .int .u64 0, .int .u64 0, .int .u64 0, .int .i64 0, .bool false, .int .i64 0]) (by kernel_rfl) (run_loadVar_ca0 (HW.ca (i := 0) (b := b976) (C := #[.int .i64 0, .int .i64 0, .string (⟨#[]⟩ : ByteArray), .int .i64 0, .int .i64 0, .string (⟨#[]⟩ : ByteArray), .bool false, .slice none 0 0, .int .u64 0, .int .u64 0, .int .u64 0, .int .i64 0, .bool false, .int .i64 0]) (T := 26) (fr := (0, 0)) (by kernel_rfl)) 26 0 (.agg #[.int .i64 0, .int .i64 0, .string (⟨#[]⟩ : ByteArray), .int .i64 0, .int .i64 0, .string (⟨#[]⟩ : ByteArray), .bool false, .slice none 0 0, .int .u64 0, .int .u64 0, .int .u64 0, .int .i64 0, .bool false, .int .i64 0]) (by kernel_rfl)) (.tmp (v := .int .i64 180) (by kernel_rfl) .nil)) (.tuple #[.agg #[.int .i64 0, .int .i64 0, .string (⟨#[]⟩ : ByteArray), .int .i64 0, .int .i64 0, .string (⟨#[]⟩ : ByteArray), .bool false, .slice none 0 0, .int .u64 0, .int .u64 0, .int .u64 0, .int .i64 0, .bool false, .int .i64 0], .int .i64 180]) rfl ⟨none, 0, rfl, HW.pick [] [0] (by decide) (by decide) rfl (by kernel_rfl)⟩
                        · skip
                          replace h := ite_neg' h hp1111
                          replace ha := ha.bool 90 (by kernel_rfl) (ieq_f hp1111)
                          refine stepp ha 91 (.int .i64 a0) (by kernel_rfl) (by kernel_rfl) ?_; clear ha a; intro a ha
                          refine stepp ha 92 (.bool (a0 == 3)) (by kernel_rfl) (by kernel_rfl) ?_; clear ha a; intro a ha
                          refine stepp ha 93 (.bool (a0 == 3)) (by kernel_rfl) (by kernel_rfl) ?_; clear ha a; intro a ha
                          refine stepp ha 94 (.bool (a0 == 3)) (by kernel_rfl) (by kernel_rfl) ?_; clear ha a; intro a ha
                          by_cases hp1112 : a0 = 3
                          · skip
                            replace h := ite_pos' h hp1112
                            replace ha := ha.bool 94 (by kernel_rfl) (ieq_t hp1112)
                            refine stepo ha 95 (by kernel_rfl) ?_; clear ha a; intro a ha
                            refine stepo ha 96 (by kernel_rfl) ?_; clear ha a; intro a ha
                            refine stepp ha 97 (.bool true) (by kernel_rfl) (by kernel_rfl) ?_; clear ha a; intro a ha
                            refine stepp ha 98 (.bool true) (by kernel_rfl) (by kernel_rfl) ?_; clear ha a; intro a ha
                            refine stepp ha 99 (.bool true) (by kernel_rfl) (by kernel_rfl) ?_; clear ha a; intro a ha
                            refine endl ?_
                            refine thenN (hK1090 _ _ ?_); clear hK1090
                            refine condT ha (by kernel_rfl) (by kernel_rfl) (t := true) (rfl) ?_
                            refine wp_seq_k (fun K1173 hK1174 => ?_)
                            refine wp_region_lit ?_
                            refine stepp ha 100 (.agg #[.int .i64 0, .int .i64 0, .string (⟨#[]⟩ : ByteArray), .int .i64 0, .int .i64 0, .string (⟨#[]⟩ : ByteArray), .bool false, .slice none 0 0, .int .u64 0, .int .u64 0, .int .u64 0, .int .i64 0, .bool false, .int .i64 0]) (by kernel_rfl) (by kernel_rfl) ?_; clear ha a; intro a ha
                            refine stepst ha HW 0 (b := b976) (C := #[.int .i64 0, .int .i64 0, .string (⟨#[]⟩ : ByteArray), .int .i64 0, .int .i64 0, .string (⟨#[]⟩ : ByteArray), .bool false, .slice none 0 0, .int .u64 0, .int .u64 0, .int .u64 0, .int .i64 0, .bool false, .int .i64 0]) (T := 26) (by kernel_rfl) 26 0 (.tmp 6) (.tmp 100) (.agg #[.int .i64 0, .int .i64 0, .string (⟨#[]⟩ : ByteArray), .int .i64 0, .int .i64 0, .string (⟨#[]⟩ : ByteArray), .bool false, .slice none 0 0, .int .u64 0, .int .u64 0, .int .u64 0, .int .i64 0, .bool false, .int .i64 0]) #[.int .i64 0, .int .i64 0, .string (⟨#[]⟩ : ByteArray), .int .i64 0, .int .i64 0, .string (⟨#[]⟩ : ByteArray), .bool false, .slice none 0 0, .int .u64 0, .int .u64 0, .int .u64 0, .int .i64 0, .bool false, .int .i64 0] rfl (by kernel_rfl) (by kernel_rfl) (by kernel_rfl) (by kernel_rfl) (by kernel_rfl) (by kernel_rfl) (by kernel_rfl) ?_; clear ha HW a; intro a W1175 HW ha
                            refine stepp ha 7 (.int .i64 180) (by kernel_rfl) (by kernel_rfl) ?_; clear ha a; intro a ha
                            refine endl ?_
                            refine thenN (hK1174 _ _ ?_); clear hK1174
                            refine wp_ret ?_
                            refine thenR ?_
                            obtain rfl := Option.some.inj h
                            replace HW := HW.nilo 61 2
                            exact finv ha _ _ rfl (.cell (ad := ⟨b976, 0, none⟩) (v := .agg #[.int .i64 0, .int .i64 0, .string (⟨#[]⟩ : ByteArray), .int .i64 0, .int .i64 0, .string (⟨#[]⟩ : ByteArray), .bool false, .slice none 0 0, .int .u64 0, .int .u64 0, .int .u64 0, .int .i64 0, .bool false, .int .i64 0]) (by kernel_rfl) (run_loadVar_ca0 (HW.ca (i := 0) (b := b976) (C := #[.int .i64 0, .int .i64 0, .string (⟨#[]⟩ : ByteArray), .int .i64 0, .int .i64 0, .string (⟨#[]⟩ : ByteArray), .bool false, .slice none 0 0, .int .u64 0, .int .u64 0, .int .u64 0, .int .i64 0, .bool false, .int .i64 0]) (T := 26) (fr := (0, 0)) (by kernel_rfl)) 26 0 (.agg #[.int .i64 0, .int .i64 0, .string (⟨#[]⟩ : ByteArray), .int .i64 0, .int .i64 0, .string (⟨#[]⟩ : ByteArray), .bool false, .slice none 0 0, .int .u64 0, .int .u64 0, .int .u64 0, .int .i64 0, .bool false, .int .i64 0]) (by kernel_rfl)) (.tmp (v := .int .i64 180) (by kernel_rfl) .nil)) (.tuple #[.agg #[.int .i64 0, .int .i64 0, .string (⟨#[]⟩ : ByteArray), .int .i64 0, .int .i64 0, .string (⟨#[]⟩ : ByteArray), .bool false, .slice none 0 0, .int .u64 0, .int .u64 0, .int .u64 0, .int .i64 0, .bool false, .int .i64 0], .int .i64 180]) rfl ⟨none, 0, rfl, HW.pick [] [0] (by decide) (by decide) rfl (by kernel_rfl)⟩
                          · skip
                            replace h := ite_neg' h hp1112
                            replace ha := ha.bool 94 (by kernel_rfl) (ieq_f hp1112)
                            refine stepp ha 95 (.int .i64 a0) (by kernel_rfl) (by kernel_rfl) ?_; clear ha a; intro a ha
                            refine stepp ha 96 (.bool (a0 == 6)) (by kernel_rfl) (by kernel_rfl) ?_; clear ha a; intro a ha
                            refine stepp ha 97 (.bool (a0 == 6)) (by kernel_rfl) (by kernel_rfl) ?_; clear ha a; intro a ha
                            refine stepp ha 98 (.bool (a0 == 6)) (by kernel_rfl) (by kernel_rfl) ?_; clear ha a; intro a ha
                            refine stepp ha 99 (.bool (a0 == 6)) (by kernel_rfl) (by kernel_rfl) ?_; clear ha a; intro a ha
                            refine endl ?_
                            refine thenN (hK1090 _ _ ?_); clear hK1090
                            by_cases hp1177 : a0 = 6
                            · skip
                              replace h := ite_pos' h hp1177
                              refine condT ha (by kernel_rfl) (by kernel_rfl) (t := (a0 == 6)) (ieq_t hp1177) ?_
                              refine wp_seq_k (fun K1178 hK1179 => ?_)
                              refine wp_region_lit ?_
                              refine stepp ha 100 (.agg #[.int .i64 0, .int .i64 0, .string (⟨#[]⟩ : ByteArray), .int .i64 0, .int .i64 0, .string (⟨#[]⟩ : ByteArray), .bool false, .slice none 0 0, .int .u64 0, .int .u64 0, .int .u64 0, .int .i64 0, .bool false, .int .i64 0]) (by kernel_rfl) (by kernel_rfl) ?_; clear ha a; intro a ha
                              refine stepst ha HW 0 (b := b976) (C := #[.int .i64 0, .int .i64 0, .string (⟨#[]⟩ : ByteArray), .int .i64 0, .int .i64 0, .string (⟨#[]⟩ : ByteArray), .bool false, .slice none 0 0, .int .u64 0, .int .u64 0, .int .u64 0, .int .i64 0, .bool false, .int .i64 0]) (T := 26) (by kernel_rfl) 26 0 (.tmp 6) (.tmp 100) (.agg #[.int .i64 0, .int .i64 0, .string (⟨#[]⟩ : ByteArray), .int .i64 0, .int .i64 0, .string (⟨#[]⟩ : ByteArray), .bool false, .slice none 0 0, .int .u64 0, .int .u64 0, .int .u64 0, .int .i64 0, .bool false, .int .i64 0]) #[.int .i64 0, .int .i64 0, .string (⟨#[]⟩ : ByteArray), .int .i64 0, .int .i64 0, .string (⟨#[]⟩ : ByteArray), .bool false, .slice none 0 0, .int .u64 0, .int .u64 0, .int .u64 0, .int .i64 0, .bool false, .int .i64 0] rfl (by kernel_rfl) (by kernel_rfl) (by kernel_rfl) (by kernel_rfl) (by kernel_rfl) (by kernel_rfl) (by kernel_rfl) ?_; clear ha HW a; intro a W1180 HW ha
                              refine stepp ha 7 (.int .i64 180) (by kernel_rfl) (by kernel_rfl) ?_; clear ha a; intro a ha
                              refine endl ?_
                              refine thenN (hK1179 _ _ ?_); clear hK1179
                              refine wp_ret ?_
                              refine thenR ?_
                              obtain rfl := Option.some.inj h
                              replace HW := HW.nilo 61 2
                              exact finv ha _ _ rfl (.cell (ad := ⟨b976, 0, none⟩) (v := .agg #[.int .i64 0, .int .i64 0, .string (⟨#[]⟩ : ByteArray), .int .i64 0, .int .i64 0, .string (⟨#[]⟩ : ByteArray), .bool false, .slice none 0 0, .int .u64 0, .int .u64 0, .int .u64 0, .int .i64 0, .bool false, .int .i64 0]) (by kernel_rfl) (run_loadVar_ca0 (HW.ca (i := 0) (b := b976) (C := #[.int .i64 0, .int .i64 0, .string (⟨#[]⟩ : ByteArray), .int .i64 0, .int .i64 0, .string (⟨#[]⟩ : ByteArray), .bool false, .slice none 0 0, .int .u64 0, .int .u64 0, .int .u64 0, .int .i64 0, .bool false, .int .i64 0]) (T := 26) (fr := (0, 0)) (by kernel_rfl)) 26 0 (.agg #[.int .i64 0, .int .i64 0, .string (⟨#[]⟩ : ByteArray), .int .i64 0, .int .i64 0, .string (⟨#[]⟩ : ByteArray), .bool false, .slice none 0 0, .int .u64 0, .int .u64 0, .int .u64 0, .int .i64 0, .bool false, .int .i64 0]) (by kernel_rfl)) (.tmp (v := .int .i64 180) (by kernel_rfl) .nil)) (.tuple #[.agg #[.int .i64 0, .int .i64 0, .string (⟨#[]⟩ : ByteArray), .int .i64 0, .int .i64 0, .string (⟨#[]⟩ : ByteArray), .bool false, .slice none 0 0, .int .u64 0, .int .u64 0, .int .u64 0, .int .i64 0, .bool false, .int .i64 0], .int .i64 180]) rfl ⟨none, 0, rfl, HW.pick [] [0] (by decide) (by decide) rfl (by kernel_rfl)⟩
                            · skip
                              replace h := ite_neg' h hp1177
                              refine condF ha (by kernel_rfl) (by kernel_rfl) (t := (a0 == 6)) (ieq_f hp1177) ?_
                              refine wp_skip ?_
                              exact thenN ⟨h, ha.sub (subs_cons (by kernel_rfl) (subs_cons (by kernel_rfl) (subs_cons (by kernel_rfl) (subs_cons (by kernel_rfl) (subs_cons (by kernel_rfl) (subs_cons (by kernel_rfl) (subs_nil _))))))), HW.pick [0] [] (by decide) (by decide) (by kernel_rfl) (by kernel_rfl)⟩
                    · skip
                      replace h := ite_neg' h hp1109
                      replace ha := ha.bool 75 (by kernel_rfl) (ineq_t hp1109)
                      refine stepp ha 76 (.int .i64 a0) (by kernel_rfl) (by kernel_rfl) ?_; clear ha a; intro a ha
                      refine stepp ha 77 (.bool (decide (a0 ≥ 1))) (by kernel_rfl) (by kernel_rfl) ?_; clear ha a; intro a ha
                      refine stepp ha 78 (.bool (decide (a0 ≥ 1))) (by kernel_rfl) (by kernel_rfl) ?_; clear ha a; intro a ha
                      refine stepp ha 79 (.bool (decide (a0 ≥ 1))) (by kernel_rfl) (by kernel_rfl) ?_; clear ha a; intro a ha
                      by_cases hp1113 : a0 ≥ 1
                      · skip
                        replace h := ite_pos' h hp1113
                        replace ha := ha.bool 79 (by kernel_rfl) (decide_eq_true hp1113)
                        refine stepp ha 80 (.int .i64 a0) (by kernel_rfl) (by kernel_rfl) ?_; clear ha a; intro a ha
                        refine stepp ha 81 (.bool (decide (a0 ≤ 3))) (by kernel_rfl) (by kernel_rfl) ?_; clear ha a; intro a ha
                        refine stepp ha 82 (.bool (decide (a0 ≤ 3))) (by kernel_rfl) (by kernel_rfl) ?_; clear ha a; intro a ha
                        refine stepp ha 83 (.bool (decide (a0 ≤ 3))) (by kernel_rfl) (by kernel_rfl) ?_; clear ha a; intro a ha
                        refine stepp ha 84 (.bool (decide (a0 ≤ 3))) (by kernel_rfl) (by kernel_rfl) ?_; clear ha a; intro a ha
                        by_cases hp1114 : a0 ≤ 3
                        · skip
                          replace h := ite_pos' h hp1114
                          replace ha := ha.bool 84 (by kernel_rfl) (decide_eq_true hp1114)
                          refine stepo ha 85 (by kernel_rfl) ?_; clear ha a; intro a ha
                          refine stepo ha 86 (by kernel_rfl) ?_; clear ha a; intro a ha
                          refine stepo ha 87 (by kernel_rfl) ?_; clear ha a; intro a ha
                          refine stepo ha 88 (by kernel_rfl) ?_; clear ha a; intro a ha
                          refine stepo ha 89 (by kernel_rfl) ?_; clear ha a; intro a ha
                          refine stepo ha 90 (by kernel_rfl) ?_; clear ha a; intro a ha
                          refine stepo ha 91 (by kernel_rfl) ?_; clear ha a; intro a ha
                          refine stepo ha 92 (by kernel_rfl) ?_; clear ha a; intro a ha
                          refine stepo ha 93 (by kernel_rfl) ?_; clear ha a; intro a ha
                          refine stepo ha 94 (by kernel_rfl) ?_; clear ha a; intro a ha
                          refine stepo ha 95 (by kernel_rfl) ?_; clear ha a; intro a ha
                          refine stepo ha 96 (by kernel_rfl) ?_; clear ha a; intro a ha
                          refine stepo ha 97 (by kernel_rfl) ?_; clear ha a; intro a ha
                          refine stepo ha 98 (by kernel_rfl) ?_; clear ha a; intro a ha
                          refine stepp ha 99 (.bool true) (by kernel_rfl) (by kernel_rfl) ?_; clear ha a; intro a ha
                          refine endl ?_
                          refine thenN (hK1090 _ _ ?_); clear hK1090
                          refine condT ha (by kernel_rfl) (by kernel_rfl) (t := true) (rfl) ?_
                          refine wp_seq_k (fun K1182 hK1183 => ?_)
                          refine wp_region_lit ?_
                          refine stepp ha 100 (.agg #[.int .i64 0, .int .i64 0, .string (⟨#[]⟩ : ByteArray), .int .i64 0, .int .i64 0, .string (⟨#[]⟩ : ByteArray), .bool false, .slice none 0 0, .int .u64 0, .int .u64 0, .int .u64 0, .int .i64 0, .bool false, .int .i64 0]) (by kernel_rfl) (by kernel_rfl) ?_; clear ha a; intro a ha
                          refine stepst ha HW 0 (b := b976) (C := #[.int .i64 0, .int .i64 0, .string (⟨#[]⟩ : ByteArray), .int .i64 0, .int .i64 0, .string (⟨#[]⟩ : ByteArray), .bool false, .slice none 0 0, .int .u64 0, .int .u64 0, .int .u64 0, .int .i64 0, .bool false, .int .i64 0]) (T := 26) (by kernel_rfl) 26 0 (.tmp 6) (.tmp 100) (.agg #[.int .i64 0, .int .i64 0, .string (⟨#[]⟩ : ByteArray), .int .i64 0, .int .i64 0, .string (⟨#[]⟩ : ByteArray), .bool false, .slice none 0 0, .int .u64 0, .int .u64 0, .int .u64 0, .int .i64 0, .bool false, .int .i64 0]) #[.int .i64 0, .int .i64 0, .string (⟨#[]⟩ : ByteArray), .int .i64 0, .int .i64 0, .string (⟨#[]⟩ : ByteArray), .bool false, .slice none 0 0, .int .u64 0, .int .u64 0, .int .u64 0, .int .i64 0, .bool false, .int .i64 0] rfl (by kernel_rfl) (by kernel_rfl) (by kernel_rfl) (by kernel_rfl) (by kernel_rfl) (by kernel_rfl) (by kernel_rfl) ?_; clear ha HW a; intro a W1184 HW ha
                          refine stepp ha 7 (.int .i64 180) (by kernel_rfl) (by kernel_rfl) ?_; clear ha a; intro a ha
                          refine endl ?_
                          refine thenN (hK1183 _ _ ?_); clear hK1183
                          refine wp_ret ?_
                          refine thenR ?_
                          obtain rfl := Option.some.inj h
                          replace HW := HW.nilo 61 2
                          exact finv ha _ _ rfl (.cell (ad := ⟨b976, 0, none⟩) (v := .agg #[.int .i64 0, .int .i64 0, .string (⟨#[]⟩ : ByteArray), .int .i64 0, .int .i64 0, .string (⟨#[]⟩ : ByteArray), .bool false, .slice none 0 0, .int .u64 0, .int .u64 0, .int .u64 0, .int .i64 0, .bool false, .int .i64 0]) (by kernel_rfl) (run_loadVar_ca0 (HW.ca (i := 0) (b := b976) (C := #[.int .i64 0, .int .i64 0, .string (⟨#[]⟩ : ByteArray), .int .i64 0, .int .i64 0, .string (⟨#[]⟩ : ByteArray), .bool false, .slice none 0 0, .int .u64 0, .int .u64 0, .int .u64 0, .int .i64 0, .bool false, .int .i64 0]) (T := 26) (fr := (0, 0)) (by kernel_rfl)) 26 0 (.agg #[.int .i64 0, .int .i64 0, .string (⟨#[]⟩ : ByteArray), .int .i64 0, .int .i64 0, .string (⟨#[]⟩ : ByteArray), .bool false, .slice none 0 0, .int .u64 0, .int .u64 0, .int .u64 0, .int .i64 0, .bool false, .int .i64 0]) (by kernel_rfl)) (.tmp (v := .int .i64 180) (by kernel_rfl) .nil)) (.tuple #[.agg #[.int .i64 0, .int .i64 0, .string (⟨#[]⟩ : ByteArray), .int .i64 0, .int .i64 0, .string (⟨#[]⟩ : ByteArray), .bool false, .slice none 0 0, .int .u64 0, .int .u64 0, .int .u64 0, .int .i64 0, .bool false, .int .i64 0], .int .i64 180]) rfl ⟨none, 0, rfl, HW.pick [] [0] (by decide) (by decide) rfl (by kernel_rfl)⟩
                        · skip
                          replace h := ite_neg' h hp1114
                          replace ha := ha.bool 84 (by kernel_rfl) (decide_eq_false hp1114)
                          refine stepp ha 85 (.int .i64 a1) (by kernel_rfl) (by kernel_rfl) ?_; clear ha a; intro a ha
                          refine stepp ha 86 (.bool (a1 != 0)) (by kernel_rfl) (by kernel_rfl) ?_; clear ha a; intro a ha
                          refine stepp ha 87 (.bool (a1 != 0)) (by kernel_rfl) (by kernel_rfl) ?_; clear ha a; intro a ha
                          by_cases hp1115 : a1 = 0
                          · skip
                            replace h := ite_pos' h hp1115
                            replace ha := ha.bool 87 (by kernel_rfl) (ineq_f hp1115)
                            refine stepo ha 88 (by kernel_rfl) ?_; clear ha a; intro a ha
                            refine stepo ha 89 (by kernel_rfl) ?_; clear ha a; intro a ha
                            refine stepo ha 90 (by kernel_rfl) ?_; clear ha a; intro a ha
                            refine stepo ha 91 (by kernel_rfl) ?_; clear ha a; intro a ha
                            refine stepo ha 92 (by kernel_rfl) ?_; clear ha a; intro a ha
                            refine stepo ha 93 (by kernel_rfl) ?_; clear ha a; intro a ha
                            refine stepo ha 94 (by kernel_rfl) ?_; clear ha a; intro a ha
                            refine stepo ha 95 (by kernel_rfl) ?_; clear ha a; intro a ha
                            refine stepo ha 96 (by kernel_rfl) ?_; clear ha a; intro a ha
                            refine stepo ha 97 (by kernel_rfl) ?_; clear ha a; intro a ha
                            refine stepp ha 98 (.bool false) (by kernel_rfl) (by kernel_rfl) ?_; clear ha a; intro a ha
                            refine stepp ha 99 (.bool false) (by kernel_rfl) (by kernel_rfl) ?_; clear ha a; intro a ha
                            refine endl ?_
                            refine thenN (hK1090 _ _ ?_); clear hK1090
                            refine condF ha (by kernel_rfl) (by kernel_rfl) (t := false) (rfl) ?_
                            refine wp_skip ?_
                            exact thenN ⟨h, ha.sub (subs_cons (by kernel_rfl) (subs_cons (by kernel_rfl) (subs_cons (by kernel_rfl) (subs_cons (by kernel_rfl) (subs_cons (by kernel_rfl) (subs_cons (by kernel_rfl) (subs_nil _))))))), HW.pick [0] [] (by decide) (by decide) (by kernel_rfl) (by kernel_rfl)⟩
                          · skip
                            replace h := ite_neg' h hp1115
                            replace ha := ha.bool 87 (by kernel_rfl) (ineq_t hp1115)
                            refine stepp ha 88 (.int .i64 a0) (by kernel_rfl) (by kernel_rfl) ?_; clear ha a; intro a ha
                            refine stepp ha 89 (.bool (a0 == 0)) (by kernel_rfl) (by kernel_rfl) ?_; clear ha a; intro a ha
                            refine stepp ha 90 (.bool (a0 == 0)) (by kernel_rfl) (by kernel_rfl) ?_; clear ha a; intro a ha
                            by_cases hp1116 : a0 = 0
                            · skip
                              replace h := ite_pos' h hp1116
                              replace ha := ha.bool 90 (by kernel_rfl) (ieq_t hp1116)
                              refine stepo ha 91 (by kernel_rfl) ?_; clear ha a; intro a ha
                              refine stepo ha 92 (by kernel_rfl) ?_; clear ha a; intro a ha
                              refine stepp ha 93 (.bool true) (by kernel_rfl) (by kernel_rfl) ?_; clear ha a; intro a ha
                              refine stepp ha 94 (.bool true) (by kernel_rfl) (by kernel_rfl) ?_; clear ha a; intro a ha
                              refine stepo ha 95 (by kernel_rfl) ?_; clear ha a; intro a ha
                              refine stepo ha 96 (by kernel_rfl) ?_; clear ha a; intro a ha
                              refine stepp ha 97 (.bool true) (by kernel_rfl) (by kernel_rfl) ?_; clear ha a; intro a ha
                              refine stepp ha 98 (.bool true) (by kernel_rfl) (by kernel_rfl) ?_; clear ha a; intro a ha
                              refine stepp ha 99 (.bool true) (by kernel_rfl) (by kernel_rfl) ?_; clear ha a; intro a ha
                              refine endl ?_
                              refine thenN (hK1090 _ _ ?_); clear hK1090
                              refine condT ha (by kernel_rfl) (by kernel_rfl) (t := true) (rfl) ?_
                              refine wp_seq_k (fun K1186 hK1187 => ?_)
                              refine wp_region_lit ?_
                              refine stepp ha 100 (.agg #[.int .i64 0, .int .i64 0, .string (⟨#[]⟩ : ByteArray), .int .i64 0, .int .i64 0, .string (⟨#[]⟩ : ByteArray), .bool false, .slice none 0 0, .int .u64 0, .int .u64 0, .int .u64 0, .int .i64 0, .bool false, .int .i64 0]) (by kernel_rfl) (by kernel_rfl) ?_; clear ha a; intro a ha
                              refine stepst ha HW 0 (b := b976) (C := #[.int .i64 0, .int .i64 0, .string (⟨#[]⟩ : ByteArray), .int .i64 0, .int .i64 0, .string (⟨#[]⟩ : ByteArray), .bool false, .slice none 0 0, .int .u64 0, .int .u64 0, .int .u64 0, .int .i64 0, .bool false, .int .i64 0]) (T := 26) (by kernel_rfl) 26 0 (.tmp 6) (.tmp 100) (.agg #[.int .i64 0, .int .i64 0, .string (⟨#[]⟩ : ByteArray), .int .i64 0, .int .i64 0, .string (⟨#[]⟩ : ByteArray), .bool false, .slice none 0 0, .int .u64 0, .int .u64 0, .int .u64 0, .int .i64 0, .bool false, .int .i64 0]) #[.int .i64 0, .int .i64 0, .string (⟨#[]⟩ : ByteArray), .int .i64 0, .int .i64 0, .string (⟨#[]⟩ : ByteArray), .bool false, .slice none 0 0, .int .u64 0, .int .u64 0, .int .u64 0, .int .i64 0, .bool false, .int .i64 0] rfl (by kernel_rfl) (by kernel_rfl) (by kernel_rfl) (by kernel_rfl) (by kernel_rfl) (by kernel_rfl) (by kernel_rfl) ?_; clear ha HW a; intro a W1188 HW ha
                              refine stepp ha 7 (.int .i64 180) (by kernel_rfl) (by kernel_rfl) ?_; clear ha a; intro a ha
                              refine endl ?_
                              refine thenN (hK1187 _ _ ?_); clear hK1187
                              refine wp_ret ?_
                              refine thenR ?_
                              obtain rfl := Option.some.inj h
                              replace HW := HW.nilo 61 2
                              exact finv ha _ _ rfl (.cell (ad := ⟨b976, 0, none⟩) (v := .agg #[.int .i64 0, .int .i64 0, .string (⟨#[]⟩ : ByteArray), .int .i64 0, .int .i64 0, .string (⟨#[]⟩ : ByteArray), .bool false, .slice none 0 0, .int .u64 0, .int .u64 0, .int .u64 0, .int .i64 0, .bool false, .int .i64 0]) (by kernel_rfl) (run_loadVar_ca0 (HW.ca (i := 0) (b := b976) (C := #[.int .i64 0, .int .i64 0, .string (⟨#[]⟩ : ByteArray), .int .i64 0, .int .i64 0, .string (⟨#[]⟩ : ByteArray), .bool false, .slice none 0 0, .int .u64 0, .int .u64 0, .int .u64 0, .int .i64 0, .bool false, .int .i64 0]) (T := 26) (fr := (0, 0)) (by kernel_rfl)) 26 0 (.agg #[.int .i64 0, .int .i64 0, .string (⟨#[]⟩ : ByteArray), .int .i64 0, .int .i64 0, .string (⟨#[]⟩ : ByteArray), .bool false, .slice none 0 0, .int .u64 0, .int .u64 0, .int .u64 0, .int .i64 0, .bool false, .int .i64 0]) (by kernel_rfl)) (.tmp (v := .int .i64 180) (by kernel_rfl) .nil)) (.tuple #[.agg #[.int .i64 0, .int .i64 0, .string (⟨#[]⟩ : ByteArray), .int .i64 0, .int .i64 0, .string (⟨#[]⟩ : ByteArray), .bool false, .slice none 0 0, .int .u64 0, .int .u64 0, .int .u64 0, .int .i64 0, .bool false, .int .i64 0], .int .i64 180]) rfl ⟨none, 0, rfl, HW.pick [] [0] (by decide) (by decide) rfl (by kernel_rfl)⟩
                            · skip
                              replace h := ite_neg' h hp1116
                              replace ha := ha.bool 90 (by kernel_rfl) (ieq_f hp1116)
                              refine stepp ha 91 (.int .i64 a0) (by kernel_rfl) (by kernel_rfl) ?_; clear ha a; intro a ha
                              refine stepp ha 92 (.bool (a0 == 3)) (by kernel_rfl) (by kernel_rfl) ?_; clear ha a; intro a ha
                              refine stepp ha 93 (.bool (a0 == 3)) (by kernel_rfl) (by kernel_rfl) ?_; clear ha a; intro a ha
                              refine stepp ha 94 (.bool (a0 == 3)) (by kernel_rfl) (by kernel_rfl) ?_; clear ha a; intro a ha
                              by_cases hp1117 : a0 = 3
                              · skip
                                replace h := ite_pos' h hp1117
                                replace ha := ha.bool 94 (by kernel_rfl) (ieq_t hp1117)
                                refine stepo ha 95 (by kernel_rfl) ?_; clear ha a; intro a ha
                                refine stepo ha 96 (by kernel_rfl) ?_; clear ha a; intro a ha
                                refine stepp ha 97 (.bool true) (by kernel_rfl) (by kernel_rfl) ?_; clear ha a; intro a ha
                                refine stepp ha 98 (.bool true) (by kernel_rfl) (by kernel_rfl) ?_; clear ha a; intro a ha
                                refine stepp ha 99 (.bool true) (by kernel_rfl) (by kernel_rfl) ?_; clear ha a; intro a ha
                                refine endl ?_
                                refine thenN (hK1090 _ _ ?_); clear hK1090
                                refine condT ha (by kernel_rfl) (by kernel_rfl) (t := true) (rfl) ?_
                                refine wp_seq_k (fun K1190 hK1191 => ?_)
                                refine wp_region_lit ?_
                                refine stepp ha 100 (.agg #[.int .i64 0, .int .i64 0, .string (⟨#[]⟩ : ByteArray), .int .i64 0, .int .i64 0, .string (⟨#[]⟩ : ByteArray), .bool false, .slice none 0 0, .int .u64 0, .int .u64 0, .int .u64 0, .int .i64 0, .bool false, .int .i64 0]) (by kernel_rfl) (by kernel_rfl) ?_; clear ha a; intro a ha
                                refine stepst ha HW 0 (b := b976) (C := #[.int .i64 0, .int .i64 0, .string (⟨#[]⟩ : ByteArray), .int .i64 0, .int .i64 0, .string (⟨#[]⟩ : ByteArray), .bool false, .slice none 0 0, .int .u64 0, .int .u64 0, .int .u64 0, .int .i64 0, .bool false, .int .i64 0]) (T := 26) (by kernel_rfl) 26 0 (.tmp 6) (.tmp 100) (.agg #[.int .i64 0, .int .i64 0, .string (⟨#[]⟩ : ByteArray), .int .i64 0, .int .i64 0, .string (⟨#[]⟩ : ByteArray), .bool false, .slice none 0 0, .int .u64 0, .int .u64 0, .int .u64 0, .int .i64 0, .bool false, .int .i64 0]) #[.int .i64 0, .int .i64 0, .string (⟨#[]⟩ : ByteArray), .int .i64 0, .int .i64 0, .string (⟨#[]⟩ : ByteArray), .bool false, .slice none 0 0, .int .u64 0, .int .u64 0, .int .u64 0, .int .i64 0, .bool false, .int .i64 0] rfl (by kernel_rfl) (by kernel_rfl) (by kernel_rfl) (by kernel_rfl) (by kernel_rfl) (by kernel_rfl) (by kernel_rfl) ?_; clear ha HW a; intro a W1192 HW ha
                                refine stepp ha 7 (.int .i64 180) (by kernel_rfl) (by kernel_rfl) ?_; clear ha a; intro a ha
                                refine endl ?_
                                refine thenN (hK1191 _ _ ?_); clear hK1191
                                refine wp_ret ?_
                                refine thenR ?_
                                obtain rfl := Option.some.inj h
                                replace HW := HW.nilo 61 2
                                exact finv ha _ _ rfl (.cell (ad := ⟨b976, 0, none⟩) (v := .agg #[.int .i64 0, .int .i64 0, .string (⟨#[]⟩ : ByteArray), .int .i64 0, .int .i64 0, .string (⟨#[]⟩ : ByteArray), .bool false, .slice none 0 0, .int .u64 0, .int .u64 0, .int .u64 0, .int .i64 0, .bool false, .int .i64 0]) (by kernel_rfl) (run_loadVar_ca0 (HW.ca (i := 0) (b := b976) (C := #[.int .i64 0, .int .i64 0, .string (⟨#[]⟩ : ByteArray), .int .i64 0, .int .i64 0, .string (⟨#[]⟩ : ByteArray), .bool false, .slice none 0 0, .int .u64 0, .int .u64 0, .int .u64 0, .int .i64 0, .bool false, .int .i64 0]) (T := 26) (fr := (0, 0)) (by kernel_rfl)) 26 0 (.agg #[.int .i64 0, .int .i64 0, .string (⟨#[]⟩ : ByteArray), .int .i64 0, .int .i64 0, .string (⟨#[]⟩ : ByteArray), .bool false, .slice none 0 0, .int .u64 0, .int .u64 0, .int .u64 0, .int .i64 0, .bool false, .int .i64 0]) (by kernel_rfl)) (.tmp (v := .int .i64 180) (by kernel_rfl) .nil)) (.tuple #[.agg #[.int .i64 0, .int .i64 0, .string (⟨#[]⟩ : ByteArray), .int .i64 0, .int .i64 0, .string (⟨#[]⟩ : ByteArray), .bool false, .slice none 0 0, .int .u64 0, .int .u64 0, .int .u64 0, .int .i64 0, .bool false, .int .i64 0], .int .i64 180]) rfl ⟨none, 0, rfl, HW.pick [] [0] (by decide) (by decide) rfl (by kernel_rfl)⟩
                              · skip
                                replace h := ite_neg' h hp1117
                                replace ha := ha.bool 94 (by kernel_rfl) (ieq_f hp1117)
                                refine stepp ha 95 (.int .i64 a0) (by kernel_rfl) (by kernel_rfl) ?_; clear ha a; intro a ha
                                refine stepp ha 96 (.bool (a0 == 6)) (by kernel_rfl) (by kernel_rfl) ?_; clear ha a; intro a ha
                                refine stepp ha 97 (.bool (a0 == 6)) (by kernel_rfl) (by kernel_rfl) ?_; clear ha a; intro a ha
                                refine stepp ha 98 (.bool (a0 == 6)) (by kernel_rfl) (by kernel_rfl) ?_; clear ha a; intro a ha
                                refine stepp ha 99 (.bool (a0 == 6)) (by kernel_rfl) (by kernel_rfl) ?_; clear ha a; intro a ha
                                refine endl ?_
                                refine thenN (hK1090 _ _ ?_); clear hK1090
                                by_cases hp1194 : a0 = 6
                                · skip
                                  replace h := ite_pos' h hp1194
                                  refine condT ha (by kernel_rfl) (by kernel_rfl) (t := (a0 == 6)) (ieq_t hp1194) ?_
                                  refine wp_seq_k (fun K1195 hK1196 => ?_)
                                  refine wp_region_lit ?_
                                  refine stepp ha 100 (.agg #[.int .i64 0, .int .i64 0, .string (⟨#[]⟩ : ByteArray), .int .i64 0, .int .i64 0, .string (⟨#[]⟩ : ByteArray), .bool false, .slice none 0 0, .int .u64 0, .int .u64 0, .int .u64 0, .int .i64 0, .bool false, .int .i64 0]) (by kernel_rfl) (by kernel_rfl) ?_; clear ha a; intro a ha
                                  refine stepst ha HW 0 (b := b976) (C := #[.int .i64 0, .int .i64 0, .string (⟨#[]⟩ : ByteArray), .int .i64 0, .int .i64 0, .string (⟨#[]⟩ : ByteArray), .bool false, .slice none 0 0, .int .u64 0, .int .u64 0, .int .u64 0, .int .i64 0, .bool false, .int .i64 0]) (T := 26) (by kernel_rfl) 26 0 (.tmp 6) (.tmp 100) (.agg #[.int .i64 0, .int .i64 0, .string (⟨#[]⟩ : ByteArray), .int .i64 0, .int .i64 0, .string (⟨#[]⟩ : ByteArray), .bool false, .slice none 0 0, .int .u64 0, .int .u64 0, .int .u64 0, .int .i64 0, .bool false, .int .i64 0]) #[.int .i64 0, .int .i64 0, .string (⟨#[]⟩ : ByteArray), .int .i64 0, .int .i64 0, .string (⟨#[]⟩ : ByteArray), .bool false, .slice none 0 0, .int .u64 0, .int .u64 0, .int .u64 0, .int .i64 0, .bool false, .int .i64 0] rfl (by kernel_rfl) (by kernel_rfl) (by kernel_rfl) (by kernel_rfl) (by kernel_rfl) (by kernel_rfl) (by kernel_rfl) ?_; clear ha HW a; intro a W1197 HW ha
                                  refine stepp ha 7 (.int .i64 180) (by kernel_rfl) (by kernel_rfl) ?_; clear ha a; intro a ha
                                  refine endl ?_
                                  refine thenN (hK1196 _ _ ?_); clear hK1196
                                  refine wp_ret ?_
                                  refine thenR ?_
                                  obtain rfl := Option.some.inj h
                                  replace HW := HW.nilo 61 2
                                  exact finv ha _ _ rfl (.cell (ad := ⟨b976, 0, none⟩) (v := .agg #[.int .i64 0, .int .i64 0, .string (⟨#[]⟩ : ByteArray), .int .i64 0, .int .i64 0, .string (⟨#[]⟩ : ByteArray), .bool false, .slice none 0 0, .int .u64 0, .int .u64 0, .int .u64 0, .int .i64 0, .bool false, .int .i64 0]) (by kernel_rfl) (run_loadVar_ca0 (HW.ca (i := 0) (b := b976) (C := #[.int .i64 0, .int .i64 0, .string (⟨#[]⟩ : ByteArray), .int .i64 0, .int .i64 0, .string (⟨#[]⟩ : ByteArray), .bool false, .slice none 0 0, .int .u64 0, .int .u64 0, .int .u64 0, .int .i64 0, .bool false, .int .i64 0]) (T := 26) (fr := (0, 0)) (by kernel_rfl)) 26 0 (.agg #[.int .i64 0, .int .i64 0, .string (⟨#[]⟩ : ByteArray), .int .i64 0, .int .i64 0, .string (⟨#[]⟩ : ByteArray), .bool false, .slice none 0 0, .int .u64 0, .int .u64 0, .int .u64 0, .int .i64 0, .bool false, .int .i64 0]) (by kernel_rfl)) (.tmp (v := .int .i64 180) (by kernel_rfl) .nil)) (.tuple #[.agg #[.int .i64 0, .int .i64 0, .string (⟨#[]⟩ : ByteArray), .int .i64 0, .int .i64 0, .string (⟨#[]⟩ : ByteArray), .bool false, .slice none 0 0, .int .u64 0, .int .u64 0, .int .u64 0, .int .i64 0, .bool false, .int .i64 0], .int .i64 180]) rfl ⟨none, 0, rfl, HW.pick [] [0] (by decide) (by decide) rfl (by kernel_rfl)⟩
                                · skip
                                  replace h := ite_neg' h hp1194
                                  refine condF ha (by kernel_rfl) (by kernel_rfl) (t := (a0 == 6)) (ieq_f hp1194) ?_
                                  refine wp_skip ?_
                                  exact thenN ⟨h, ha.sub (subs_cons (by kernel_rfl) (subs_cons (by kernel_rfl) (subs_cons (by kernel_rfl) (subs_cons (by kernel_rfl) (subs_cons (by kernel_rfl) (subs_cons (by kernel_rfl) (subs_nil _))))))), HW.pick [0] [] (by decide) (by decide) (by kernel_rfl) (by kernel_rfl)⟩
                      · skip
                        replace h := ite_neg' h hp1113
                        replace ha := ha.bool 79 (by kernel_rfl) (decide_eq_false hp1113)
                        refine stepo ha 80 (by kernel_rfl) ?_; clear ha a; intro a ha
                        refine stepo ha 81 (by kernel_rfl) ?_; clear ha a; intro a ha
                        refine stepp ha 82 (.bool false) (by kernel_rfl) (by kernel_rfl) ?_; clear ha a; intro a ha
                        refine stepp ha 83 (.bool false) (by kernel_rfl) (by kernel_rfl) ?_; clear ha a; intro a ha
                        refine stepp ha 84 (.bool false) (by kernel_rfl) (by kernel_rfl) ?_; clear ha a; intro a ha
                        refine stepp ha 85 (.int .i64 a1) (by kernel_rfl) (by kernel_rfl) ?_; clear ha a; intro a ha
                        refine stepp ha 86 (.bool (a1 != 0)) (by kernel_rfl) (by kernel_rfl) ?_; clear ha a; intro a ha
                        refine stepp ha 87 (.bool (a1 != 0)) (by kernel_rfl) (by kernel_rfl) ?_; clear ha a; intro a ha
                        by_cases hp1118 : a1 = 0
                        · skip
                          replace h := ite_pos' h hp1118
                          replace ha := ha.bool 87 (by kernel_rfl) (ineq_f hp1118)
                          refine stepo ha 88 (by kernel_rfl) ?_; clear ha a; intro a ha
                          refine stepo ha 89 (by kernel_rfl) ?_; clear ha a; intro a ha
                          refine stepo ha 90 (by kernel_rfl) ?_; clear ha a; intro a ha
                          refine stepo ha 91 (by kernel_rfl) ?_; clear ha a; intro a ha
                          refine stepo ha 92 (by kernel_rfl) ?_; clear ha a; intro a ha
                          refine stepo ha 93 (by kernel_rfl) ?_; clear ha a; intro a ha
                          refine stepo ha 94 (by kernel_rfl) ?_; clear ha a; intro a ha
                          refine stepo ha 95 (by kernel_rfl) ?_; clear ha a; intro a ha
                          refine stepo ha 96 (by kernel_rfl) ?_; clear ha a; intro a ha
                          refine stepo ha 97 (by kernel_rfl) ?_; clear ha a; intro a ha
                          refine stepp ha 98 (.bool false) (by kernel_rfl) (by kernel_rfl) ?_; clear ha a; intro a ha
                          refine stepp ha 99 (.bool false) (by kernel_rfl) (by kernel_rfl) ?_; clear ha a; intro a ha
                          refine endl ?_
                          refine thenN (hK1090 _ _ ?_); clear hK1090
                          refine condF ha (by kernel_rfl) (by kernel_rfl) (t := false) (rfl) ?_
                          refine wp_skip ?_
                          exact thenN ⟨h, ha.sub (subs_cons (by kernel_rfl) (subs_cons (by kernel_rfl) (subs_cons (by kernel_rfl) (subs_cons (by kernel_rfl) (subs_cons (by kernel_rfl) (subs_cons (by kernel_rfl) (subs_nil _))))))), HW.pick [0] [] (by decide) (by decide) (by kernel_rfl) (by kernel_rfl)⟩
                        · skip
                          replace h := ite_neg' h hp1118
                          replace ha := ha.bool 87 (by kernel_rfl) (ineq_t hp1118)
                          refine stepp ha 88 (.int .i64 a0) (by kernel_rfl) (by kernel_rfl) ?_; clear ha a; intro a ha
                          refine stepp ha 89 (.bool (a0 == 0)) (by kernel_rfl) (by kernel_rfl) ?_; clear ha a; intro a ha
                          refine stepp ha 90 (.bool (a0 == 0)) (by kernel_rfl) (by kernel_rfl) ?_; clear ha a; intro a ha
                          by_cases hp1119 : a0 = 0
                          · skip
                            replace h := ite_pos' h hp1119
                            replace ha := ha.bool 90 (by kernel_rfl) (ieq_t hp1119)
                            refine stepo ha 91 (by kernel_rfl) ?_; clear ha a; intro a ha
                            refine stepo ha 92 (by kernel_rfl) ?_; clear ha a; intro a ha
                            refine stepp ha 93 (.bool true) (by kernel_rfl) (by kernel_rfl) ?_; clear ha a; intro a ha
                            refine stepp ha 94 (.bool true) (by kernel_rfl) (by kernel_rfl) ?_; clear ha a; intro a ha
                            refine stepo ha 95 (by kernel_rfl) ?_; clear ha a; intro a ha
                            refine stepo ha 96 (by kernel_rfl) ?_; clear ha a; intro a ha
                            refine stepp ha 97 (.bool true) (by kernel_rfl) (by kernel_rfl) ?_; clear ha a; intro a ha
                            refine stepp ha 98 (.bool true) (by kernel_rfl) (by kernel_rfl) ?_; clear ha a; intro a ha
                            refine stepp ha 99 (.bool true) (by kernel_rfl) (by kernel_rfl) ?_; clear ha a; intro a ha
                            refine endl ?_
                            refine thenN (hK1090 _ _ ?_); clear hK1090
                            refine condT ha (by kernel_rfl) (by kernel_rfl) (t := true) (rfl) ?_
                            refine wp_seq_k (fun K1199 hK1200 => ?_)
                            refine wp_region_lit ?_
                            refine stepp ha 100 (.agg #[.int .i64 0, .int .i64 0, .string (⟨#[]⟩ : ByteArray), .int .i64 0, .int .i64 0, .string (⟨#[]⟩ : ByteArray), .bool false, .slice none 0 0, .int .u64 0, .int .u64 0, .int .u64 0, .int .i64 0, .bool false, .int .i64 0]) (by kernel_rfl) (by kernel_rfl) ?_; clear ha a; intro a ha
                            refine stepst ha HW 0 (b := b976) (C := #[.int .i64 0, .int .i64 0, .string (⟨#[]⟩ : ByteArray), .int .i64 0, .int .i64 0, .string (⟨#[]⟩ : ByteArray), .bool false, .slice none 0 0, .int .u64 0, .int .u64 0, .int .u64 0, .int .i64 0, .bool false, .int .i64 0]) (T := 26) (by kernel_rfl) 26 0 (.tmp 6) (.tmp 100) (.agg #[.int .i64 0, .int .i64 0, .string (⟨#[]⟩ : ByteArray), .int .i64 0, .int .i64 0, .string (⟨#[]⟩ : ByteArray), .bool false, .slice none 0 0, .int .u64 0, .int .u64 0, .int .u64 0, .int .i64 0, .bool false, .int .i64 0]) #[.int .i64 0, .int .i64 0, .string (⟨#[]⟩ : ByteArray), .int .i64 0, .int .i64 0, .string (⟨#[]⟩ : ByteArray), .bool false, .slice none 0 0, .int .u64 0, .int .u64 0, .int .u64 0, .int .i64 0, .bool false, .int .i64 0] rfl (by kernel_rfl) (by kernel_rfl) (by kernel_rfl) (by kernel_rfl) (by kernel_rfl) (by kernel_rfl) (by kernel_rfl) ?_; clear ha HW a; intro a W1201 HW ha
                            refine stepp ha 7 (.int .i64 180) (by kernel_rfl) (by kernel_rfl) ?_; clear ha a; intro a ha
                            refine endl ?_
                            refine thenN (hK1200 _ _ ?_); clear hK1200
                            refine wp_ret ?_
                            refine thenR ?_
                            obtain rfl := Option.some.inj h
                            replace HW := HW.nilo 61 2
                            exact finv ha _ _ rfl (.cell (ad := ⟨b976, 0, none⟩) (v := .agg #[.int .i64 0, .int .i64 0, .string (⟨#[]⟩ : ByteArray), .int .i64 0, .int .i64 0, .string (⟨#[]⟩ : ByteArray), .bool false, .slice none 0 0, .int .u64 0, .int .u64 0, .int .u64 0, .int .i64 0, .bool false, .int .i64 0]) (by kernel_rfl) (run_loadVar_ca0 (HW.ca (i := 0) (b := b976) (C := #[.int .i64 0, .int .i64 0, .string (⟨#[]⟩ : ByteArray), .int .i64 0, .int .i64 0, .string (⟨#[]⟩ : ByteArray), .bool false, .slice none 0 0, .int .u64 0, .int .u64 0, .int .u64 0, .int .i64 0, .bool false, .int .i64 0]) (T := 26) (fr := (0, 0)) (by kernel_rfl)) 26 0 (.agg #[.int .i64 0, .int .i64 0, .string (⟨#[]⟩ : ByteArray), .int .i64 0, .int .i64 0, .string (⟨#[]⟩ : ByteArray), .bool false, .slice none 0 0, .int .u64 0, .int .u64 0, .int .u64 0, .int .i64 0, .bool false, .int .i64 0]) (by kernel_rfl)) (.tmp (v := .int .i64 180) (by kernel_rfl) .nil)) (.tuple #[.agg #[.int .i64 0, .int .i64 0, .string (⟨#[]⟩ : ByteArray), .int .i64 0, .int .i64 0, .string (⟨#[]⟩ : ByteArray), .bool false, .slice none 0 0, .int .u64 0, .int .u64 0, .int .u64 0, .int .i64 0, .bool false, .int .i64 0], .int .i64 180]) rfl ⟨none, 0, rfl, HW.pick [] [0] (by decide) (by decide) rfl (by kernel_rfl)⟩
                          · skip
                            replace h := ite_neg' h hp1119
                            replace ha := ha.bool 90 (by kernel_rfl) (ieq_f hp1119)
                            refine stepp ha 91 (.int .i64 a0) (by kernel_rfl) (by kernel_rfl) ?_; clear ha a; intro a ha
                            refine stepp ha 92 (.bool (a0 == 3)) (by kernel_rfl) (by kernel_rfl) ?_; clear ha a; intro a ha
                            refine stepp ha 93 (.bool (a0 == 3)) (by kernel_rfl) (by kernel_rfl) ?_; clear ha a; intro a ha
                            refine stepp ha 94 (.bool (a0 == 3)) (by kernel_rfl) (by kernel_rfl) ?_; clear ha a; intro a ha
                            by_cases hp1120 : a0 = 3
                            · skip
                              replace h := ite_pos' h hp1120
                              replace ha := ha.bool 94 (by kernel_rfl) (ieq_t hp1120)
                              refine stepo ha 95 (by kernel_rfl) ?_; clear ha a; intro a ha
                              refine stepo ha 96 (by kernel_rfl) ?_; clear ha a; intro a ha
                              refine stepp ha 97 (.bool true) (by kernel_rfl) (by kernel_rfl) ?_; clear ha a; intro a ha
                              refine stepp ha 98 (.bool true) (by kernel_rfl) (by kernel_rfl) ?_; clear ha a; intro a ha
                              refine stepp ha 99 (.bool true) (by kernel_rfl) (by kernel_rfl) ?_; clear ha a; intro a ha
                              refine endl ?_
                              refine thenN (hK1090 _ _ ?_); clear hK1090
                              refine condT ha (by kernel_rfl) (by kernel_rfl) (t := true) (rfl) ?_
                              refine wp_seq_k (fun K1203 hK1204 => ?_)
                              refine wp_region_lit ?_
                              refine stepp ha 100 (.agg #[.int .i64 0, .int .i64 0, .string (⟨#[]⟩ : ByteArray), .int .i64 0, .int .i64 0, .string (⟨#[]⟩ : ByteArray), .bool false, .slice none 0 0, .int .u64 0, .int .u64 0, .int .u64 0, .int .i64 0, .bool false, .int .i64 0]) (by kernel_rfl) (by kernel_rfl) ?_; clear ha a; intro a ha
                              refine stepst ha HW 0 (b := b976) (C := #[.int .i64 0, .int .i64 0, .string (⟨#[]⟩ : ByteArray), .int .i64 0, .int .i64 0, .string (⟨#[]⟩ : ByteArray), .bool false, .slice none 0 0, .int .u64 0, .int .u64 0, .int .u64 0, .int .i64 0, .bool false, .int .i64 0]) (T := 26) (by kernel_rfl) 26 0 (.tmp 6) (.tmp 100) (.agg #[.int .i64 0, .int .i64 0, .string (⟨#[]⟩ : ByteArray), .int .i64 0, .int .i64 0, .string (⟨#[]⟩ : ByteArray), .bool false, .slice none 0 0, .int .u64 0, .int .u64 0, .int .u64 0, .int .i64 0, .bool false, .int .i64 0]) #[.int .i64 0, .int .i64 0, .string (⟨#[]⟩ : ByteArray), .int .i64 0, .int .i64 0, .string (⟨#[]⟩ : ByteArray), .bool false, .slice none 0 0, .int .u64 0, .int .u64 0, .int .u64 0, .int .i64 0, .bool false, .int .i64 0] rfl (by kernel_rfl) (by kernel_rfl) (by kernel_rfl) (by kernel_rfl) (by kernel_rfl) (by kernel_rfl) (by kernel_rfl) ?_; clear ha HW a; intro a W1205 HW ha
                              refine stepp ha 7 (.int .i64 180) (by kernel_rfl) (by kernel_rfl) ?_; clear ha a; intro a ha
                              refine endl ?_
                              refine thenN (hK1204 _ _ ?_); clear hK1204
                              refine wp_ret ?_
                              refine thenR ?_
                              obtain rfl := Option.some.inj h
                              replace HW := HW.nilo 61 2
                              exact finv ha _ _ rfl (.cell (ad := ⟨b976, 0, none⟩) (v := .agg #[.int .i64 0, .int .i64 0, .string (⟨#[]⟩ : ByteArray), .int .i64 0, .int .i64 0, .string (⟨#[]⟩ : ByteArray), .bool false, .slice none 0 0, .int .u64 0, .int .u64 0, .int .u64 0, .int .i64 0, .bool false, .int .i64 0]) (by kernel_rfl) (run_loadVar_ca0 (HW.ca (i := 0) (b := b976) (C := #[.int .i64 0, .int .i64 0, .string (⟨#[]⟩ : ByteArray), .int .i64 0, .int .i64 0, .string (⟨#[]⟩ : ByteArray), .bool false, .slice none 0 0, .int .u64 0, .int .u64 0, .int .u64 0, .int .i64 0, .bool false, .int .i64 0]) (T := 26) (fr := (0, 0)) (by kernel_rfl)) 26 0 (.agg #[.int .i64 0, .int .i64 0, .string (⟨#[]⟩ : ByteArray), .int .i64 0, .int .i64 0, .string (⟨#[]⟩ : ByteArray), .bool false, .slice none 0 0, .int .u64 0, .int .u64 0, .int .u64 0, .int .i64 0, .bool false, .int .i64 0]) (by kernel_rfl)) (.tmp (v := .int .i64 180) (by kernel_rfl) .nil)) (.tuple #[.agg #[.int .i64 0, .int .i64 0, .string (⟨#[]⟩ : ByteArray), .int .i64 0, .int .i64 0, .string (⟨#[]⟩ : ByteArray), .bool false, .slice none 0 0, .int .u64 0, .int .u64 0, .int .u64 0, .int .i64 0, .bool false, .int .i64 0], .int .i64 180]) rfl ⟨none, 0, rfl, HW.pick [] [0] (by decide) (by decide) rfl (by kernel_rfl)⟩
                            · skip
                              replace h := ite_neg' h hp1120
                              replace ha := ha.bool 94 (by kernel_rfl) (ieq_f hp1120)
                              refine stepp ha 95 (.int .i64 a0) (by kernel_rfl) (by kernel_rfl) ?_; clear ha a; intro a ha
                              refine stepp ha 96 (.bool (a0 == 6)) (by kernel_rfl) (by kernel_rfl) ?_; clear ha a; intro a ha
                              refine stepp ha 97 (.bool (a0 == 6)) (by kernel_rfl) (by kernel_rfl) ?_; clear ha a; intro a ha
                              refine stepp ha 98 (.bool (a0 == 6)) (by kernel_rfl) (by kernel_rfl) ?_; clear ha a; intro a ha
                              refine stepp ha 99 (.bool (a0 == 6)) (by kernel_rfl) (by kernel_rfl) ?_; clear ha a; intro a ha
                              refine endl ?_
                              refine thenN (hK1090 _ _ ?_); clear hK1090
                              by_cases hp1207 : a0 = 6
                              · skip
                                replace h := ite_pos' h hp1207
                                refine condT ha (by kernel_rfl) (by kernel_rfl) (t := (a0 == 6)) (ieq_t hp1207) ?_
                                refine wp_seq_k (fun K1208 hK1209 => ?_)
                                refine wp_region_lit ?_
                                refine stepp ha 100 (.agg #[.int .i64 0, .int .i64 0, .string (⟨#[]⟩ : ByteArray), .int .i64 0, .int .i64 0, .string (⟨#[]⟩ : ByteArray), .bool false, .slice none 0 0, .int .u64 0, .int .u64 0, .int .u64 0, .int .i64 0, .bool false, .int .i64 0]) (by kernel_rfl) (by kernel_rfl) ?_; clear ha a; intro a ha
                                refine stepst ha HW 0 (b := b976) (C := #[.int .i64 0, .int .i64 0, .string (⟨#[]⟩ : ByteArray), .int .i64 0, .int .i64 0, .string (⟨#[]⟩ : ByteArray), .bool false, .slice none 0 0, .int .u64 0, .int .u64 0, .int .u64 0, .int .i64 0, .bool false, .int .i64 0]) (T := 26) (by kernel_rfl) 26 0 (.tmp 6) (.tmp 100) (.agg #[.int .i64 0, .int .i64 0, .string (⟨#[]⟩ : ByteArray), .int .i64 0, .int .i64 0, .string (⟨#[]⟩ : ByteArray), .bool false, .slice none 0 0, .int .u64 0, .int .u64 0, .int .u64 0, .int .i64 0, .bool false, .int .i64 0]) #[.int .i64 0, .int .i64 0, .string (⟨#[]⟩ : ByteArray), .int .i64 0, .int .i64 0, .string (⟨#[]⟩ : ByteArray), .bool false, .slice none 0 0, .int .u64 0, .int .u64 0, .int .u64 0, .int .i64 0, .bool false, .int .i64 0] rfl (by kernel_rfl) (by kernel_rfl) (by kernel_rfl) (by kernel_rfl) (by kernel_rfl) (by kernel_rfl) (by kernel_rfl) ?_; clear ha HW a; intro a W1210 HW ha
                                refine stepp ha 7 (.int .i64 180) (by kernel_rfl) (by kernel_rfl) ?_; clear ha a; intro a ha
                                refine endl ?_
                                refine thenN (hK1209 _ _ ?_); clear hK1209
                                refine wp_ret ?_
                                refine thenR ?_
                                obtain rfl := Option.some.inj h
                                replace HW := HW.nilo 61 2
                                exact finv ha _ _ rfl (.cell (ad := ⟨b976, 0, none⟩) (v := .agg #[.int .i64 0, .int .i64 0, .string (⟨#[]⟩ : ByteArray), .int .i64 0, .int .i64 0, .string (⟨#[]⟩ : ByteArray), .bool false, .slice none 0 0, .int .u64 0, .int .u64 0, .int .u64 0, .int .i64 0, .bool false, .int .i64 0]) (by kernel_rfl) (run_loadVar_ca0 (HW.ca (i := 0) (b := b976) (C := #[.int .i64 0, .int .i64 0, .string (⟨#[]⟩ : ByteArray), .int .i64 0, .int .i64 0, .string (⟨#[]⟩ : ByteArray), .bool false, .slice none 0 0, .int .u64 0, .int .u64 0, .int .u64 0, .int .i64 0, .bool false, .int .i64 0]) (T := 26) (fr := (0, 0)) (by kernel_rfl)) 26 0 (.agg #[.int .i64 0, .int .i64 0, .string (⟨#[]⟩ : ByteArray), .int .i64 0, .int .i64 0, .string (⟨#[]⟩ : ByteArray), .bool false, .slice none 0 0, .int .u64 0, .int .u64 0, .int .u64 0, .int .i64 0, .bool false, .int .i64 0]) (by kernel_rfl)) (.tmp (v := .int .i64 180) (by kernel_rfl) .nil)) (.tuple #[.agg #[.int .i64 0, .int .i64 0, .string (⟨#[]⟩ : ByteArray), .int .i64 0, .int .i64 0, .string (⟨#[]⟩ : ByteArray), .bool false, .slice none 0 0, .int .u64 0, .int .u64 0, .int .u64 0, .int .i64 0, .bool false, .int .i64 0], .int .i64 180]) rfl ⟨none, 0, rfl, HW.pick [] [0] (by decide) (by decide) rfl (by kernel_rfl)⟩
                              · skip
                                replace h := ite_neg' h hp1207
                                refine condF ha (by kernel_rfl) (by kernel_rfl) (t := (a0 == 6)) (ieq_f hp1207) ?_
                                refine wp_skip ?_
                                exact thenN ⟨h, ha.sub (subs_cons (by kernel_rfl) (subs_cons (by kernel_rfl) (subs_cons (by kernel_rfl) (subs_cons (by kernel_rfl) (subs_cons (by kernel_rfl) (subs_cons (by kernel_rfl) (subs_nil _))))))), HW.pick [0] [] (by decide) (by decide) (by kernel_rfl) (by kernel_rfl)⟩
                · skip
                  intro a W1212 hJ
                  obtain ⟨h, ha, HW⟩ := hJ
                  replace h : headgateref18_Change.j0 K a0 a1 a2 t1004 t1010 = some r := h
                  unfold headgateref18_Change.j0 at h
                  refine hK1088 _ _ ?_; clear hK1088
                  refine wp_seq_k (fun K1213 hK1214 => ?_)
                  refine wp_region_lit ?_
                  refine stepp ha 101 (.int .u64 t1004.1) (by kernel_rfl) (by kernel_rfl) ?_; clear ha a; intro a ha
                  refine stepp ha 102 (.agg #[.int .i64 0, .int .i64 0, .string (⟨#[]⟩ : ByteArray), .int .i64 0, .int .i64 0, .string (⟨#[]⟩ : ByteArray), .bool false, .slice none 0 0, .int .u64 t1004.1, .int .u64 0, .int .u64 0, .int .i64 0, .bool false, .int .i64 0]) (by kernel_rfl) (by kernel_rfl) ?_; clear ha a; intro a ha
                  refine stepnew ha HW 14 #[.int .i64 0, .int .i64 0, .string (⟨#[]⟩ : ByteArray), .int .i64 0, .int .i64 0, .string (⟨#[]⟩ : ByteArray), .bool false, .slice none 0 0, .int .u64 0, .int .u64 0, .int .u64 0, .int .i64 0, .bool false, .int .i64 0] 26 (by kernel_rfl) (by kernel_rfl) ?_; clear ha HW a; intro b1215 a W1216 HW ha
                  refine stepst ha HW 0 (b := b1215) (C := #[.int .i64 0, .int .i64 0, .string (⟨#[]⟩ : ByteArray), .int .i64 0, .int .i64 0, .string (⟨#[]⟩ : ByteArray), .bool false, .slice none 0 0, .int .u64 0, .int .u64 0, .int .u64 0, .int .i64 0, .bool false, .int .i64 0]) (T := 26) (by kernel_rfl) 26 0 (.tmp 14) (.tmp 102) (.agg #[.int .i64 0, .int .i64 0, .string (⟨#[]⟩ : ByteArray), .int .i64 0, .int .i64 0, .string (⟨#[]⟩ : ByteArray), .bool false, .slice none 0 0, .int .u64 t1004.1, .int .u64 0, .int .u64 0, .int .i64 0, .bool false, .int .i64 0]) #[.int .i64 0, .int .i64 0, .string (⟨#[]⟩ : ByteArray), .int .i64 0, .int .i64 0, .string (⟨#[]⟩ : ByteArray), .bool false, .slice none 0 0, .int .u64 t1004.1, .int .u64 0, .int .u64 0, .int .i64 0, .bool false, .int .i64 0] rfl (by kernel_rfl) (by kernel_rfl) (by kernel_rfl) (by kernel_rfl) (by kernel_rfl) (by kernel_rfl) (by kernel_rfl) ?_; clear ha HW a; intro a W1217 HW ha
                  refine endl ?_
                  refine thenN (hK1214 _ _ ?_); clear hK1214
                  refine wp_seq_k (fun K1218 hK1219 => ?_)
                  refine wp_seq_k (fun K1220 hK1221 => ?_)
                  refine wp_region_lit ?_
                  refine stepp ha 103 (.int .i64 a0) (by kernel_rfl) (by kernel_rfl) ?_; clear ha a; intro a ha
                  refine endl ?_
                  refine thenN (hK1221 _ _ ?_); clear hK1221
                  refine wp_block ?_
                  refine wp_seq_k (fun K1222 hK1223 => ?_)
                  refine cutn (fun a W1228 => ∃ (x1227 : Bool), headgateref18_Change.j1 K a0 a1 a2 t1004 t1010 x1227 = some r ∧ Has 138 [(0, .int .i64 a0), (1, .int .i64 a1), (6, .pointer (some ⟨b976, 0, none⟩)), (10, .int .u64 t1010.1), (13, .bool ((bt a2 20) == 1)), (14, .pointer (some ⟨b1215, 0, none⟩)), (103, .int .i64 a0), (104, .bool x1227)] a ∧ Wd w W1228 [(b976, .cells #[.int .i64 0, .int .i64 0, .string (⟨#[]⟩ : ByteArray), .int .i64 0, .int .i64 0, .string (⟨#[]⟩ : ByteArray), .bool false, .slice none 0 0, .int .u64 0, .int .u64 0, .int .u64 0, .int .i64 0, .bool false, .int .i64 0] 26 (0, 0)), (b1215, .cells #[.int .i64 0, .int .i64 0, .string (⟨#[]⟩ : ByteArray), .int .i64 0, .int .i64 0, .string (⟨#[]⟩ : ByteArray), .bool false, .slice none 0 0, .int .u64 t1004.1, .int .u64 0, .int .u64 0, .int .i64 0, .bool false, .int .i64 0] 26 (0, 0))] []) ?_ ?_
                  · skip
                    refine wp_seq_k (fun K1224 hK1225 => ?_)
                    refine wp_region_lit ?_
                    refine stepp ha 105 (.bool (a0 == 0)) (by kernel_rfl) (by kernel_rfl) ?_; clear ha a; intro a ha
                    refine stepp ha 104 (.bool (a0 == 0)) (by kernel_rfl) (by kernel_rfl) ?_; clear ha a; intro a ha
                    refine endl ?_
                    refine thenN (hK1225 _ _ ?_); clear hK1225
                    by_cases hp1226 : a0 = 0
                    · skip
                      replace h := ite_pos' h hp1226
                      refine condT ha (by kernel_rfl) (by kernel_rfl) (t := (a0 == 0)) (ieq_t hp1226) ?_
                      refine wp_skip ?_
                      exact thenN ⟨(a0 == 0), h, ha.sub (subs_cons (by kernel_rfl) (subs_cons (by kernel_rfl) (subs_cons (by kernel_rfl) (subs_cons (by kernel_rfl) (subs_cons (by kernel_rfl) (subs_cons (by kernel_rfl) (subs_cons (by kernel_rfl) (subs_cons (by kernel_rfl) (subs_nil _))))))))), HW.pick [1, 0] [] (by decide) (by decide) (by kernel_rfl) (by kernel_rfl)⟩
                    · skip
                      replace h := ite_neg' h hp1226
                      refine condF ha (by kernel_rfl) (by kernel_rfl) (t := (a0 == 0)) (ieq_f hp1226) ?_
                      refine wp_region_lit ?_
                      refine stepp ha 106 (.bool (a0 == 6)) (by kernel_rfl) (by kernel_rfl) ?_; clear ha a; intro a ha
                      refine stepp ha 104 (.bool (a0 == 6)) (by kernel_rfl) (by kernel_rfl) ?_; clear ha a; intro a ha
                      refine endl ?_
                      exact thenN ⟨(a0 == 6), h, ha.sub (subs_cons (by kernel_rfl) (subs_cons (by kernel_rfl) (subs_cons (by kernel_rfl) (subs_cons (by kernel_rfl) (subs_cons (by kernel_rfl) (subs_cons (by kernel_rfl) (subs_cons (by kernel_rfl) (subs_cons (by kernel_rfl) (subs_nil _))))))))), HW.pick [1, 0] [] (by decide) (by decide) (by kernel_rfl) (by kernel_rfl)⟩
                  · skip
                    intro a W1228 hJ
                    obtain ⟨x1227, h, ha, HW⟩ := hJ
                    replace h : headgateref18_Change.j1 K a0 a1 a2 t1004 t1010 x1227 = some r := h
                    unfold headgateref18_Change.j1 at h
                    refine hK1223 _ _ ?_; clear hK1223
                    by_cases hp1229 : x1227 = true
                    · skip
                      replace h := ite_pos' h hp1229
                      refine condT ha (by kernel_rfl) (by kernel_rfl) (t := x1227) (hp1229) ?_
                      refine wp_seq_k (fun K1230 hK1231 => ?_)
                      refine wp_region_lit ?_
                      refine stepp ha 107 (.int .u64 t1010.1) (by kernel_rfl) (by kernel_rfl) ?_; clear ha a; intro a ha
                      refine stepp ha 108 (.pointer (some ⟨b1215, 0, none⟩)) (by kernel_rfl) (by kernel_rfl) ?_; clear ha a; intro a ha
                      refine stepst ha HW 1 (b := b1215) (C := #[.int .i64 0, .int .i64 0, .string (⟨#[]⟩ : ByteArray), .int .i64 0, .int .i64 0, .string (⟨#[]⟩ : ByteArray), .bool false, .slice none 0 0, .int .u64 t1004.1, .int .u64 0, .int .u64 0, .int .i64 0, .bool false, .int .i64 0]) (T := 26) (by kernel_rfl) 3 0 (.tmp 108) (.const (.int .i64 8)) (.int .i64 8) #[.int .i64 8, .int .i64 0, .string (⟨#[]⟩ : ByteArray), .int .i64 0, .int .i64 0, .string (⟨#[]⟩ : ByteArray), .bool false, .slice none 0 0, .int .u64 t1004.1, .int .u64 0, .int .u64 0, .int .i64 0, .bool false, .int .i64 0] rfl (by kernel_rfl) (by kernel_rfl) (by kernel_rfl) (by kernel_rfl) (by kernel_rfl) (by kernel_rfl) (by kernel_rfl) ?_; clear ha HW a; intro a W1232 HW ha
                      refine stepp ha 109 (.pointer (some ⟨b1215, 9, none⟩)) (by kernel_rfl) (by kernel_rfl) ?_; clear ha a; intro a ha
                      refine stepst ha HW 1 (b := b1215) (C := #[.int .i64 8, .int .i64 0, .string (⟨#[]⟩ : ByteArray), .int .i64 0, .int .i64 0, .string (⟨#[]⟩ : ByteArray), .bool false, .slice none 0 0, .int .u64 t1004.1, .int .u64 0, .int .u64 0, .int .i64 0, .bool false, .int .i64 0]) (T := 26) (by kernel_rfl) 24 9 (.tmp 109) (.tmp 107) (.int .u64 t1010.1) #[.int .i64 8, .int .i64 0, .string (⟨#[]⟩ : ByteArray), .int .i64 0, .int .i64 0, .string (⟨#[]⟩ : ByteArray), .bool false, .slice none 0 0, .int .u64 t1004.1, .int .u64 t1010.1, .int .u64 0, .int .i64 0, .bool false, .int .i64 0] rfl (by kernel_rfl) (by kernel_rfl) (by kernel_rfl) (by kernel_rfl) (by kernel_rfl) (by kernel_rfl) (by kernel_rfl) ?_; clear ha HW a; intro a W1233 HW ha
                      refine stepp ha 110 (.pointer (some ⟨b1215, 13, none⟩)) (by kernel_rfl) (by kernel_rfl) ?_; clear ha a; intro a ha
                      refine stepst ha HW 1 (b := b1215) (C := #[.int .i64 8, .int .i64 0, .string (⟨#[]⟩ : ByteArray), .int .i64 0, .int .i64 0, .string (⟨#[]⟩ : ByteArray), .bool false, .slice none 0 0, .int .u64 t1004.1, .int .u64 t1010.1, .int .u64 0, .int .i64 0, .bool false, .int .i64 0]) (T := 26) (by kernel_rfl) 3 13 (.tmp 110) (.const (.int .i64 1)) (.int .i64 1) #[.int .i64 8, .int .i64 0, .string (⟨#[]⟩ : ByteArray), .int .i64 0, .int .i64 0, .string (⟨#[]⟩ : ByteArray), .bool false, .slice none 0 0, .int .u64 t1004.1, .int .u64 t1010.1, .int .u64 0, .int .i64 0, .bool false, .int .i64 1] rfl (by kernel_rfl) (by kernel_rfl) (by kernel_rfl) (by kernel_rfl) (by kernel_rfl) (by kernel_rfl) (by kernel_rfl) ?_; clear ha HW a; intro a W1234 HW ha
                      refine endl ?_
                      refine thenN (hK1231 _ _ ?_); clear hK1231
                      refine wp_seq_k (fun K1235 hK1236 => ?_)
                      refine wp_seq_k (fun K1237 hK1238 => ?_)
                      refine wp_region_lit ?_
                      refine stepp ha 111 (.bool ((bt a2 20) == 1)) (by kernel_rfl) (by kernel_rfl) ?_; clear ha a; intro a ha
                      refine endl ?_
                      refine thenN (hK1238 _ _ ?_); clear hK1238
                      by_cases hp1239 : (bt a2 20) = 1
                      · skip
                        replace h := ite_pos' h hp1239
                        refine condT ha (by kernel_rfl) (by kernel_rfl) (t := ((bt a2 20) == 1)) (ieq_t hp1239) ?_
                        refine wp_region_lit ?_
                        refine stepp ha 112 (.pointer (some ⟨b1215, 13, none⟩)) (by kernel_rfl) (by kernel_rfl) ?_; clear ha a; intro a ha
                        refine stepst ha HW 1 (b := b1215) (C := #[.int .i64 8, .int .i64 0, .string (⟨#[]⟩ : ByteArray), .int .i64 0, .int .i64 0, .string (⟨#[]⟩ : ByteArray), .bool false, .slice none 0 0, .int .u64 t1004.1, .int .u64 t1010.1, .int .u64 0, .int .i64 0, .bool false, .int .i64 1]) (T := 26) (by kernel_rfl) 3 13 (.tmp 112) (.const (.int .i64 2)) (.int .i64 2) #[.int .i64 8, .int .i64 0, .string (⟨#[]⟩ : ByteArray), .int .i64 0, .int .i64 0, .string (⟨#[]⟩ : ByteArray), .bool false, .slice none 0 0, .int .u64 t1004.1, .int .u64 t1010.1, .int .u64 0, .int .i64 0, .bool false, .int .i64 2] rfl (by kernel_rfl) (by kernel_rfl) (by kernel_rfl) (by kernel_rfl) (by kernel_rfl) (by kernel_rfl) (by kernel_rfl) ?_; clear ha HW a; intro a W1240 HW ha
                        refine endl ?_
                        refine thenN (hK1236 _ _ ?_); clear hK1236
                        refine wp_seq_k (fun K1241 hK1242 => ?_)
                        refine wp_region_lit ?_
                        refine stepp ha 113 (.int .i64 a0) (by kernel_rfl) (by kernel_rfl) ?_; clear ha a; intro a ha
                        refine stepp ha 114 (.bool (a0 == 6)) (by kernel_rfl) (by kernel_rfl) ?_; clear ha a; intro a ha
                        refine endl ?_
                        refine thenN (hK1242 _ _ ?_); clear hK1242
                        by_cases hp1243 : a0 = 6
                        · skip
                          replace h := ite_pos' h hp1243
                          refine condT ha (by kernel_rfl) (by kernel_rfl) (t := (a0 == 6)) (ieq_t hp1243) ?_
                          refine wp_region_lit ?_
                          refine stepp ha 115 (.pointer (some ⟨b1215, 12, none⟩)) (by kernel_rfl) (by kernel_rfl) ?_; clear ha a; intro a ha
                          refine stepst ha HW 1 (b := b1215) (C := #[.int .i64 8, .int .i64 0, .string (⟨#[]⟩ : ByteArray), .int .i64 0, .int .i64 0, .string (⟨#[]⟩ : ByteArray), .bool false, .slice none 0 0, .int .u64 t1004.1, .int .u64 t1010.1, .int .u64 0, .int .i64 0, .bool false, .int .i64 2]) (T := 26) (by kernel_rfl) 4 12 (.tmp 115) (.const (.bool true)) (.bool true) #[.int .i64 8, .int .i64 0, .string (⟨#[]⟩ : ByteArray), .int .i64 0, .int .i64 0, .string (⟨#[]⟩ : ByteArray), .bool false, .slice none 0 0, .int .u64 t1004.1, .int .u64 t1010.1, .int .u64 0, .int .i64 0, .bool true, .int .i64 2] rfl (by kernel_rfl) (by kernel_rfl) (by kernel_rfl) (by kernel_rfl) (by kernel_rfl) (by kernel_rfl) (by kernel_rfl) ?_; clear ha HW a; intro a W1244 HW ha
                          refine stepp ha 116 (.pointer (some ⟨b1215, 8, none⟩)) (by kernel_rfl) (by kernel_rfl) ?_; clear ha a; intro a ha
                          refine stepst ha HW 1 (b := b1215) (C := #[.int .i64 8, .int .i64 0, .string (⟨#[]⟩ : ByteArray), .int .i64 0, .int .i64 0, .string (⟨#[]⟩ : ByteArray), .bool false, .slice none 0 0, .int .u64 t1004.1, .int .u64 t1010.1, .int .u64 0, .int .i64 0, .bool true, .int .i64 2]) (T := 26) (by kernel_rfl) 24 8 (.tmp 116) (.const (.int .u64 0)) (.int .u64 0) #[.int .i64 8, .int .i64 0, .string (⟨#[]⟩ : ByteArray), .int .i64 0, .int .i64 0, .string (⟨#[]⟩ : ByteArray), .bool false, .slice none 0 0, .int .u64 0, .int .u64 t1010.1, .int .u64 0, .int .i64 0, .bool true, .int .i64 2] rfl (by kernel_rfl) (by kernel_rfl) (by kernel_rfl) (by kernel_rfl) (by kernel_rfl) (by kernel_rfl) (by kernel_rfl) ?_; clear ha HW a; intro a W1245 HW ha
                          refine endl ?_
                          refine blkN ?_
                          refine thenN (hK1219 _ _ ?_); clear hK1219
                          refine wp_seq_k (fun K1271 hK1272 => ?_)
                          refine wp_region_lit ?_
                          refine stepl ha 137 (HW.ca (i := 1) (b := b1215) (C := #[.int .i64 8, .int .i64 0, .string (⟨#[]⟩ : ByteArray), .int .i64 0, .int .i64 0, .string (⟨#[]⟩ : ByteArray), .bool false, .slice none 0 0, .int .u64 0, .int .u64 t1010.1, .int .u64 0, .int .i64 0, .bool true, .int .i64 2]) (T := 26) (fr := (0, 0)) (by kernel_rfl)) 26 0 (.tmp 14) (.agg #[.int .i64 8, .int .i64 0, .string (⟨#[]⟩ : ByteArray), .int .i64 0, .int .i64 0, .string (⟨#[]⟩ : ByteArray), .bool false, .slice none 0 0, .int .u64 0, .int .u64 t1010.1, .int .u64 0, .int .i64 0, .bool true, .int .i64 2]) rfl (by kernel_rfl) (by kernel_rfl) (by kernel_rfl) ?_; clear ha a; intro a ha
                          refine stepst ha HW 0 (b := b976) (C := #[.int .i64 0, .int .i64 0, .string (⟨#[]⟩ : ByteArray), .int .i64 0, .int .i64 0, .string (⟨#[]⟩ : ByteArray), .bool false, .slice none 0 0, .int .u64 0, .int .u64 0, .int .u64 0, .int .i64 0, .bool false, .int .i64 0]) (T := 26) (by kernel_rfl) 26 0 (.tmp 6) (.tmp 137) (.agg #[.int .i64 8, .int .i64 0, .string (⟨#[]⟩ : ByteArray), .int .i64 0, .int .i64 0, .string (⟨#[]⟩ : ByteArray), .bool false, .slice none 0 0, .int .u64 0, .int .u64 t1010.1, .int .u64 0, .int .i64 0, .bool true, .int .i64 2]) #[.int .i64 8, .int .i64 0, .string (⟨#[]⟩ : ByteArray), .int .i64 0, .int .i64 0, .string (⟨#[]⟩ : ByteArray), .bool false, .slice none 0 0, .int .u64 0, .int .u64 t1010.1, .int .u64 0, .int .i64 0, .bool true, .int .i64 2] rfl (by kernel_rfl) (by kernel_rfl) (by kernel_rfl) (by kernel_rfl) (by kernel_rfl) (by kernel_rfl) (by kernel_rfl) ?_; clear ha HW a; intro a W1273 HW ha
                          refine stepp ha 7 (.int .i64 0) (by kernel_rfl) (by kernel_rfl) ?_; clear ha a; intro a ha
                          refine endl ?_
                          refine thenN (hK1272 _ _ ?_); clear hK1272
                          refine wp_ret ?_
                          obtain rfl := Option.some.inj h
                          replace HW := HW.nilo 61 2
                          exact finv ha _ _ rfl (.cell (ad := ⟨b976, 0, none⟩) (v := .agg #[.int .i64 8, .int .i64 0, .string (⟨#[]⟩ : ByteArray), .int .i64 0, .int .i64 0, .string (⟨#[]⟩ : ByteArray), .bool false, .slice none 0 0, .int .u64 0, .int .u64 t1010.1, .int .u64 0, .int .i64 0, .bool true, .int .i64 2]) (by kernel_rfl) (run_loadVar_ca0 (HW.ca (i := 0) (b := b976) (C := #[.int .i64 8, .int .i64 0, .string (⟨#[]⟩ : ByteArray), .int .i64 0, .int .i64 0, .string (⟨#[]⟩ : ByteArray), .bool false, .slice none 0 0, .int .u64 0, .int .u64 t1010.1, .int .u64 0, .int .i64 0, .bool true, .int .i64 2]) (T := 26) (fr := (0, 0)) (by kernel_rfl)) 26 0 (.agg #[.int .i64 8, .int .i64 0, .string (⟨#[]⟩ : ByteArray), .int .i64 0, .int .i64 0, .string (⟨#[]⟩ : ByteArray), .bool false, .slice none 0 0, .int .u64 0, .int .u64 t1010.1, .int .u64 0, .int .i64 0, .bool true, .int .i64 2]) (by kernel_rfl)) (.tmp (v := .int .i64 0) (by kernel_rfl) .nil)) (.tuple #[.agg #[.int .i64 8, .int .i64 0, .string (⟨#[]⟩ : ByteArray), .int .i64 0, .int .i64 0, .string (⟨#[]⟩ : ByteArray), .bool false, .slice none 0 0, .int .u64 0, .int .u64 t1010.1, .int .u64 0, .int .i64 0, .bool true, .int .i64 2], .int .i64 0]) rfl ⟨none, 0, rfl, HW.pick [] [0] (by decide) (by decide) rfl (by kernel_rfl)⟩
                        · skip
                          replace h := ite_neg' h hp1243
                          refine condF ha (by kernel_rfl) (by kernel_rfl) (t := (a0 == 6)) (ieq_f hp1243) ?_
                          refine wp_skip ?_
                          refine blkN ?_
                          refine thenN (hK1219 _ _ ?_); clear hK1219
                          refine wp_seq_k (fun K1275 hK1276 => ?_)
                          refine wp_region_lit ?_
                          refine stepl ha 137 (HW.ca (i := 1) (b := b1215) (C := #[.int .i64 8, .int .i64 0, .string (⟨#[]⟩ : ByteArray), .int .i64 0, .int .i64 0, .string (⟨#[]⟩ : ByteArray), .bool false, .slice none 0 0, .int .u64 t1004.1, .int .u64 t1010.1, .int .u64 0, .int .i64 0, .bool false, .int .i64 2]) (T := 26) (fr := (0, 0)) (by kernel_rfl)) 26 0 (.tmp 14) (.agg #[.int .i64 8, .int .i64 0, .string (⟨#[]⟩ : ByteArray), .int .i64 0, .int .i64 0, .string (⟨#[]⟩ : ByteArray), .bool false, .slice none 0 0, .int .u64 t1004.1, .int .u64 t1010.1, .int .u64 0, .int .i64 0, .bool false, .int .i64 2]) rfl (by kernel_rfl) (by kernel_rfl) (by kernel_rfl) ?_; clear ha a; intro a ha
                          refine stepst ha HW 0 (b := b976) (C := #[.int .i64 0, .int .i64 0, .string (⟨#[]⟩ : ByteArray), .int .i64 0, .int .i64 0, .string (⟨#[]⟩ : ByteArray), .bool false, .slice none 0 0, .int .u64 0, .int .u64 0, .int .u64 0, .int .i64 0, .bool false, .int .i64 0]) (T := 26) (by kernel_rfl) 26 0 (.tmp 6) (.tmp 137) (.agg #[.int .i64 8, .int .i64 0, .string (⟨#[]⟩ : ByteArray), .int .i64 0, .int .i64 0, .string (⟨#[]⟩ : ByteArray), .bool false, .slice none 0 0, .int .u64 t1004.1, .int .u64 t1010.1, .int .u64 0, .int .i64 0, .bool false, .int .i64 2]) #[.int .i64 8, .int .i64 0, .string (⟨#[]⟩ : ByteArray), .int .i64 0, .int .i64 0, .string (⟨#[]⟩ : ByteArray), .bool false, .slice none 0 0, .int .u64 t1004.1, .int .u64 t1010.1, .int .u64 0, .int .i64 0, .bool false, .int .i64 2] rfl (by kernel_rfl) (by kernel_rfl) (by kernel_rfl) (by kernel_rfl) (by kernel_rfl) (by kernel_rfl) (by kernel_rfl) ?_; clear ha HW a; intro a W1277 HW ha
                          refine stepp ha 7 (.int .i64 0) (by kernel_rfl) (by kernel_rfl) ?_; clear ha a; intro a ha
                          refine endl ?_
                          refine thenN (hK1276 _ _ ?_); clear hK1276
                          refine wp_ret ?_
                          obtain rfl := Option.some.inj h
                          replace HW := HW.nilo 61 2
                          exact finv ha _ _ rfl (.cell (ad := ⟨b976, 0, none⟩) (v := .agg #[.int .i64 8, .int .i64 0, .string (⟨#[]⟩ : ByteArray), .int .i64 0, .int .i64 0, .string (⟨#[]⟩ : ByteArray), .bool false, .slice none 0 0, .int .u64 t1004.1, .int .u64 t1010.1, .int .u64 0, .int .i64 0, .bool false, .int .i64 2]) (by kernel_rfl) (run_loadVar_ca0 (HW.ca (i := 0) (b := b976) (C := #[.int .i64 8, .int .i64 0, .string (⟨#[]⟩ : ByteArray), .int .i64 0, .int .i64 0, .string (⟨#[]⟩ : ByteArray), .bool false, .slice none 0 0, .int .u64 t1004.1, .int .u64 t1010.1, .int .u64 0, .int .i64 0, .bool false, .int .i64 2]) (T := 26) (fr := (0, 0)) (by kernel_rfl)) 26 0 (.agg #[.int .i64 8, .int .i64 0, .string (⟨#[]⟩ : ByteArray), .int .i64 0, .int .i64 0, .string (⟨#[]⟩ : ByteArray), .bool false, .slice none 0 0, .int .u64 t1004.1, .int .u64 t1010.1, .int .u64 0, .int .i64 0, .bool false, .int .i64 2]) (by kernel_rfl)) (.tmp (v := .int .i64 0) (by kernel_rfl) .nil)) (.tuple #[.agg #[.int .i64 8, .int .i64 0, .string (⟨#[]⟩ : ByteArray), .int .i64 0, .int .i64 0, .string (⟨#[]⟩ : ByteArray), .bool false, .slice none 0 0, .int .u64 t1004.1, .int .u64 t1010.1, .int .u64 0, .int .i64 0, .bool false, .int .i64 2], .int .i64 0]) rfl ⟨none, 0, rfl, HW.pick [] [0] (by decide) (by decide) rfl (by kernel_rfl)⟩
                      · skip
                        replace h := ite_neg' h hp1239
                        refine condF ha (by kernel_rfl) (by kernel_rfl) (t := ((bt a2 20) == 1)) (ieq_f hp1239) ?_
                        refine wp_skip ?_
                        refine thenN (hK1236 _ _ ?_); clear hK1236
                        refine wp_seq_k (fun K1246 hK1247 => ?_)
                        refine wp_region_lit ?_
                        refine stepp ha 113 (.int .i64 a0) (by kernel_rfl) (by kernel_rfl) ?_; clear ha a; intro a ha
                        refine stepp ha 114 (.bool (a0 == 6)) (by kernel_rfl) (by kernel_rfl) ?_; clear ha a; intro a ha
                        refine endl ?_
                        refine thenN (hK1247 _ _ ?_); clear hK1247
                        by_cases hp1248 : a0 = 6
                        · skip
                          replace h := ite_pos' h hp1248
                          refine condT ha (by kernel_rfl) (by kernel_rfl) (t := (a0 == 6)) (ieq_t hp1248) ?_
                          refine wp_region_lit ?_
                          refine stepp ha 115 (.pointer (some ⟨b1215, 12, none⟩)) (by kernel_rfl) (by kernel_rfl) ?_; clear ha a; intro a ha
                          refine stepst ha HW 1 (b := b1215) (C := #[.int .i64 8, .int .i64 0, .string (⟨#[]⟩ : ByteArray), .int .i64 0, .int .i64 0, .string (⟨#[]⟩ : ByteArray), .bool false, .slice none 0 0, .int .u64 t1004.1, .int .u64 t1010.1, .int .u64 0, .int .i64 0, .bool false, .int .i64 1]) (T := 26) (by kernel_rfl) 4 12 (.tmp 115) (.const (.bool true)) (.bool true) #[.int .i64 8, .int .i64 0, .string (⟨#[]⟩ : ByteArray), .int .i64 0, .int .i64 0, .string (⟨#[]⟩ : ByteArray), .bool false, .slice none 0 0, .int .u64 t1004.1, .int .u64 t1010.1, .int .u64 0, .int .i64 0, .bool true, .int .i64 1] rfl (by kernel_rfl) (by kernel_rfl) (by kernel_rfl) (by kernel_rfl) (by kernel_rfl) (by kernel_rfl) (by kernel_rfl) ?_; clear ha HW a; intro a W1249 HW ha
                          refine stepp ha 116 (.pointer (some ⟨b1215, 8, none⟩)) (by kernel_rfl) (by kernel_rfl) ?_; clear ha a; intro a ha
                          refine stepst ha HW 1 (b := b1215) (C := #[.int .i64 8, .int .i64 0, .string (⟨#[]⟩ : ByteArray), .int .i64 0, .int .i64 0, .string (⟨#[]⟩ : ByteArray), .bool false, .slice none 0 0, .int .u64 t1004.1, .int .u64 t1010.1, .int .u64 0, .int .i64 0, .bool true, .int .i64 1]) (T := 26) (by kernel_rfl) 24 8 (.tmp 116) (.const (.int .u64 0)) (.int .u64 0) #[.int .i64 8, .int .i64 0, .string (⟨#[]⟩ : ByteArray), .int .i64 0, .int .i64 0, .string (⟨#[]⟩ : ByteArray), .bool false, .slice none 0 0, .int .u64 0, .int .u64 t1010.1, .int .u64 0, .int .i64 0, .bool true, .int .i64 1] rfl (by kernel_rfl) (by kernel_rfl) (by kernel_rfl) (by kernel_rfl) (by kernel_rfl) (by kernel_rfl) (by kernel_rfl) ?_; clear ha HW a; intro a W1250 HW ha
                          refine endl ?_
                          refine blkN ?_
                          refine thenN (hK1219 _ _ ?_); clear hK1219
                          refine wp_seq_k (fun K1279 hK1280 => ?_)
                          refine wp_region_lit ?_
                          refine stepl ha 137 (HW.ca (i := 1) (b := b1215) (C := #[.int .i64 8, .int .i64 0, .string (⟨#[]⟩ : ByteArray), .int .i64 0, .int .i64 0, .string (⟨#[]⟩ : ByteArray), .bool false, .slice none 0 0, .int .u64 0, .int .u64 t1010.1, .int .u64 0, .int .i64 0, .bool true, .int .i64 1]) (T := 26) (fr := (0, 0)) (by kernel_rfl)) 26 0 (.tmp 14) (.agg #[.int .i64 8, .int .i64 0, .string (⟨#[]⟩ : ByteArray), .int .i64 0, .int .i64 0, .string (⟨#[]⟩ : ByteArray), .bool false, .slice none 0 0, .int .u64 0, .int .u64 t1010.1, .int .u64 0, .int .i64 0, .bool true, .int .i64 1]) rfl (by kernel_rfl) (by kernel_rfl) (by kernel_rfl) ?_; clear ha a; intro a ha
                          refine stepst ha HW 0 (b := b976) (C := #[.int .i64 0, .int .i64 0, .string (⟨#[]⟩ : ByteArray), .int .i64 0, .int .i64 0, .string (⟨#[]⟩ : ByteArray), .bool false, .slice none 0 0, .int .u64 0, .int .u64 0, .int .u64 0, .int .i64 0, .bool false, .int .i64 0]) (T := 26) (by kernel_rfl) 26 0 (.tmp 6) (.tmp 137) (.agg #[.int .i64 8, .int .i64 0, .string (⟨#[]⟩ : ByteArray), .int .i64 0, .int .i64 0, .string (⟨#[]⟩ : ByteArray), .bool false, .slice none 0 0, .int .u64 0, .int .u64 t1010.1, .int .u64 0, .int .i64 0, .bool true, .int .i64 1]) #[.int .i64 8, .int .i64 0, .string (⟨#[]⟩ : ByteArray), .int .i64 0, .int .i64 0, .string (⟨#[]⟩ : ByteArray), .bool false, .slice none 0 0, .int .u64 0, .int .u64 t1010.1, .int .u64 0, .int .i64 0, .bool true, .int .i64 1] rfl (by kernel_rfl) (by kernel_rfl) (by kernel_rfl) (by kernel_rfl) (by kernel_rfl) (by kernel_rfl) (by kernel_rfl) ?_; clear ha HW a; intro a W1281 HW ha
                          refine stepp ha 7 (.int .i64 0) (by kernel_rfl) (by kernel_rfl) ?_; clear ha a; intro a ha
                          refine endl ?_
                          refine thenN (hK1280 _ _ ?_); clear hK1280
                          refine wp_ret ?_
                          obtain rfl := Option.some.inj h
                          replace HW := HW.nilo 61 2
                          exact finv ha _ _ rfl (.cell (ad := ⟨b976, 0, none⟩) (v := .agg #[.int .i64 8, .int .i64 0, .string (⟨#[]⟩ : ByteArray), .int .i64 0, .int .i64 0, .string (⟨#[]⟩ : ByteArray), .bool false, .slice none 0 0, .int .u64 0, .int .u64 t1010.1, .int .u64 0, .int .i64 0, .bool true, .int .i64 1]) (by kernel_rfl) (run_loadVar_ca0 (HW.ca (i := 0) (b := b976) (C := #[.int .i64 8, .int .i64 0, .string (⟨#[]⟩ : ByteArray), .int .i64 0, .int .i64 0, .string (⟨#[]⟩ : ByteArray), .bool false, .slice none 0 0, .int .u64 0, .int .u64 t1010.1, .int .u64 0, .int .i64 0, .bool true, .int .i64 1]) (T := 26) (fr := (0, 0)) (by kernel_rfl)) 26 0 (.agg #[.int .i64 8, .int .i64 0, .string (⟨#[]⟩ : ByteArray), .int .i64 0, .int .i64 0, .string (⟨#[]⟩ : ByteArray), .bool false, .slice none 0 0, .int .u64 0, .int .u64 t1010.1, .int .u64 0, .int .i64 0, .bool true, .int .i64 1]) (by kernel_rfl)) (.tmp (v := .int .i64 0) (by kernel_rfl) .nil)) (.tuple #[.agg #[.int .i64 8, .int .i64 0, .string (⟨#[]⟩ : ByteArray), .int .i64 0, .int .i64 0, .string (⟨#[]⟩ : ByteArray), .bool false, .slice none 0 0, .int .u64 0, .int .u64 t1010.1, .int .u64 0, .int .i64 0, .bool true, .int .i64 1], .int .i64 0]) rfl ⟨none, 0, rfl, HW.pick [] [0] (by decide) (by decide) rfl (by kernel_rfl)⟩
                        · skip
                          replace h := ite_neg' h hp1248
                          refine condF ha (by kernel_rfl) (by kernel_rfl) (t := (a0 == 6)) (ieq_f hp1248) ?_
                          refine wp_skip ?_
                          refine blkN ?_
                          refine thenN (hK1219 _ _ ?_); clear hK1219
                          refine wp_seq_k (fun K1283 hK1284 => ?_)
                          refine wp_region_lit ?_
                          refine stepl ha 137 (HW.ca (i := 1) (b := b1215) (C := #[.int .i64 8, .int .i64 0, .string (⟨#[]⟩ : ByteArray), .int .i64 0, .int .i64 0, .string (⟨#[]⟩ : ByteArray), .bool false, .slice none 0 0, .int .u64 t1004.1, .int .u64 t1010.1, .int .u64 0, .int .i64 0, .bool false, .int .i64 1]) (T := 26) (fr := (0, 0)) (by kernel_rfl)) 26 0 (.tmp 14) (.agg #[.int .i64 8, .int .i64 0, .string (⟨#[]⟩ : ByteArray), .int .i64 0, .int .i64 0, .string (⟨#[]⟩ : ByteArray), .bool false, .slice none 0 0, .int .u64 t1004.1, .int .u64 t1010.1, .int .u64 0, .int .i64 0, .bool false, .int .i64 1]) rfl (by kernel_rfl) (by kernel_rfl) (by kernel_rfl) ?_; clear ha a; intro a ha
                          refine stepst ha HW 0 (b := b976) (C := #[.int .i64 0, .int .i64 0, .string (⟨#[]⟩ : ByteArray), .int .i64 0, .int .i64 0, .string (⟨#[]⟩ : ByteArray), .bool false, .slice none 0 0, .int .u64 0, .int .u64 0, .int .u64 0, .int .i64 0, .bool false, .int .i64 0]) (T := 26) (by kernel_rfl) 26 0 (.tmp 6) (.tmp 137) (.agg #[.int .i64 8, .int .i64 0, .string (⟨#[]⟩ : ByteArray), .int .i64 0, .int .i64 0, .string (⟨#[]⟩ : ByteArray), .bool false, .slice none 0 0, .int .u64 t1004.1, .int .u64 t1010.1, .int .u64 0, .int .i64 0, .bool false, .int .i64 1]) #[.int .i64 8, .int .i64 0, .string (⟨#[]⟩ : ByteArray), .int .i64 0, .int .i64 0, .string (⟨#[]⟩ : ByteArray), .bool false, .slice none 0 0, .int .u64 t1004.1, .int .u64 t1010.1, .int .u64 0, .int .i64 0, .bool false, .int .i64 1] rfl (by kernel_rfl) (by kernel_rfl) (by kernel_rfl) (by kernel_rfl) (by kernel_rfl) (by kernel_rfl) (by kernel_rfl) ?_; clear ha HW a; intro a W1285 HW ha
                          refine stepp ha 7 (.int .i64 0) (by kernel_rfl) (by kernel_rfl) ?_; clear ha a; intro a ha
                          refine endl ?_
                          refine thenN (hK1284 _ _ ?_); clear hK1284
                          refine wp_ret ?_
                          obtain rfl := Option.some.inj h
                          replace HW := HW.nilo 61 2
                          exact finv ha _ _ rfl (.cell (ad := ⟨b976, 0, none⟩) (v := .agg #[.int .i64 8, .int .i64 0, .string (⟨#[]⟩ : ByteArray), .int .i64 0, .int .i64 0, .string (⟨#[]⟩ : ByteArray), .bool false, .slice none 0 0, .int .u64 t1004.1, .int .u64 t1010.1, .int .u64 0, .int .i64 0, .bool false, .int .i64 1]) (by kernel_rfl) (run_loadVar_ca0 (HW.ca (i := 0) (b := b976) (C := #[.int .i64 8, .int .i64 0, .string (⟨#[]⟩ : ByteArray), .int .i64 0, .int .i64 0, .string (⟨#[]⟩ : ByteArray), .bool false, .slice none 0 0, .int .u64 t1004.1, .int .u64 t1010.1, .int .u64 0, .int .i64 0, .bool false, .int .i64 1]) (T := 26) (fr := (0, 0)) (by kernel_rfl)) 26 0 (.agg #[.int .i64 8, .int .i64 0, .string (⟨#[]⟩ : ByteArray), .int .i64 0, .int .i64 0, .string (⟨#[]⟩ : ByteArray), .bool false, .slice none 0 0, .int .u64 t1004.1, .int .u64 t1010.1, .int .u64 0, .int .i64 0, .bool false, .int .i64 1]) (by kernel_rfl)) (.tmp (v := .int .i64 0) (by kernel_rfl) .nil)) (.tuple #[.agg #[.int .i64 8, .int .i64 0, .string (⟨#[]⟩ : ByteArray), .int .i64 0, .int .i64 0, .string (⟨#[]⟩ : ByteArray), .bool false, .slice none 0 0, .int .u64 t1004.1, .int .u64 t1010.1, .int .u64 0, .int .i64 0, .bool false, .int .i64 1], .int .i64 0]) rfl ⟨none, 0, rfl, HW.pick [] [0] (by decide) (by decide) rfl (by kernel_rfl)⟩
                    · skip
                      replace h := ite_neg' h hp1229
                      refine condF ha (by kernel_rfl) (by kernel_rfl) (t := x1227) (bool_f hp1229) ?_
                      refine wp_seq_k (fun K1251 hK1252 => ?_)
                      refine wp_region_lit ?_
                      refine stepp ha 118 (.bool (a0 == 1)) (by kernel_rfl) (by kernel_rfl) ?_; clear ha a; intro a ha
                      refine stepp ha 117 (.bool (a0 == 1)) (by kernel_rfl) (by kernel_rfl) ?_; clear ha a; intro a ha
                      refine endl ?_
                      refine thenN (hK1252 _ _ ?_); clear hK1252
                      by_cases hp1253 : a0 = 1
                      · skip
                        replace h := ite_pos' h hp1253
                        refine condT ha (by kernel_rfl) (by kernel_rfl) (t := (a0 == 1)) (ieq_t hp1253) ?_
                        refine wp_region_lit ?_
                        refine stepp ha 119 (.int .i64 a1) (by kernel_rfl) (by kernel_rfl) ?_; clear ha a; intro a ha
                        refine stepp ha 120 (.pointer (some ⟨b1215, 0, none⟩)) (by kernel_rfl) (by kernel_rfl) ?_; clear ha a; intro a ha
                        refine stepst ha HW 1 (b := b1215) (C := #[.int .i64 0, .int .i64 0, .string (⟨#[]⟩ : ByteArray), .int .i64 0, .int .i64 0, .string (⟨#[]⟩ : ByteArray), .bool false, .slice none 0 0, .int .u64 t1004.1, .int .u64 0, .int .u64 0, .int .i64 0, .bool false, .int .i64 0]) (T := 26) (by kernel_rfl) 3 0 (.tmp 120) (.const (.int .i64 9)) (.int .i64 9) #[.int .i64 9, .int .i64 0, .string (⟨#[]⟩ : ByteArray), .int .i64 0, .int .i64 0, .string (⟨#[]⟩ : ByteArray), .bool false, .slice none 0 0, .int .u64 t1004.1, .int .u64 0, .int .u64 0, .int .i64 0, .bool false, .int .i64 0] rfl (by kernel_rfl) (by kernel_rfl) (by kernel_rfl) (by kernel_rfl) (by kernel_rfl) (by kernel_rfl) (by kernel_rfl) ?_; clear ha HW a; intro a W1254 HW ha
                        refine stepp ha 121 (.pointer (some ⟨b1215, 11, none⟩)) (by kernel_rfl) (by kernel_rfl) ?_; clear ha a; intro a ha
                        refine stepst ha HW 1 (b := b1215) (C := #[.int .i64 9, .int .i64 0, .string (⟨#[]⟩ : ByteArray), .int .i64 0, .int .i64 0, .string (⟨#[]⟩ : ByteArray), .bool false, .slice none 0 0, .int .u64 t1004.1, .int .u64 0, .int .u64 0, .int .i64 0, .bool false, .int .i64 0]) (T := 26) (by kernel_rfl) 3 11 (.tmp 121) (.tmp 119) (.int .i64 a1) #[.int .i64 9, .int .i64 0, .string (⟨#[]⟩ : ByteArray), .int .i64 0, .int .i64 0, .string (⟨#[]⟩ : ByteArray), .bool false, .slice none 0 0, .int .u64 t1004.1, .int .u64 0, .int .u64 0, .int .i64 a1, .bool false, .int .i64 0] rfl (by kernel_rfl) (by kernel_rfl) (by kernel_rfl) (by kernel_rfl) (by kernel_rfl) (by kernel_rfl) (by kernel_rfl) ?_; clear ha HW a; intro a W1255 HW ha
                        refine endl ?_
                        refine blkN ?_
                        refine thenN (hK1219 _ _ ?_); clear hK1219
                        refine wp_seq_k (fun K1287 hK1288 => ?_)
                        refine wp_region_lit ?_
                        refine stepl ha 137 (HW.ca (i := 1) (b := b1215) (C := #[.int .i64 9, .int .i64 0, .string (⟨#[]⟩ : ByteArray), .int .i64 0, .int .i64 0, .string (⟨#[]⟩ : ByteArray), .bool false, .slice none 0 0, .int .u64 t1004.1, .int .u64 0, .int .u64 0, .int .i64 a1, .bool false, .int .i64 0]) (T := 26) (fr := (0, 0)) (by kernel_rfl)) 26 0 (.tmp 14) (.agg #[.int .i64 9, .int .i64 0, .string (⟨#[]⟩ : ByteArray), .int .i64 0, .int .i64 0, .string (⟨#[]⟩ : ByteArray), .bool false, .slice none 0 0, .int .u64 t1004.1, .int .u64 0, .int .u64 0, .int .i64 a1, .bool false, .int .i64 0]) rfl (by kernel_rfl) (by kernel_rfl) (by kernel_rfl) ?_; clear ha a; intro a ha
                        refine stepst ha HW 0 (b := b976) (C := #[.int .i64 0, .int .i64 0, .string (⟨#[]⟩ : ByteArray), .int .i64 0, .int .i64 0, .string (⟨#[]⟩ : ByteArray), .bool false, .slice none 0 0, .int .u64 0, .int .u64 0, .int .u64 0, .int .i64 0, .bool false, .int .i64 0]) (T := 26) (by kernel_rfl) 26 0 (.tmp 6) (.tmp 137) (.agg #[.int .i64 9, .int .i64 0, .string (⟨#[]⟩ : ByteArray), .int .i64 0, .int .i64 0, .string (⟨#[]⟩ : ByteArray), .bool false, .slice none 0 0, .int .u64 t1004.1, .int .u64 0, .int .u64 0, .int .i64 a1, .bool false, .int .i64 0]) #[.int .i64 9, .int .i64 0, .string (⟨#[]⟩ : ByteArray), .int .i64 0, .int .i64 0, .string (⟨#[]⟩ : ByteArray), .bool false, .slice none 0 0, .int .u64 t1004.1, .int .u64 0, .int .u64 0, .int .i64 a1, .bool false, .int .i64 0] rfl (by kernel_rfl) (by kernel_rfl) (by kernel_rfl) (by kernel_rfl) (by kernel_rfl) (by kernel_rfl) (by kernel_rfl) ?_; clear ha HW a; intro a W1289 HW ha
                        refine stepp ha 7 (.int .i64 0) (by kernel_rfl) (by kernel_rfl) ?_; clear ha a; intro a ha
                        refine endl ?_
                        refine thenN (hK1288 _ _ ?_); clear hK1288
                        refine wp_ret ?_
                        obtain rfl := Option.some.inj h
                        replace HW := HW.nilo 61 2
                        exact finv ha _ _ rfl (.cell (ad := ⟨b976, 0, none⟩) (v := .agg #[.int .i64 9, .int .i64 0, .string (⟨#[]⟩ : ByteArray), .int .i64 0, .int .i64 0, .string (⟨#[]⟩ : ByteArray), .bool false, .slice none 0 0, .int .u64 t1004.1, .int .u64 0, .int .u64 0, .int .i64 a1, .bool false, .int .i64 0]) (by kernel_rfl) (run_loadVar_ca0 (HW.ca (i := 0) (b := b976) (C := #[.int .i64 9, .int .i64 0, .string (⟨#[]⟩ : ByteArray), .int .i64 0, .int .i64 0, .string (⟨#[]⟩ : ByteArray), .bool false, .slice none 0 0, .int .u64 t1004.1, .int .u64 0, .int .u64 0, .int .i64 a1, .bool false, .int .i64 0]) (T := 26) (fr := (0, 0)) (by kernel_rfl)) 26 0 (.agg #[.int .i64 9, .int .i64 0, .string (⟨#[]⟩ : ByteArray), .int .i64 0, .int .i64 0, .string (⟨#[]⟩ : ByteArray), .bool false, .slice none 0 0, .int .u64 t1004.1, .int .u64 0, .int .u64 0, .int .i64 a1, .bool false, .int .i64 0]) (by kernel_rfl)) (.tmp (v := .int .i64 0) (by kernel_rfl) .nil)) (.tuple #[.agg #[.int .i64 9, .int .i64 0, .string (⟨#[]⟩ : ByteArray), .int .i64 0, .int .i64 0, .string (⟨#[]⟩ : ByteArray), .bool false, .slice none 0 0, .int .u64 t1004.1, .int .u64 0, .int .u64 0, .int .i64 a1, .bool false, .int .i64 0], .int .i64 0]) rfl ⟨none, 0, rfl, HW.pick [] [0] (by decide) (by decide) rfl (by kernel_rfl)⟩
                      · skip
                        replace h := ite_neg' h hp1253
                        refine condF ha (by kernel_rfl) (by kernel_rfl) (t := (a0 == 1)) (ieq_f hp1253) ?_
                        refine wp_seq_k (fun K1256 hK1257 => ?_)
                        refine wp_region_lit ?_
                        refine stepp ha 123 (.bool (a0 == 2)) (by kernel_rfl) (by kernel_rfl) ?_; clear ha a; intro a ha
                        refine stepp ha 122 (.bool (a0 == 2)) (by kernel_rfl) (by kernel_rfl) ?_; clear ha a; intro a ha
                        refine endl ?_
                        refine thenN (hK1257 _ _ ?_); clear hK1257
                        by_cases hp1258 : a0 = 2
                        · skip
                          replace h := ite_pos' h hp1258
                          refine condT ha (by kernel_rfl) (by kernel_rfl) (t := (a0 == 2)) (ieq_t hp1258) ?_
                          refine wp_region_lit ?_
                          refine stepp ha 124 (.int .i64 a1) (by kernel_rfl) (by kernel_rfl) ?_; clear ha a; intro a ha
                          refine stepp ha 125 (.pointer (some ⟨b1215, 0, none⟩)) (by kernel_rfl) (by kernel_rfl) ?_; clear ha a; intro a ha
                          refine stepst ha HW 1 (b := b1215) (C := #[.int .i64 0, .int .i64 0, .string (⟨#[]⟩ : ByteArray), .int .i64 0, .int .i64 0, .string (⟨#[]⟩ : ByteArray), .bool false, .slice none 0 0, .int .u64 t1004.1, .int .u64 0, .int .u64 0, .int .i64 0, .bool false, .int .i64 0]) (T := 26) (by kernel_rfl) 3 0 (.tmp 125) (.const (.int .i64 10)) (.int .i64 10) #[.int .i64 10, .int .i64 0, .string (⟨#[]⟩ : ByteArray), .int .i64 0, .int .i64 0, .string (⟨#[]⟩ : ByteArray), .bool false, .slice none 0 0, .int .u64 t1004.1, .int .u64 0, .int .u64 0, .int .i64 0, .bool false, .int .i64 0] rfl (by kernel_rfl) (by kernel_rfl) (by kernel_rfl) (by kernel_rfl) (by kernel_rfl) (by kernel_rfl) (by kernel_rfl) ?_; clear ha HW a; intro a W1259 HW ha
                          refine stepp ha 126 (.pointer (some ⟨b1215, 11, none⟩)) (by kernel_rfl) (by kernel_rfl) ?_; clear ha a; intro a ha
                          refine stepst ha HW 1 (b := b1215) (C := #[.int .i64 10, .int .i64 0, .string (⟨#[]⟩ : ByteArray), .int .i64 0, .int .i64 0, .string (⟨#[]⟩ : ByteArray), .bool false, .slice none 0 0, .int .u64 t1004.1, .int .u64 0, .int .u64 0, .int .i64 0, .bool false, .int .i64 0]) (T := 26) (by kernel_rfl) 3 11 (.tmp 126) (.tmp 124) (.int .i64 a1) #[.int .i64 10, .int .i64 0, .string (⟨#[]⟩ : ByteArray), .int .i64 0, .int .i64 0, .string (⟨#[]⟩ : ByteArray), .bool false, .slice none 0 0, .int .u64 t1004.1, .int .u64 0, .int .u64 0, .int .i64 a1, .bool false, .int .i64 0] rfl (by kernel_rfl) (by kernel_rfl) (by kernel_rfl) (by kernel_rfl) (by kernel_rfl) (by kernel_rfl) (by kernel_rfl) ?_; clear ha HW a; intro a W1260 HW ha
                          refine endl ?_
                          refine blkN ?_
                          refine thenN (hK1219 _ _ ?_); clear hK1219
                          refine wp_seq_k (fun K1291 hK1292 => ?_)
                          refine wp_region_lit ?_
                          refine stepl ha 137 (HW.ca (i := 1) (b := b1215) (C := #[.int .i64 10, .int .i64 0, .string (⟨#[]⟩ : ByteArray), .int .i64 0, .int .i64 0, .string (⟨#[]⟩ : ByteArray), .bool false, .slice none 0 0, .int .u64 t1004.1, .int .u64 0, .int .u64 0, .int .i64 a1, .bool false, .int .i64 0]) (T := 26) (fr := (0, 0)) (by kernel_rfl)) 26 0 (.tmp 14) (.agg #[.int .i64 10, .int .i64 0, .string (⟨#[]⟩ : ByteArray), .int .i64 0, .int .i64 0, .string (⟨#[]⟩ : ByteArray), .bool false, .slice none 0 0, .int .u64 t1004.1, .int .u64 0, .int .u64 0, .int .i64 a1, .bool false, .int .i64 0]) rfl (by kernel_rfl) (by kernel_rfl) (by kernel_rfl) ?_; clear ha a; intro a ha
                          refine stepst ha HW 0 (b := b976) (C := #[.int .i64 0, .int .i64 0, .string (⟨#[]⟩ : ByteArray), .int .i64 0, .int .i64 0, .string (⟨#[]⟩ : ByteArray), .bool false, .slice none 0 0, .int .u64 0, .int .u64 0, .int .u64 0, .int .i64 0, .bool false, .int .i64 0]) (T := 26) (by kernel_rfl) 26 0 (.tmp 6) (.tmp 137) (.agg #[.int .i64 10, .int .i64 0, .string (⟨#[]⟩ : ByteArray), .int .i64 0, .int .i64 0, .string (⟨#[]⟩ : ByteArray), .bool false, .slice none 0 0, .int .u64 t1004.1, .int .u64 0, .int .u64 0, .int .i64 a1, .bool false, .int .i64 0]) #[.int .i64 10, .int .i64 0, .string (⟨#[]⟩ : ByteArray), .int .i64 0, .int .i64 0, .string (⟨#[]⟩ : ByteArray), .bool false, .slice none 0 0, .int .u64 t1004.1, .int .u64 0, .int .u64 0, .int .i64 a1, .bool false, .int .i64 0] rfl (by kernel_rfl) (by kernel_rfl) (by kernel_rfl) (by kernel_rfl) (by kernel_rfl) (by kernel_rfl) (by kernel_rfl) ?_; clear ha HW a; intro a W1293 HW ha
                          refine stepp ha 7 (.int .i64 0) (by kernel_rfl) (by kernel_rfl) ?_; clear ha a; intro a ha
                          refine endl ?_
                          refine thenN (hK1292 _ _ ?_); clear hK1292
                          refine wp_ret ?_
                          obtain rfl := Option.some.inj h
                          replace HW := HW.nilo 61 2
                          exact finv ha _ _ rfl (.cell (ad := ⟨b976, 0, none⟩) (v := .agg #[.int .i64 10, .int .i64 0, .string (⟨#[]⟩ : ByteArray), .int .i64 0, .int .i64 0, .string (⟨#[]⟩ : ByteArray), .bool false, .slice none 0 0, .int .u64 t1004.1, .int .u64 0, .int .u64 0, .int .i64 a1, .bool false, .int .i64 0]) (by kernel_rfl) (run_loadVar_ca0 (HW.ca (i := 0) (b := b976) (C := #[.int .i64 10, .int .i64 0, .string (⟨#[]⟩ : ByteArray), .int .i64 0, .int .i64 0, .string (⟨#[]⟩ : ByteArray), .bool false, .slice none 0 0, .int .u64 t1004.1, .int .u64 0, .int .u64 0, .int .i64 a1, .bool false, .int .i64 0]) (T := 26) (fr := (0, 0)) (by kernel_rfl)) 26 0 (.agg #[.int .i64 10, .int .i64 0, .string (⟨#[]⟩ : ByteArray), .int .i64 0, .int .i64 0, .string (⟨#[]⟩ : ByteArray), .bool false, .slice none 0 0, .int .u64 t1004.1, .int .u64 0, .int .u64 0, .int .i64 a1, .bool false, .int .i64 0]) (by kernel_rfl)) (.tmp (v := .int .i64 0) (by kernel_rfl) .nil)) (.tuple #[.agg #[.int .i64 10, .int .i64 0, .string (⟨#[]⟩ : ByteArray), .int .i64 0, .int .i64 0, .string (⟨#[]⟩ : ByteArray), .bool false, .slice none 0 0, .int .u64 t1004.1, .int .u64 0, .int .u64 0, .int .i64 a1, .bool false, .int .i64 0], .int .i64 0]) rfl ⟨none, 0, rfl, HW.pick [] [0] (by decide) (by decide) rfl (by kernel_rfl)⟩
                        · skip
                          replace h := ite_neg' h hp1258
                          refine condF ha (by kernel_rfl) (by kernel_rfl) (t := (a0 == 2)) (ieq_f hp1258) ?_
                          refine wp_seq_k (fun K1261 hK1262 => ?_)
                          refine wp_region_lit ?_
                          refine stepp ha 128 (.bool (a0 == 3)) (by kernel_rfl) (by kernel_rfl) ?_; clear ha a; intro a ha
                          refine stepp ha 127 (.bool (a0 == 3)) (by kernel_rfl) (by kernel_rfl) ?_; clear ha a; intro a ha
                          refine endl ?_
                          refine thenN (hK1262 _ _ ?_); clear hK1262
                          by_cases hp1263 : a0 = 3
                          · skip
                            replace h := ite_pos' h hp1263
                            refine condT ha (by kernel_rfl) (by kernel_rfl) (t := (a0 == 3)) (ieq_t hp1263) ?_
                            refine wp_region_lit ?_
                            refine stepp ha 129 (.pointer (some ⟨b1215, 0, none⟩)) (by kernel_rfl) (by kernel_rfl) ?_; clear ha a; intro a ha
                            refine stepst ha HW 1 (b := b1215) (C := #[.int .i64 0, .int .i64 0, .string (⟨#[]⟩ : ByteArray), .int .i64 0, .int .i64 0, .string (⟨#[]⟩ : ByteArray), .bool false, .slice none 0 0, .int .u64 t1004.1, .int .u64 0, .int .u64 0, .int .i64 0, .bool false, .int .i64 0]) (T := 26) (by kernel_rfl) 3 0 (.tmp 129) (.const (.int .i64 11)) (.int .i64 11) #[.int .i64 11, .int .i64 0, .string (⟨#[]⟩ : ByteArray), .int .i64 0, .int .i64 0, .string (⟨#[]⟩ : ByteArray), .bool false, .slice none 0 0, .int .u64 t1004.1, .int .u64 0, .int .u64 0, .int .i64 0, .bool false, .int .i64 0] rfl (by kernel_rfl) (by kernel_rfl) (by kernel_rfl) (by kernel_rfl) (by kernel_rfl) (by kernel_rfl) (by kernel_rfl) ?_; clear ha HW a; intro a W1264 HW ha
                            refine endl ?_
                            refine blkN ?_
                            refine thenN (hK1219 _ _ ?_); clear hK1219
                            refine wp_seq_k (fun K1295 hK1296 => ?_)
                            refine wp_region_lit ?_
                            refine stepl ha 137 (HW.ca (i := 1) (b := b1215) (C := #[.int .i64 11, .int .i64 0, .string (⟨#[]⟩ : ByteArray), .int .i64 0, .int .i64 0, .string (⟨#[]⟩ : ByteArray), .bool false, .slice none 0 0, .int .u64 t1004.1, .int .u64 0, .int .u64 0, .int .i64 0, .bool false, .int .i64 0]) (T := 26) (fr := (0, 0)) (by kernel_rfl)) 26 0 (.tmp 14) (.agg #[.int .i64 11, .int .i64 0, .string (⟨#[]⟩ : ByteArray), .int .i64 0, .int .i64 0, .string (⟨#[]⟩ : ByteArray), .bool false, .slice none 0 0, .int .u64 t1004.1, .int .u64 0, .int .u64 0, .int .i64 0, .bool false, .int .i64 0]) rfl (by kernel_rfl) (by kernel_rfl) (by kernel_rfl) ?_; clear ha a; intro a ha
                            refine stepst ha HW 0 (b := b976) (C := #[.int .i64 0, .int .i64 0, .string (⟨#[]⟩ : ByteArray), .int .i64 0, .int .i64 0, .string (⟨#[]⟩ : ByteArray), .bool false, .slice none 0 0, .int .u64 0, .int .u64 0, .int .u64 0, .int .i64 0, .bool false, .int .i64 0]) (T := 26) (by kernel_rfl) 26 0 (.tmp 6) (.tmp 137) (.agg #[.int .i64 11, .int .i64 0, .string (⟨#[]⟩ : ByteArray), .int .i64 0, .int .i64 0, .string (⟨#[]⟩ : ByteArray), .bool false, .slice none 0 0, .int .u64 t1004.1, .int .u64 0, .int .u64 0, .int .i64 0, .bool false, .int .i64 0]) #[.int .i64 11, .int .i64 0, .string (⟨#[]⟩ : ByteArray), .int .i64 0, .int .i64 0, .string (⟨#[]⟩ : ByteArray), .bool false, .slice none 0 0, .int .u64 t1004.1, .int .u64 0, .int .u64 0, .int .i64 0, .bool false, .int .i64 0] rfl (by kernel_rfl) (by kernel_rfl) (by kernel_rfl) (by kernel_rfl) (by kernel_rfl) (by kernel_rfl) (by kernel_rfl) ?_; clear ha HW a; intro a W1297 HW ha
                            refine stepp ha 7 (.int .i64 0) (by kernel_rfl) (by kernel_rfl) ?_; clear ha a; intro a ha
                            refine endl ?_
                            refine thenN (hK1296 _ _ ?_); clear hK1296
                            refine wp_ret ?_
                            obtain rfl := Option.some.inj h
                            replace HW := HW.nilo 61 2
                            exact finv ha _ _ rfl (.cell (ad := ⟨b976, 0, none⟩) (v := .agg #[.int .i64 11, .int .i64 0, .string (⟨#[]⟩ : ByteArray), .int .i64 0, .int .i64 0, .string (⟨#[]⟩ : ByteArray), .bool false, .slice none 0 0, .int .u64 t1004.1, .int .u64 0, .int .u64 0, .int .i64 0, .bool false, .int .i64 0]) (by kernel_rfl) (run_loadVar_ca0 (HW.ca (i := 0) (b := b976) (C := #[.int .i64 11, .int .i64 0, .string (⟨#[]⟩ : ByteArray), .int .i64 0, .int .i64 0, .string (⟨#[]⟩ : ByteArray), .bool false, .slice none 0 0, .int .u64 t1004.1, .int .u64 0, .int .u64 0, .int .i64 0, .bool false, .int .i64 0]) (T := 26) (fr := (0, 0)) (by kernel_rfl)) 26 0 (.agg #[.int .i64 11, .int .i64 0, .string (⟨#[]⟩ : ByteArray), .int .i64 0, .int .i64 0, .string (⟨#[]⟩ : ByteArray), .bool false, .slice none 0 0, .int .u64 t1004.1, .int .u64 0, .int .u64 0, .int .i64 0, .bool false, .int .i64 0]) (by kernel_rfl)) (.tmp (v := .int .i64 0) (by kernel_rfl) .nil)) (.tuple #[.agg #[.int .i64 11, .int .i64 0, .string (⟨#[]⟩ : ByteArray), .int .i64 0, .int .i64 0, .string (⟨#[]⟩ : ByteArray), .bool false, .slice none 0 0, .int .u64 t1004.1, .int .u64 0, .int .u64 0, .int .i64 0, .bool false, .int .i64 0], .int .i64 0]) rfl ⟨none, 0, rfl, HW.pick [] [0] (by decide) (by decide) rfl (by kernel_rfl)⟩
                          · skip
                            replace h := ite_neg' h hp1263
                            refine condF ha (by kernel_rfl) (by kernel_rfl) (t := (a0 == 3)) (ieq_f hp1263) ?_
                            refine wp_seq_k (fun K1265 hK1266 => ?_)
                            refine wp_region_lit ?_
                            refine stepp ha 131 (.bool (a0 == 4)) (by kernel_rfl) (by kernel_rfl) ?_; clear ha a; intro a ha
                            refine stepp ha 130 (.bool (a0 == 4)) (by kernel_rfl) (by kernel_rfl) ?_; clear ha a; intro a ha
                            refine endl ?_
                            refine thenN (hK1266 _ _ ?_); clear hK1266
                            by_cases hp1267 : a0 = 4
                            · skip
                              replace h := ite_pos' h hp1267
                              refine condT ha (by kernel_rfl) (by kernel_rfl) (t := (a0 == 4)) (ieq_t hp1267) ?_
                              refine wp_region_lit ?_
                              refine stepp ha 132 (.int .i64 a1) (by kernel_rfl) (by kernel_rfl) ?_; clear ha a; intro a ha
                              refine stepp ha 133 (.int .u64 t1010.1) (by kernel_rfl) (by kernel_rfl) ?_; clear ha a; intro a ha
                              refine stepp ha 134 (.pointer (some ⟨b1215, 0, none⟩)) (by kernel_rfl) (by kernel_rfl) ?_; clear ha a; intro a ha
                              refine stepst ha HW 1 (b := b1215) (C := #[.int .i64 0, .int .i64 0, .string (⟨#[]⟩ : ByteArray), .int .i64 0, .int .i64 0, .string (⟨#[]⟩ : ByteArray), .bool false, .slice none 0 0, .int .u64 t1004.1, .int .u64 0, .int .u64 0, .int .i64 0, .bool false, .int .i64 0]) (T := 26) (by kernel_rfl) 3 0 (.tmp 134) (.const (.int .i64 12)) (.int .i64 12) #[.int .i64 12, .int .i64 0, .string (⟨#[]⟩ : ByteArray), .int .i64 0, .int .i64 0, .string (⟨#[]⟩ : ByteArray), .bool false, .slice none 0 0, .int .u64 t1004.1, .int .u64 0, .int .u64 0, .int .i64 0, .bool false, .int .i64 0] rfl (by kernel_rfl) (by kernel_rfl) (by kernel_rfl) (by kernel_rfl) (by kernel_rfl) (by kernel_rfl) (by kernel_rfl) ?_; clear ha HW a; intro a W1268 HW ha
                              refine stepp ha 135 (.pointer (some ⟨b1215, 11, none⟩)) (by kernel_rfl) (by kernel_rfl) ?_; clear ha a; intro a ha
                              refine stepst ha HW 1 (b := b1215) (C := #[.int .i64 12, .int .i64 0, .string (⟨#[]⟩ : ByteArray), .int .i64 0, .int .i64 0, .string (⟨#[]⟩ : ByteArray), .bool false, .slice none 0 0, .int .u64 t1004.1, .int .u64 0, .int .u64 0, .int .i64 0, .bool false, .int .i64 0]) (T := 26) (by kernel_rfl) 3 11 (.tmp 135) (.tmp 132) (.int .i64 a1) #[.int .i64 12, .int .i64 0, .string (⟨#[]⟩ : ByteArray), .int .i64 0, .int .i64 0, .string (⟨#[]⟩ : ByteArray), .bool false, .slice none 0 0, .int .u64 t1004.1, .int .u64 0, .int .u64 0, .int .i64 a1, .bool false, .int .i64 0] rfl (by kernel_rfl) (by kernel_rfl) (by kernel_rfl) (by kernel_rfl) (by kernel_rfl) (by kernel_rfl) (by kernel_rfl) ?_; clear ha HW a; intro a W1269 HW ha
                              refine stepp ha 136 (.pointer (some ⟨b1215, 10, none⟩)) (by kernel_rfl) (by kernel_rfl) ?_; clear ha a; intro a ha
                              refine stepst ha HW 1 (b := b1215) (C := #[.int .i64 12, .int .i64 0, .string (⟨#[]⟩ : ByteArray), .int .i64 0, .int .i64 0, .string (⟨#[]⟩ : ByteArray), .bool false, .slice none 0 0, .int .u64 t1004.1, .int .u64 0, .int .u64 0, .int .i64 a1, .bool false, .int .i64 0]) (T := 26) (by kernel_rfl) 24 10 (.tmp 136) (.tmp 133) (.int .u64 t1010.1) #[.int .i64 12, .int .i64 0, .string (⟨#[]⟩ : ByteArray), .int .i64 0, .int .i64 0, .string (⟨#[]⟩ : ByteArray), .bool false, .slice none 0 0, .int .u64 t1004.1, .int .u64 0, .int .u64 t1010.1, .int .i64 a1, .bool false, .int .i64 0] rfl (by kernel_rfl) (by kernel_rfl) (by kernel_rfl) (by kernel_rfl) (by kernel_rfl) (by kernel_rfl) (by kernel_rfl) ?_; clear ha HW a; intro a W1270 HW ha
                              refine endl ?_
                              refine blkN ?_
                              refine thenN (hK1219 _ _ ?_); clear hK1219
                              refine wp_seq_k (fun K1299 hK1300 => ?_)
                              refine wp_region_lit ?_
                              refine stepl ha 137 (HW.ca (i := 1) (b := b1215) (C := #[.int .i64 12, .int .i64 0, .string (⟨#[]⟩ : ByteArray), .int .i64 0, .int .i64 0, .string (⟨#[]⟩ : ByteArray), .bool false, .slice none 0 0, .int .u64 t1004.1, .int .u64 0, .int .u64 t1010.1, .int .i64 a1, .bool false, .int .i64 0]) (T := 26) (fr := (0, 0)) (by kernel_rfl)) 26 0 (.tmp 14) (.agg #[.int .i64 12, .int .i64 0, .string (⟨#[]⟩ : ByteArray), .int .i64 0, .int .i64 0, .string (⟨#[]⟩ : ByteArray), .bool false, .slice none 0 0, .int .u64 t1004.1, .int .u64 0, .int .u64 t1010.1, .int .i64 a1, .bool false, .int .i64 0]) rfl (by kernel_rfl) (by kernel_rfl) (by kernel_rfl) ?_; clear ha a; intro a ha
                              refine stepst ha HW 0 (b := b976) (C := #[.int .i64 0, .int .i64 0, .string (⟨#[]⟩ : ByteArray), .int .i64 0, .int .i64 0, .string (⟨#[]⟩ : ByteArray), .bool false, .slice none 0 0, .int .u64 0, .int .u64 0, .int .u64 0, .int .i64 0, .bool false, .int .i64 0]) (T := 26) (by kernel_rfl) 26 0 (.tmp 6) (.tmp 137) (.agg #[.int .i64 12, .int .i64 0, .string (⟨#[]⟩ : ByteArray), .int .i64 0, .int .i64 0, .string (⟨#[]⟩ : ByteArray), .bool false, .slice none 0 0, .int .u64 t1004.1, .int .u64 0, .int .u64 t1010.1, .int .i64 a1, .bool false, .int .i64 0]) #[.int .i64 12, .int .i64 0, .string (⟨#[]⟩ : ByteArray), .int .i64 0, .int .i64 0, .string (⟨#[]⟩ : ByteArray), .bool false, .slice none 0 0, .int .u64 t1004.1, .int .u64 0, .int .u64 t1010.1, .int .i64 a1, .bool false, .int .i64 0] rfl (by kernel_rfl) (by kernel_rfl) (by kernel_rfl) (by kernel_rfl) (by kernel_rfl) (by kernel_rfl) (by kernel_rfl) ?_; clear ha HW a; intro a W1301 HW ha
                              refine stepp ha 7 (.int .i64 0) (by kernel_rfl) (by kernel_rfl) ?_; clear ha a; intro a ha
                              refine endl ?_
                              refine thenN (hK1300 _ _ ?_); clear hK1300
                              refine wp_ret ?_
                              obtain rfl := Option.some.inj h
                              replace HW := HW.nilo 61 2
                              exact finv ha _ _ rfl (.cell (ad := ⟨b976, 0, none⟩) (v := .agg #[.int .i64 12, .int .i64 0, .string (⟨#[]⟩ : ByteArray), .int .i64 0, .int .i64 0, .string (⟨#[]⟩ : ByteArray), .bool false, .slice none 0 0, .int .u64 t1004.1, .int .u64 0, .int .u64 t1010.1, .int .i64 a1, .bool false, .int .i64 0]) (by kernel_rfl) (run_loadVar_ca0 (HW.ca (i := 0) (b := b976) (C := #[.int .i64 12, .int .i64 0, .string (⟨#[]⟩ : ByteArray), .int .i64 0, .int .i64 0, .string (⟨#[]⟩ : ByteArray), .bool false, .slice none 0 0, .int .u64 t1004.1, .int .u64 0, .int .u64 t1010.1, .int .i64 a1, .bool false, .int .i64 0]) (T := 26) (fr := (0, 0)) (by kernel_rfl)) 26 0 (.agg #[.int .i64 12, .int .i64 0, .string (⟨#[]⟩ : ByteArray), .int .i64 0, .int .i64 0, .string (⟨#[]⟩ : ByteArray), .bool false, .slice none 0 0, .int .u64 t1004.1, .int .u64 0, .int .u64 t1010.1, .int .i64 a1, .bool false, .int .i64 0]) (by kernel_rfl)) (.tmp (v := .int .i64 0) (by kernel_rfl) .nil)) (.tuple #[.agg #[.int .i64 12, .int .i64 0, .string (⟨#[]⟩ : ByteArray), .int .i64 0, .int .i64 0, .string (⟨#[]⟩ : ByteArray), .bool false, .slice none 0 0, .int .u64 t1004.1, .int .u64 0, .int .u64 t1010.1, .int .i64 a1, .bool false, .int .i64 0], .int .i64 0]) rfl ⟨none, 0, rfl, HW.pick [] [0] (by decide) (by decide) rfl (by kernel_rfl)⟩
                            · skip
                              replace h := ite_neg' h hp1267
                              refine condF ha (by kernel_rfl) (by kernel_rfl) (t := (a0 == 4)) (ieq_f hp1267) ?_
                              refine wp_skip ?_
                              refine blkN ?_
                              refine thenN (hK1219 _ _ ?_); clear hK1219
                              refine wp_seq_k (fun K1303 hK1304 => ?_)
                              refine wp_region_lit ?_
                              refine stepl ha 137 (HW.ca (i := 1) (b := b1215) (C := #[.int .i64 0, .int .i64 0, .string (⟨#[]⟩ : ByteArray), .int .i64 0, .int .i64 0, .string (⟨#[]⟩ : ByteArray), .bool false, .slice none 0 0, .int .u64 t1004.1, .int .u64 0, .int .u64 0, .int .i64 0, .bool false, .int .i64 0]) (T := 26) (fr := (0, 0)) (by kernel_rfl)) 26 0 (.tmp 14) (.agg #[.int .i64 0, .int .i64 0, .string (⟨#[]⟩ : ByteArray), .int .i64 0, .int .i64 0, .string (⟨#[]⟩ : ByteArray), .bool false, .slice none 0 0, .int .u64 t1004.1, .int .u64 0, .int .u64 0, .int .i64 0, .bool false, .int .i64 0]) rfl (by kernel_rfl) (by kernel_rfl) (by kernel_rfl) ?_; clear ha a; intro a ha
                              refine stepst ha HW 0 (b := b976) (C := #[.int .i64 0, .int .i64 0, .string (⟨#[]⟩ : ByteArray), .int .i64 0, .int .i64 0, .string (⟨#[]⟩ : ByteArray), .bool false, .slice none 0 0, .int .u64 0, .int .u64 0, .int .u64 0, .int .i64 0, .bool false, .int .i64 0]) (T := 26) (by kernel_rfl) 26 0 (.tmp 6) (.tmp 137) (.agg #[.int .i64 0, .int .i64 0, .string (⟨#[]⟩ : ByteArray), .int .i64 0, .int .i64 0, .string (⟨#[]⟩ : ByteArray), .bool false, .slice none 0 0, .int .u64 t1004.1, .int .u64 0, .int .u64 0, .int .i64 0, .bool false, .int .i64 0]) #[.int .i64 0, .int .i64 0, .string (⟨#[]⟩ : ByteArray), .int .i64 0, .int .i64 0, .string (⟨#[]⟩ : ByteArray), .bool false, .slice none 0 0, .int .u64 t1004.1, .int .u64 0, .int .u64 0, .int .i64 0, .bool false, .int .i64 0] rfl (by kernel_rfl) (by kernel_rfl) (by kernel_rfl) (by kernel_rfl) (by kernel_rfl) (by kernel_rfl) (by kernel_rfl) ?_; clear ha HW a; intro a W1305 HW ha
                              refine stepp ha 7 (.int .i64 0) (by kernel_rfl) (by kernel_rfl) ?_; clear ha a; intro a ha
                              refine endl ?_
                              refine thenN (hK1304 _ _ ?_); clear hK1304
                              refine wp_ret ?_
                              obtain rfl := Option.some.inj h
                              replace HW := HW.nilo 61 2
                              exact finv ha _ _ rfl (.cell (ad := ⟨b976, 0, none⟩) (v := .agg #[.int .i64 0, .int .i64 0, .string (⟨#[]⟩ : ByteArray), .int .i64 0, .int .i64 0, .string (⟨#[]⟩ : ByteArray), .bool false, .slice none 0 0, .int .u64 t1004.1, .int .u64 0, .int .u64 0, .int .i64 0, .bool false, .int .i64 0]) (by kernel_rfl) (run_loadVar_ca0 (HW.ca (i := 0) (b := b976) (C := #[.int .i64 0, .int .i64 0, .string (⟨#[]⟩ : ByteArray), .int .i64 0, .int .i64 0, .string (⟨#[]⟩ : ByteArray), .bool false, .slice none 0 0, .int .u64 t1004.1, .int .u64 0, .int .u64 0, .int .i64 0, .bool false, .int .i64 0]) (T := 26) (fr := (0, 0)) (by kernel_rfl)) 26 0 (.agg #[.int .i64 0, .int .i64 0, .string (⟨#[]⟩ : ByteArray), .int .i64 0, .int .i64 0, .string (⟨#[]⟩ : ByteArray), .bool false, .slice none 0 0, .int .u64 t1004.1, .int .u64 0, .int .u64 0, .int .i64 0, .bool false, .int .i64 0]) (by kernel_rfl)) (.tmp (v := .int .i64 0) (by kernel_rfl) .nil)) (.tuple #[.agg #[.int .i64 0, .int .i64 0, .string (⟨#[]⟩ : ByteArray), .int .i64 0, .int .i64 0, .string (⟨#[]⟩ : ByteArray), .bool false, .slice none 0 0, .int .u64 t1004.1, .int .u64 0, .int .u64 0, .int .i64 0, .bool false, .int .i64 0], .int .i64 0]) rfl ⟨none, 0, rfl, HW.pick [] [0] (by decide) (by decide) rfl (by kernel_rfl)⟩
  · skip
    replace h := ite_neg' h hp982
    replace ha := ha.bool 18 (by kernel_rfl) (ineq_t hp982)
    refine stepo ha 19 (by kernel_rfl) ?_; clear ha a; intro a ha
    refine stepo ha 20 (by kernel_rfl) ?_; clear ha a; intro a ha
    refine stepp ha 21 (.bool true) (by kernel_rfl) (by kernel_rfl) ?_; clear ha a; intro a ha
    refine stepp ha 22 (.bool true) (by kernel_rfl) (by kernel_rfl) ?_; clear ha a; intro a ha
    refine stepo ha 23 (by kernel_rfl) ?_; clear ha a; intro a ha
    refine stepo ha 24 (by kernel_rfl) ?_; clear ha a; intro a ha
    refine stepp ha 25 (.bool true) (by kernel_rfl) (by kernel_rfl) ?_; clear ha a; intro a ha
    refine stepp ha 26 (.bool true) (by kernel_rfl) (by kernel_rfl) ?_; clear ha a; intro a ha
    refine stepo ha 27 (by kernel_rfl) ?_; clear ha a; intro a ha
    refine stepo ha 28 (by kernel_rfl) ?_; clear ha a; intro a ha
    refine stepp ha 29 (.bool true) (by kernel_rfl) (by kernel_rfl) ?_; clear ha a; intro a ha
    refine endl ?_
    refine thenN (hK981 _ _ ?_); clear hK981
    refine condT ha (by kernel_rfl) (by kernel_rfl) (t := true) (rfl) ?_
    refine wp_seq_k (fun K998 hK999 => ?_)
    refine wp_region_lit ?_
    refine stepp ha 30 (.agg #[.int .i64 0, .int .i64 0, .string (⟨#[]⟩ : ByteArray), .int .i64 0, .int .i64 0, .string (⟨#[]⟩ : ByteArray), .bool false, .slice none 0 0, .int .u64 0, .int .u64 0, .int .u64 0, .int .i64 0, .bool false, .int .i64 0]) (by kernel_rfl) (by kernel_rfl) ?_; clear ha a; intro a ha
    refine stepst ha HW 0 (b := b976) (C := #[.int .i64 0, .int .i64 0, .string (⟨#[]⟩ : ByteArray), .int .i64 0, .int .i64 0, .string (⟨#[]⟩ : ByteArray), .bool false, .slice none 0 0, .int .u64 0, .int .u64 0, .int .u64 0, .int .i64 0, .bool false, .int .i64 0]) (T := 26) (by kernel_rfl) 26 0 (.tmp 6) (.tmp 30) (.agg #[.int .i64 0, .int .i64 0, .string (⟨#[]⟩ : ByteArray), .int .i64 0, .int .i64 0, .string (⟨#[]⟩ : ByteArray), .bool false, .slice none 0 0, .int .u64 0, .int .u64 0, .int .u64 0, .int .i64 0, .bool false, .int .i64 0]) #[.int .i64 0, .int .i64 0, .string (⟨#[]⟩ : ByteArray), .int .i64 0, .int .i64 0, .string (⟨#[]⟩ : ByteArray), .bool false, .slice none 0 0, .int .u64 0, .int .u64 0, .int .u64 0, .int .i64 0, .bool false, .int .i64 0] rfl (by kernel_rfl) (by kernel_rfl) (by kernel_rfl) (by kernel_rfl) (by kernel_rfl) (by kernel_rfl) (by kernel_rfl) ?_; clear ha HW a; intro a W1000 HW ha
    refine stepp ha 7 (.int .i64 180) (by kernel_rfl) (by kernel_rfl) ?_; clear ha a; intro a ha
    refine endl ?_
    refine thenN (hK999 _ _ ?_); clear hK999
    refine wp_ret ?_
    refine thenR ?_
    obtain rfl := Option.some.inj h
    replace HW := HW.nilo 61 2
    exact finv ha _ _ rfl (.cell (ad := ⟨b976, 0, none⟩) (v := .agg #[.int .i64 0, .int .i64 0, .string (⟨#[]⟩ : ByteArray), .int .i64 0, .int .i64 0, .string (⟨#[]⟩ : ByteArray), .bool false, .slice none 0 0, .int .u64 0, .int .u64 0, .int .u64 0, .int .i64 0, .bool false, .int .i64 0]) (by kernel_rfl) (run_loadVar_ca0 (HW.ca (i := 0) (b := b976) (C := #[.int .i64 0, .int .i64 0, .string (⟨#[]⟩ : ByteArray), .int .i64 0, .int .i64 0, .string (⟨#[]⟩ : ByteArray), .bool false, .slice none 0 0, .int .u64 0, .int .u64 0, .int .u64 0, .int .i64 0, .bool false, .int .i64 0]) (T := 26) (fr := (0, 0)) (by kernel_rfl)) 26 0 (.agg #[.int .i64 0, .int .i64 0, .string (⟨#[]⟩ : ByteArray), .int .i64 0, .int .i64 0, .string (⟨#[]⟩ : ByteArray), .bool false, .slice none 0 0, .int .u64 0, .int .u64 0, .int .u64 0, .int .i64 0, .bool false, .int .i64 0]) (by kernel_rfl)) (.tmp (v := .int .i64 180) (by kernel_rfl) .nil)) (.tuple #[.agg #[.int .i64 0, .int .i64 0, .string (⟨#[]⟩ : ByteArray), .int .i64 0, .int .i64 0, .string (⟨#[]⟩ : ByteArray), .bool false, .slice none 0 0, .int .u64 0, .int .u64 0, .int .u64 0, .int .i64 0, .bool false, .int .i64 0], .int .i64 180]) rfl ⟨none, 0, rfl, HW.pick [] [0] (by decide) (by decide) rfl (by kernel_rfl)⟩
end Go.Proofs.Ytceagilmillgfaa.F
