/- headgate/headgateref27.Reported, headgate/headgatekeep.Regs: plain functions, and that the calls come to what they say. No condition. -/
import Derived.Test.YthjjbkgifelooaaDoorFT
import Derived.Test.YthjjbkgifelooaaDoorF51
import Derived.Test.YthjjbkgifelooaaDoorF52
namespace Go.Proofs.YthjjbkgifelooaaDoor.F
open Go Go.RowKit Go.Proofs.YthjjbkgifelooaaDoor.X
set_option linter.unusedVariables false
set_option linter.unusedSimpArgs false
/-! ### headgate/headgateref27.Reported: function 16 -/
def headgateref27_Reported.b0 (K : Nat) (a0 : ByteArray) (t1838 : Int × Bool) (t1844 : Int × Bool) (again2022 : Int → Int → (List T_api_Reg) → ByteArray → (List T_api_Reg) → Int → Option (T_headgateref27_Told × Int)) (x2023 : Int) (x2024 : Int) (x2025 : List T_api_Reg) (x2029 : ByteArray) (x2030 : List T_api_Reg) (x2034 : Int) : Option (T_headgateref27_Told × Int) :=
  if x2024 < (IntKind.wrap .i64 t1844.1) then ((headgateref01_Little.f K a0 (IntKind.wrap .i64 (40 + (IntKind.wrap .i64 (24 * x2024)))) 8).bind fun t2047 => (asrt (x2030.length + ([(⟨(⟨#[]⟩ : ByteArray), t2047.1⟩ : T_api_Reg)] : List T_api_Reg).length ≤ 5864062014805) (asrt (x2025.length + ([(⟨strOfNums ([IntKind.wrap .u8 (IntKind.wrap .i64 (97 + x2024))] : List Int), t2047.1⟩ : T_api_Reg)] : List T_api_Reg).length ≤ 5864062014805) (asrt (0 ≤ (IntKind.wrap .i64 (26 + (IntKind.wrap .i64 (24 * x2024))))) (asrt ((IntKind.wrap .i64 (26 + (IntKind.wrap .i64 (24 * x2024)))) < (a0.size : Int)) (if (bt a0 (IntKind.wrap .i64 (26 + (IntKind.wrap .i64 (24 * x2024))))) = 0 then (again2022 x2023 (IntKind.wrap .i64 (x2024 + 1)) (x2025 ++ ([(⟨strOfNums ([IntKind.wrap .u8 (IntKind.wrap .i64 (97 + x2024))] : List Int), t2047.1⟩ : T_api_Reg)] : List T_api_Reg)) x2029 (x2030 ++ ([(⟨(⟨#[]⟩ : ByteArray), t2047.1⟩ : T_api_Reg)] : List T_api_Reg)) x2034) else (if x2034 < 0 then (asrt (0 ≤ x2024) (asrt (x2024 < ((x2025 ++ ([(⟨strOfNums ([IntKind.wrap .u8 (IntKind.wrap .i64 (97 + x2024))] : List Int), t2047.1⟩ : T_api_Reg)] : List T_api_Reg)).length : Int)) (again2022 (IntKind.wrap .i64 (x2023 + 1)) (IntKind.wrap .i64 (x2024 + 1)) (x2025 ++ ([(⟨strOfNums ([IntKind.wrap .u8 (IntKind.wrap .i64 (97 + x2024))] : List Int), t2047.1⟩ : T_api_Reg)] : List T_api_Reg)) ((rdL T_api_Reg.z (x2025 ++ ([(⟨strOfNums ([IntKind.wrap .u8 (IntKind.wrap .i64 (97 + x2024))] : List Int), t2047.1⟩ : T_api_Reg)] : List T_api_Reg)) x2024).f0) (x2030 ++ ([(⟨(⟨#[]⟩ : ByteArray), t2047.1⟩ : T_api_Reg)] : List T_api_Reg)) x2024))) else (again2022 (IntKind.wrap .i64 (x2023 + 1)) (IntKind.wrap .i64 (x2024 + 1)) (x2025 ++ ([(⟨strOfNums ([IntKind.wrap .u8 (IntKind.wrap .i64 (97 + x2024))] : List Int), t2047.1⟩ : T_api_Reg)] : List T_api_Reg)) x2029 (x2030 ++ ([(⟨(⟨#[]⟩ : ByteArray), t2047.1⟩ : T_api_Reg)] : List T_api_Reg)) x2034)))))))) else ((headgateref27_Report.f K (⟨x2025, (⟨IntKind.wrap .i64 (bt a0 4), x2029⟩ : T_api_Hold), IntKind.wrap .u32 t1838.1, ((bt a0 9) == 1)⟩ : T_api_Table)).bind fun t2101 => (if t2101 = a0 then (if (IntKind.wrap .i64 (bt a0 4)) = 0 then (if x2023 > 0 then (some ((⟨0, 0, ([] : List T_api_Reg), 0⟩ : T_headgateref27_Told), 180)) else (some ((⟨IntKind.wrap .u32 t1838.1, IntKind.wrap .i64 (bt a0 4), x2030, x2034⟩ : T_headgateref27_Told), 0))) else (some ((⟨IntKind.wrap .u32 t1838.1, IntKind.wrap .i64 (bt a0 4), x2030, x2034⟩ : T_headgateref27_Told), 0))) else (some ((⟨0, 0, ([] : List T_api_Reg), 0⟩ : T_headgateref27_Told), 180))))
def headgateref27_Reported.l0 (K : Nat) (a0 : ByteArray) (t1838 : Int × Bool) (t1844 : Int × Bool) : Nat → Int → Int → (List T_api_Reg) → ByteArray → (List T_api_Reg) → Int → Option (T_headgateref27_Told × Int)
  | 0, _, _, _, _, _, _ => none
  | k_ + 1, x2023, x2024, x2025, x2029, x2030, x2034 => headgateref27_Reported.b0 K a0 t1838 t1844 (headgateref27_Reported.l0 K a0 t1838 t1844 k_) x2023 x2024 x2025 x2029 x2030 x2034
def headgateref27_Reported.f (K : Nat) (a0 : ByteArray) : Option (T_headgateref27_Told × Int) :=
  if (a0.size : Int) < 24 then (some ((⟨0, 0, ([] : List T_api_Reg), 0⟩ : T_headgateref27_Told), 180)) else ((headgateref01_Little.f K a0 0 4).bind fun t1838 => ((headgateref01_Little.f K a0 5 2).bind fun t1844 => (asrt (4 < (a0.size : Int)) (if t1844.1 > 16 then (some ((⟨0, 0, ([] : List T_api_Reg), 0⟩ : T_headgateref27_Told), 180)) else (if (a0.size : Int) = (IntKind.wrap .i64 (24 + (IntKind.wrap .i64 (24 * (IntKind.wrap .i64 t1844.1))))) then (if (IntKind.wrap .i64 (bt a0 4)) > 6 then (some ((⟨0, 0, ([] : List T_api_Reg), 0⟩ : T_headgateref27_Told), 180)) else (asrt (9 < (a0.size : Int)) (if (bt a0 9) > 1 then (some ((⟨0, 0, ([] : List T_api_Reg), 0⟩ : T_headgateref27_Told), 180)) else (headgateref27_Reported.l0 K a0 t1838 t1844 K 0 0 ([] : List T_api_Reg) (⟨#[]⟩ : ByteArray) ([] : List T_api_Reg) (-1))))) else (some ((⟨0, 0, ([] : List T_api_Reg), 0⟩ : T_headgateref27_Told), 180)))))))
set_option maxRecDepth 100000 in
set_option maxHeartbeats 4000000 in
theorem headgateref27_Reported.calls (K : Nat) (a0 : ByteArray)  (r : T_headgateref27_Told × Int) (w : World)  (h : headgateref27_Reported.f K a0 = some r) :
    Calls Tryd.prog 16 #[.string a0] w (fun e W' => ∃ A_0 c_0, e = .returned (.tuple #[.agg #[.int .u32 r.1.f0, .int .i64 r.1.f1, .slice A_0 r.1.f2.length c_0, .int .i64 r.1.f3], .int .i64 r.2]) ∧ Wd w W' [] [⟨44, 2, .slice A_0 r.1.f2.length c_0, r.1.f2.length, encs T_api_Reg.enc r.1.f2⟩] ) := by
  refine sxstart (n := 134) (l := [(0, .string a0)]) Tryd.func16 rfl rfl (Nat.le_of_ble_eq_true KR) (subsA_cons rfl (subsA_nil _)) ?_
  intro a ha
  have HW := Wd.refl w
  unfold headgateref27_Reported.f at h
  refine wp_seq_k (fun K1823 hK1824 => ?_)
  refine wp_region_lit ?_
  refine stepnew ha HW 2 #[.int .u32 0, .int .i64 0, .slice none 0 0, .int .i64 0] 35 KR KR ?_; clear ha HW a; intro b1825 a W1826 HW ha
  refine stepp ha 3 (.int .i64 0) KR KR ?_; clear ha a; intro a ha
  refine endl ?_
  refine thenN (hK1824 _ _ ?_); clear hK1824
  refine wp_seq_k (fun K1827 hK1828 => ?_)
  refine wp_seq_k (fun K1829 hK1830 => ?_)
  refine wp_region_lit ?_
  refine stepp ha 14 (.string a0) KR KR ?_; clear ha a; intro a ha
  refine stepp ha 15 (.int .i64 (a0.size : Int)) KR KR ?_; clear ha a; intro a ha
  refine stepp ha 16 (.bool (decide ((a0.size : Int) < 24))) KR KR ?_; clear ha a; intro a ha
  refine endl ?_
  refine thenN (hK1830 _ _ ?_); clear hK1830
  by_cases hp1831 : (a0.size : Int) < 24
  · skip
    replace h := ite_pos' h hp1831
    refine condT ha KR KR (t := decide ((a0.size : Int) < 24)) (decide_eq_true hp1831) ?_
    refine wp_seq_k (fun K1832 hK1833 => ?_)
    refine wp_region_lit ?_
    refine stepp ha 17 (.agg #[.int .u32 0, .int .i64 0, .slice none 0 0, .int .i64 0]) KR KR ?_; clear ha a; intro a ha
    refine stepst ha HW 0 (b := b1825) (C := #[.int .u32 0, .int .i64 0, .slice none 0 0, .int .i64 0]) (T := 35) KR 35 0 (.tmp 2) (.tmp 17) (.agg #[.int .u32 0, .int .i64 0, .slice none 0 0, .int .i64 0]) #[.int .u32 0, .int .i64 0, .slice none 0 0, .int .i64 0] rfl KR KR KR KR KR KR KR ?_; clear ha HW a; intro a W1834 HW ha
    refine stepp ha 3 (.int .i64 180) KR KR ?_; clear ha a; intro a ha
    refine endl ?_
    refine thenN (hK1833 _ _ ?_); clear hK1833
    refine wp_ret ?_
    refine thenR ?_
    obtain rfl := Option.some.inj h
    replace HW := HW.nilo 44 2
    exact finv ha _ _ rfl (.cell (ad := ⟨b1825, 0, none⟩) (v := .agg #[.int .u32 0, .int .i64 0, .slice none 0 0, .int .i64 0]) KR (run_loadVar_ca0 (HW.ca (i := 0) (b := b1825) (C := #[.int .u32 0, .int .i64 0, .slice none 0 0, .int .i64 0]) (T := 35) (fr := (0, 0)) KR) 35 0 (.agg #[.int .u32 0, .int .i64 0, .slice none 0 0, .int .i64 0]) KR) (.tmp (v := .int .i64 180) KR .nil)) (.tuple #[.agg #[.int .u32 0, .int .i64 0, .slice none 0 0, .int .i64 0], .int .i64 180]) rfl ⟨none, 0, rfl, HW.pick [] [0] (by decide) (by decide) rfl KR⟩
  · skip
    replace h := ite_neg' h hp1831
    refine condF ha KR KR (t := decide ((a0.size : Int) < 24)) (decide_eq_false hp1831) ?_
    refine wp_skip ?_
    refine thenN (hK1828 _ _ ?_); clear hK1828
    refine wp_seq_k (fun K1836 hK1837 => ?_)
    refine wp_region_lit ?_
    refine stepp ha 19 (.string a0) KR KR ?_; clear ha a; intro a ha
    obtain ⟨t1838, ht1839, h_⟩ := bind_some' h; clear h; have h := h_; clear h_
    refine stepc ha 20 KR KR (headgateref01_Little.calls K a0 0 4 t1838 _ ht1839) ?_; clear ha a; rintro e W1840 ⟨rfl, HX1841⟩
    refine ⟨_, rfl, ?_⟩; intro a ha; replace HW := HW.callw HX1841; clear HX1841
    refine stepp ha 18 (.tuple #[.int .u64 t1838.1, .bool t1838.2]) KR KR ?_; clear ha a; intro a ha
    refine stepp ha 21 (.int .u64 t1838.1) KR KR ?_; clear ha a; intro a ha
    refine stepp ha 22 (.bool t1838.2) KR KR ?_; clear ha a; intro a ha
    refine stepp ha 4 (.int .u64 t1838.1) KR KR ?_; clear ha a; intro a ha
    refine stepp ha 5 (.bool t1838.2) KR KR ?_; clear ha a; intro a ha
    refine endl ?_
    refine thenN (hK1837 _ _ ?_); clear hK1837
    refine wp_seq_k (fun K1842 hK1843 => ?_)
    refine wp_region_lit ?_
    refine stepp ha 24 (.string a0) KR KR ?_; clear ha a; intro a ha
    obtain ⟨t1844, ht1845, h_⟩ := bind_some' h; clear h; have h := h_; clear h_
    refine stepc ha 25 KR KR (headgateref01_Little.calls K a0 5 2 t1844 _ ht1845) ?_; clear ha a; rintro e W1846 ⟨rfl, HX1847⟩
    refine ⟨_, rfl, ?_⟩; intro a ha; replace HW := HW.callw HX1847; clear HX1847
    refine stepp ha 23 (.tuple #[.int .u64 t1844.1, .bool t1844.2]) KR KR ?_; clear ha a; intro a ha
    refine stepp ha 26 (.int .u64 t1844.1) KR KR ?_; clear ha a; intro a ha
    refine stepp ha 27 (.bool t1844.2) KR KR ?_; clear ha a; intro a ha
    refine stepp ha 6 (.int .u64 t1844.1) KR KR ?_; clear ha a; intro a ha
    refine stepp ha 7 (.bool t1844.2) KR KR ?_; clear ha a; intro a ha
    refine endl ?_
    refine thenN (hK1843 _ _ ?_); clear hK1843
    refine wp_seq_k (fun K1848 hK1849 => ?_)
    refine wp_region_lit ?_
    refine stepp ha 28 (.int .u64 t1838.1) KR KR ?_; clear ha a; intro a ha
    refine stepp ha 29 (.int .u32 (IntKind.wrap .u32 t1838.1)) KR KR ?_; clear ha a; intro a ha
    refine stepp ha 30 (.string a0) KR KR ?_; clear ha a; intro a ha
    obtain ⟨hA1850, h_⟩ := asrt_some h; clear h; have h := h_; clear h_
    refine stepsi ha 31 9 (.tmp 30) (.const (.int .i64 4)) a0 .i64 4 rfl KR KR KR (by decide) (show (4 : Int) < ((a0).size : Int) from hA1850) KR ?_; clear ha a; intro a ha
    refine stepp ha 32 (.int .i64 (IntKind.wrap .i64 (bt a0 4))) KR KR ?_; clear ha a; intro a ha
    refine stepp ha 33 (.agg #[.int .u32 (IntKind.wrap .u32 t1838.1), .int .i64 (IntKind.wrap .i64 (bt a0 4)), .slice none 0 0, .int .i64 (-1)]) KR KR ?_; clear ha a; intro a ha
    refine stepnew ha HW 8 #[.int .u32 0, .int .i64 0, .slice none 0 0, .int .i64 0] 35 KR KR ?_; clear ha HW a; intro b1851 a W1852 HW ha
    refine stepst ha HW 0 (b := b1851) (C := #[.int .u32 0, .int .i64 0, .slice none 0 0, .int .i64 0]) (T := 35) KR 35 0 (.tmp 8) (.tmp 33) (.agg #[.int .u32 (IntKind.wrap .u32 t1838.1), .int .i64 (IntKind.wrap .i64 (bt a0 4)), .slice none 0 0, .int .i64 (-1)]) #[.int .u32 (IntKind.wrap .u32 t1838.1), .int .i64 (IntKind.wrap .i64 (bt a0 4)), .slice none 0 0, .int .i64 (-1)] rfl KR KR KR KR KR KR KR ?_; clear ha HW a; intro a W1853 HW ha
    refine endl ?_
    refine thenN (hK1849 _ _ ?_); clear hK1849
    refine wp_seq_k (fun K1854 hK1855 => ?_)
    refine wp_seq_k (fun K1856 hK1857 => ?_)
    refine wp_region_lit ?_
    refine stepp ha 34 (.int .u64 t1844.1) KR KR ?_; clear ha a; intro a ha
    refine stepp ha 35 (.bool (decide (t1844.1 > 16))) KR KR ?_; clear ha a; intro a ha
    refine stepp ha 36 (.bool (decide (t1844.1 > 16))) KR KR ?_; clear ha a; intro a ha
    by_cases hp1858 : t1844.1 > 16
    · skip
      replace h := ite_pos' h hp1858
      replace ha := ha.bool 36 KR (decide_eq_true hp1858)
      refine stepo ha 37 KR ?_; clear ha a; intro a ha
      refine stepo ha 38 KR ?_; clear ha a; intro a ha
      refine stepo ha 39 KR ?_; clear ha a; intro a ha
      refine stepo ha 40 KR ?_; clear ha a; intro a ha
      refine stepo ha 41 KR ?_; clear ha a; intro a ha
      refine stepo ha 42 KR ?_; clear ha a; intro a ha
      refine stepo ha 43 KR ?_; clear ha a; intro a ha
      refine stepp ha 44 (.bool true) KR KR ?_; clear ha a; intro a ha
      refine stepp ha 45 (.bool true) KR KR ?_; clear ha a; intro a ha
      refine stepo ha 46 KR ?_; clear ha a; intro a ha
      refine stepo ha 47 KR ?_; clear ha a; intro a ha
      refine stepo ha 48 KR ?_; clear ha a; intro a ha
      refine stepp ha 49 (.bool true) KR KR ?_; clear ha a; intro a ha
      refine stepp ha 50 (.bool true) KR KR ?_; clear ha a; intro a ha
      refine stepo ha 51 KR ?_; clear ha a; intro a ha
      refine stepo ha 52 KR ?_; clear ha a; intro a ha
      refine stepo ha 53 KR ?_; clear ha a; intro a ha
      refine stepp ha 54 (.bool true) KR KR ?_; clear ha a; intro a ha
      refine endl ?_
      refine thenN (hK1857 _ _ ?_); clear hK1857
      refine condT ha KR KR (t := true) (rfl) ?_
      refine wp_seq_k (fun K1862 hK1863 => ?_)
      refine wp_region_lit ?_
      refine stepp ha 55 (.agg #[.int .u32 0, .int .i64 0, .slice none 0 0, .int .i64 0]) KR KR ?_; clear ha a; intro a ha
      refine stepst ha HW 1 (b := b1825) (C := #[.int .u32 0, .int .i64 0, .slice none 0 0, .int .i64 0]) (T := 35) KR 35 0 (.tmp 2) (.tmp 55) (.agg #[.int .u32 0, .int .i64 0, .slice none 0 0, .int .i64 0]) #[.int .u32 0, .int .i64 0, .slice none 0 0, .int .i64 0] rfl KR KR KR KR KR KR KR ?_; clear ha HW a; intro a W1864 HW ha
      refine stepp ha 3 (.int .i64 180) KR KR ?_; clear ha a; intro a ha
      refine endl ?_
      refine thenN (hK1863 _ _ ?_); clear hK1863
      refine wp_ret ?_
      refine thenR ?_
      obtain rfl := Option.some.inj h
      replace HW := HW.nilo 44 2
      exact finv ha _ _ rfl (.cell (ad := ⟨b1825, 0, none⟩) (v := .agg #[.int .u32 0, .int .i64 0, .slice none 0 0, .int .i64 0]) KR (run_loadVar_ca0 (HW.ca (i := 1) (b := b1825) (C := #[.int .u32 0, .int .i64 0, .slice none 0 0, .int .i64 0]) (T := 35) (fr := (0, 0)) KR) 35 0 (.agg #[.int .u32 0, .int .i64 0, .slice none 0 0, .int .i64 0]) KR) (.tmp (v := .int .i64 180) KR .nil)) (.tuple #[.agg #[.int .u32 0, .int .i64 0, .slice none 0 0, .int .i64 0], .int .i64 180]) rfl ⟨none, 0, rfl, HW.pick [] [0] (by decide) (by decide) rfl KR⟩
    · skip
      replace h := ite_neg' h hp1858
      replace ha := ha.bool 36 KR (decide_eq_false hp1858)
      refine stepp ha 37 (.string a0) KR KR ?_; clear ha a; intro a ha
      refine stepp ha 38 (.int .i64 (a0.size : Int)) KR KR ?_; clear ha a; intro a ha
      refine stepp ha 39 (.int .u64 t1844.1) KR KR ?_; clear ha a; intro a ha
      refine stepp ha 40 (.int .i64 (IntKind.wrap .i64 t1844.1)) KR KR ?_; clear ha a; intro a ha
      refine stepp ha 41 (.int .i64 (IntKind.wrap .i64 (24 * (IntKind.wrap .i64 t1844.1)))) KR KR ?_; clear ha a; intro a ha
      refine stepp ha 42 (.int .i64 (IntKind.wrap .i64 (24 + (IntKind.wrap .i64 (24 * (IntKind.wrap .i64 t1844.1)))))) KR KR ?_; clear ha a; intro a ha
      refine stepp ha 43 (.bool ((a0.size : Int) != (IntKind.wrap .i64 (24 + (IntKind.wrap .i64 (24 * (IntKind.wrap .i64 t1844.1))))))) KR KR ?_; clear ha a; intro a ha
      refine stepp ha 44 (.bool ((a0.size : Int) != (IntKind.wrap .i64 (24 + (IntKind.wrap .i64 (24 * (IntKind.wrap .i64 t1844.1))))))) KR KR ?_; clear ha a; intro a ha
      refine stepp ha 45 (.bool ((a0.size : Int) != (IntKind.wrap .i64 (24 + (IntKind.wrap .i64 (24 * (IntKind.wrap .i64 t1844.1))))))) KR KR ?_; clear ha a; intro a ha
      by_cases hp1859 : (a0.size : Int) = (IntKind.wrap .i64 (24 + (IntKind.wrap .i64 (24 * (IntKind.wrap .i64 t1844.1)))))
      · skip
        replace h := ite_pos' h hp1859
        replace ha := ha.bool 45 KR (ineq_f hp1859)
        refine stepp ha 46 (.pointer (some ⟨b1851, 1, none⟩)) KR KR ?_; clear ha a; intro a ha
        refine stepl ha 47 (HW.ca (i := 0) (b := b1851) (C := #[.int .u32 (IntKind.wrap .u32 t1838.1), .int .i64 (IntKind.wrap .i64 (bt a0 4)), .slice none 0 0, .int .i64 (-1)]) (T := 35) (fr := (0, 0)) KR) 3 1 (.tmp 46) (.int .i64 (IntKind.wrap .i64 (bt a0 4))) rfl KR KR KR ?_; clear ha a; intro a ha
        refine stepp ha 48 (.bool (decide ((IntKind.wrap .i64 (bt a0 4)) > 6))) KR KR ?_; clear ha a; intro a ha
        refine stepp ha 49 (.bool (decide ((IntKind.wrap .i64 (bt a0 4)) > 6))) KR KR ?_; clear ha a; intro a ha
        refine stepp ha 50 (.bool (decide ((IntKind.wrap .i64 (bt a0 4)) > 6))) KR KR ?_; clear ha a; intro a ha
        by_cases hp1860 : (IntKind.wrap .i64 (bt a0 4)) > 6
        · skip
          replace h := ite_pos' h hp1860
          replace ha := ha.bool 50 KR (decide_eq_true hp1860)
          refine stepo ha 51 KR ?_; clear ha a; intro a ha
          refine stepo ha 52 KR ?_; clear ha a; intro a ha
          refine stepo ha 53 KR ?_; clear ha a; intro a ha
          refine stepp ha 54 (.bool true) KR KR ?_; clear ha a; intro a ha
          refine endl ?_
          refine thenN (hK1857 _ _ ?_); clear hK1857
          refine condT ha KR KR (t := true) (rfl) ?_
          refine wp_seq_k (fun K1866 hK1867 => ?_)
          refine wp_region_lit ?_
          refine stepp ha 55 (.agg #[.int .u32 0, .int .i64 0, .slice none 0 0, .int .i64 0]) KR KR ?_; clear ha a; intro a ha
          refine stepst ha HW 1 (b := b1825) (C := #[.int .u32 0, .int .i64 0, .slice none 0 0, .int .i64 0]) (T := 35) KR 35 0 (.tmp 2) (.tmp 55) (.agg #[.int .u32 0, .int .i64 0, .slice none 0 0, .int .i64 0]) #[.int .u32 0, .int .i64 0, .slice none 0 0, .int .i64 0] rfl KR KR KR KR KR KR KR ?_; clear ha HW a; intro a W1868 HW ha
          refine stepp ha 3 (.int .i64 180) KR KR ?_; clear ha a; intro a ha
          refine endl ?_
          refine thenN (hK1867 _ _ ?_); clear hK1867
          refine wp_ret ?_
          refine thenR ?_
          obtain rfl := Option.some.inj h
          replace HW := HW.nilo 44 2
          exact finv ha _ _ rfl (.cell (ad := ⟨b1825, 0, none⟩) (v := .agg #[.int .u32 0, .int .i64 0, .slice none 0 0, .int .i64 0]) KR (run_loadVar_ca0 (HW.ca (i := 1) (b := b1825) (C := #[.int .u32 0, .int .i64 0, .slice none 0 0, .int .i64 0]) (T := 35) (fr := (0, 0)) KR) 35 0 (.agg #[.int .u32 0, .int .i64 0, .slice none 0 0, .int .i64 0]) KR) (.tmp (v := .int .i64 180) KR .nil)) (.tuple #[.agg #[.int .u32 0, .int .i64 0, .slice none 0 0, .int .i64 0], .int .i64 180]) rfl ⟨none, 0, rfl, HW.pick [] [0] (by decide) (by decide) rfl KR⟩
        · skip
          replace h := ite_neg' h hp1860
          replace ha := ha.bool 50 KR (decide_eq_false hp1860)
          refine stepp ha 51 (.string a0) KR KR ?_; clear ha a; intro a ha
          obtain ⟨hA1861, h_⟩ := asrt_some h; clear h; have h := h_; clear h_
          refine stepsi ha 52 9 (.tmp 51) (.const (.int .i64 9)) a0 .i64 9 rfl KR KR KR (by decide) (show (9 : Int) < ((a0).size : Int) from hA1861) KR ?_; clear ha a; intro a ha
          refine stepp ha 53 (.bool (decide ((bt a0 9) > 1))) KR KR ?_; clear ha a; intro a ha
          refine stepp ha 54 (.bool (decide ((bt a0 9) > 1))) KR KR ?_; clear ha a; intro a ha
          refine endl ?_
          refine thenN (hK1857 _ _ ?_); clear hK1857
          by_cases hp1870 : (bt a0 9) > 1
          · skip
            replace h := ite_pos' h hp1870
            refine condT ha KR KR (t := decide ((bt a0 9) > 1)) (decide_eq_true hp1870) ?_
            refine wp_seq_k (fun K1871 hK1872 => ?_)
            refine wp_region_lit ?_
            refine stepp ha 55 (.agg #[.int .u32 0, .int .i64 0, .slice none 0 0, .int .i64 0]) KR KR ?_; clear ha a; intro a ha
            refine stepst ha HW 1 (b := b1825) (C := #[.int .u32 0, .int .i64 0, .slice none 0 0, .int .i64 0]) (T := 35) KR 35 0 (.tmp 2) (.tmp 55) (.agg #[.int .u32 0, .int .i64 0, .slice none 0 0, .int .i64 0]) #[.int .u32 0, .int .i64 0, .slice none 0 0, .int .i64 0] rfl KR KR KR KR KR KR KR ?_; clear ha HW a; intro a W1873 HW ha
            refine stepp ha 3 (.int .i64 180) KR KR ?_; clear ha a; intro a ha
            refine endl ?_
            refine thenN (hK1872 _ _ ?_); clear hK1872
            refine wp_ret ?_
            refine thenR ?_
            obtain rfl := Option.some.inj h
            replace HW := HW.nilo 44 2
            exact finv ha _ _ rfl (.cell (ad := ⟨b1825, 0, none⟩) (v := .agg #[.int .u32 0, .int .i64 0, .slice none 0 0, .int .i64 0]) KR (run_loadVar_ca0 (HW.ca (i := 1) (b := b1825) (C := #[.int .u32 0, .int .i64 0, .slice none 0 0, .int .i64 0]) (T := 35) (fr := (0, 0)) KR) 35 0 (.agg #[.int .u32 0, .int .i64 0, .slice none 0 0, .int .i64 0]) KR) (.tmp (v := .int .i64 180) KR .nil)) (.tuple #[.agg #[.int .u32 0, .int .i64 0, .slice none 0 0, .int .i64 0], .int .i64 180]) rfl ⟨none, 0, rfl, HW.pick [] [0] (by decide) (by decide) rfl KR⟩
          · skip
            replace h := ite_neg' h hp1870
            refine condF ha KR KR (t := decide ((bt a0 9) > 1)) (decide_eq_false hp1870) ?_
            refine wp_skip ?_
            refine thenN (hK1855 _ _ ?_); clear hK1855
            refine wp_seq_k (fun K1879 hK1880 => ?_)
            refine regionG 10 KR KR ha HW [.fix (.pointer (some ⟨b1851, 0, none⟩)), .fix (.int .u32 (IntKind.wrap .u32 t1838.1)), .fix (.string a0), .fix (.int .u8 (bt a0 9)), .fix (.bool ((bt a0 9) == 1)), .fix (.pointer (some ⟨b1851, 1, none⟩)), .fix (.int .i64 (IntKind.wrap .i64 (bt a0 4))), .fix (.agg #[.int .i64 (IntKind.wrap .i64 (bt a0 4)), .string (⟨#[]⟩ : ByteArray)]), .fix (.agg #[.slice none 0 0, .int .i64 (IntKind.wrap .i64 (bt a0 4)), .string (⟨#[]⟩ : ByteArray), .int .u32 (IntKind.wrap .u32 t1838.1), .bool ((bt a0 9) == 1)]), .blk w #[.slice none 0 0, .int .i64 0, .string (⟨#[]⟩ : ByteArray), .int .u32 0, .bool false] 27 [(b1851, .cells #[.int .u32 (IntKind.wrap .u32 t1838.1), .int .i64 (IntKind.wrap .i64 (bt a0 4)), .slice none 0 0, .int .i64 (-1)] 35 (0, 0)), (b1825, .cells #[.int .u32 0, .int .i64 0, .slice none 0 0, .int .i64 0] 35 (0, 0))] []] ?_ ?_
            · skip
              refine ⟨?_, ?_, ?_, ?_, ?_, ?_, ?_, ?_, ?_, ?_, trivial⟩
              · skip
                intro a wr hn hd HW hs; have ha := hasNil hn hd
                have ha := ha.add (seeE hs 8 (.pointer (some ⟨b1851, 0, none⟩)) KR KR)
                refine yStep ha 56 KR ?_; intro l_ ha HK
                refine stepp ha 56 (.pointer (some ⟨b1851, 0, none⟩)) KR KR ?_; intro ax hax; exact HK _ _ _ hax rfl (Below.refl _ _)
              · skip
                intro a wr hn hd HW hs; have ha := hasNil hn hd
                have ha := ha.add (seeF hs 56 0 (.pointer (some ⟨b1851, 0, none⟩)) KR KR)
                refine yStep ha 57 KR ?_; intro l_ ha HK
                refine stepl ha 57 (HW.ca (i := 0) (b := b1851) (C := #[.int .u32 (IntKind.wrap .u32 t1838.1), .int .i64 (IntKind.wrap .i64 (bt a0 4)), .slice none 0 0, .int .i64 (-1)]) (T := 35) (fr := (0, 0)) KR) 25 0 (.tmp 56) (.int .u32 (IntKind.wrap .u32 t1838.1)) rfl KR KR KR ?_; intro ax hax; exact HK _ _ _ hax rfl (Below.refl _ _)
              · skip
                intro a wr hn hd HW hs; have ha := hasNil hn hd
                have ha := ha.add (seeE hs 0 (.string a0) KR KR)
                refine yStep ha 58 KR ?_; intro l_ ha HK
                refine stepp ha 58 (.string a0) KR KR ?_; intro ax hax; exact HK _ _ _ hax rfl (Below.refl _ _)
              · skip
                intro a wr hn hd HW hs; have ha := hasNil hn hd
                have ha := ha.add (seeF hs 58 2 (.string a0) KR KR)
                refine yStep ha 59 KR ?_; intro l_ ha HK
                refine stepsi ha 59 9 (.tmp 58) (.const (.int .i64 9)) a0 .i64 9 rfl KR KR KR (by decide) (show (9 : Int) < ((a0).size : Int) from hA1861) KR ?_; intro ax hax; exact HK _ _ _ hax rfl (Below.refl _ _)
              · skip
                intro a wr hn hd HW hs; have ha := hasNil hn hd
                have ha := ha.add (seeF hs 59 3 (.int .u8 (bt a0 9)) KR KR)
                refine yStep ha 60 KR ?_; intro l_ ha HK
                refine stepp ha 60 (.bool ((bt a0 9) == 1)) KR KR ?_; intro ax hax; exact HK _ _ _ hax rfl (Below.refl _ _)
              · skip
                intro a wr hn hd HW hs; have ha := hasNil hn hd
                have ha := ha.add (seeE hs 8 (.pointer (some ⟨b1851, 0, none⟩)) KR KR)
                refine yStep ha 61 KR ?_; intro l_ ha HK
                refine stepp ha 61 (.pointer (some ⟨b1851, 1, none⟩)) KR KR ?_; intro ax hax; exact HK _ _ _ hax rfl (Below.refl _ _)
              · skip
                intro a wr hn hd HW hs; have ha := hasNil hn hd
                have ha := ha.add (seeF hs 61 5 (.pointer (some ⟨b1851, 1, none⟩)) KR KR)
                refine yStep ha 62 KR ?_; intro l_ ha HK
                refine stepl ha 62 (HW.ca (i := 0) (b := b1851) (C := #[.int .u32 (IntKind.wrap .u32 t1838.1), .int .i64 (IntKind.wrap .i64 (bt a0 4)), .slice none 0 0, .int .i64 (-1)]) (T := 35) (fr := (0, 0)) KR) 3 1 (.tmp 61) (.int .i64 (IntKind.wrap .i64 (bt a0 4))) rfl KR KR KR ?_; intro ax hax; exact HK _ _ _ hax rfl (Below.refl _ _)
              · skip
                intro a wr hn hd HW hs; have ha := hasNil hn hd
                have ha := ha.add (seeF hs 62 6 (.int .i64 (IntKind.wrap .i64 (bt a0 4))) KR KR)
                refine yStep ha 63 KR ?_; intro l_ ha HK
                refine stepp ha 63 (.agg #[.int .i64 (IntKind.wrap .i64 (bt a0 4)), .string (⟨#[]⟩ : ByteArray)]) KR KR ?_; intro ax hax; exact HK _ _ _ hax rfl (Below.refl _ _)
              · skip
                intro a wr hn hd HW hs; have ha := hasNil hn hd
                have ha := ha.add (seeF hs 57 1 (.int .u32 (IntKind.wrap .u32 t1838.1)) KR KR)
                have ha := ha.add (seeF hs 60 4 (.bool ((bt a0 9) == 1)) KR KR)
                have ha := ha.add (seeF hs 63 7 (.agg #[.int .i64 (IntKind.wrap .i64 (bt a0 4)), .string (⟨#[]⟩ : ByteArray)]) KR KR)
                refine yStep ha 64 KR ?_; intro l_ ha HK
                refine stepp ha 64 (.agg #[.slice none 0 0, .int .i64 (IntKind.wrap .i64 (bt a0 4)), .string (⟨#[]⟩ : ByteArray), .int .u32 (IntKind.wrap .u32 t1838.1), .bool ((bt a0 9) == 1)]) KR KR ?_; intro ax hax; exact HK _ _ _ hax rfl (Below.refl _ _)
              · skip
                intro a wr hn hd HW hs; have ha := hasNil hn hd
                refine yStep ha 9 KR ?_; intro l_ ha HK
                refine stepnew ha (Wd.refl wr) 9 #[.slice none 0 0, .int .i64 0, .string (⟨#[]⟩ : ByteArray), .int .u32 0, .bool false] 27 KR KR ?_; intro b1881 ax W1882 HV hax
                exact HK _ _ _ hax ⟨b1881, rfl, HW.callw HV⟩ HV.below
            · skip
              intro a W1883 ha HW he hf
              replace ha := ha.add (he 0 (.string a0) KR KR)
              replace ha := ha.add (he 2 (.pointer (some ⟨b1825, 0, none⟩)) KR KR)
              replace ha := ha.add (he 6 (.int .u64 t1844.1) KR KR)
              replace ha := ha.add (he 8 (.pointer (some ⟨b1851, 0, none⟩)) KR KR)
              obtain ⟨b1881, he_, HW⟩ := gotB (w1 := w) (m := 10) (j := 9) (d := 9) (C := #[.slice none 0 0, .int .i64 0, .string (⟨#[]⟩ : ByteArray), .int .u32 0, .bool false]) (T := 27) (bs1 := [(b1851, .cells #[.int .u32 (IntKind.wrap .u32 t1838.1), .int .i64 (IntKind.wrap .i64 (bt a0 4)), .slice none 0 0, .int .i64 (-1)] 35 (0, 0)), (b1825, .cells #[.int .u32 0, .int .i64 0, .slice none 0 0, .int .i64 0] 35 (0, 0))]) (os1 := []) hf KR KR KR; replace ha := ha.add he_; clear he_
              replace ha := ha.add (gotF (m := 10) (j := 8) (d := 64) (v := .agg #[.slice none 0 0, .int .i64 (IntKind.wrap .i64 (bt a0 4)), .string (⟨#[]⟩ : ByteArray), .int .u32 (IntKind.wrap .u32 t1838.1), .bool ((bt a0 9) == 1)]) hf KR KR KR)
              clear he hf
              refine stepst ha HW 0 (b := b1881) (C := #[.slice none 0 0, .int .i64 0, .string (⟨#[]⟩ : ByteArray), .int .u32 0, .bool false]) (T := 27) KR 27 0 (.tmp 9) (.tmp 64) (.agg #[.slice none 0 0, .int .i64 (IntKind.wrap .i64 (bt a0 4)), .string (⟨#[]⟩ : ByteArray), .int .u32 (IntKind.wrap .u32 t1838.1), .bool ((bt a0 9) == 1)]) #[.slice none 0 0, .int .i64 (IntKind.wrap .i64 (bt a0 4)), .string (⟨#[]⟩ : ByteArray), .int .u32 (IntKind.wrap .u32 t1838.1), .bool ((bt a0 9) == 1)] rfl KR KR KR KR KR KR KR ?_; clear ha HW a; intro a W1884 HW ha
              refine endl ?_
              refine thenN (hK1880 _ _ ?_); clear hK1880
              refine wp_seq_k (fun K1885 hK1886 => ?_)
              refine wp_region_lit ?_
              refine stepp ha 10 (.int .i64 0) KR KR ?_; clear ha a; intro a ha
              refine endl ?_
              refine thenN (hK1886 _ _ ?_); clear hK1886
              refine wp_seq_k (fun K1887 hK1888 => ?_)
              refine wp_seq_k (fun K1889 hK1890 => ?_)
              refine wp_region_lit ?_
              refine stepp ha 11 (.int .i64 0) KR KR ?_; clear ha a; intro a ha
              refine endl ?_
              refine thenN (hK1890 _ _ ?_); clear hK1890
              refine wp_block ?_
              refine loopk (fun k => fun a W2035 => ∃ (x2023 : Int), ∃ (x2024 : Int), ∃ (x2025 : List T_api_Reg), ∃ A2026, ∃ c2027, ∃ (x2029 : ByteArray), ∃ (x2030 : List T_api_Reg), ∃ A2031, ∃ c2032, ∃ (x2034 : Int), headgateref27_Reported.l0 K a0 t1838 t1844 k x2023 x2024 x2025 x2029 x2030 x2034 = some r ∧ Has 134 [(0, .string a0), (2, .pointer (some ⟨b1825, 0, none⟩)), (6, .int .u64 t1844.1), (8, .pointer (some ⟨b1851, 0, none⟩)), (9, .pointer (some ⟨b1881, 0, none⟩)), (10, .int .i64 x2023), (11, .int .i64 x2024)] a ∧ Wd w W2035 [(b1881, .cells #[.slice A2026 x2025.length c2027, .int .i64 (IntKind.wrap .i64 (bt a0 4)), .string x2029, .int .u32 (IntKind.wrap .u32 t1838.1), .bool ((bt a0 9) == 1)] 27 (0, 0)), (b1851, .cells #[.int .u32 (IntKind.wrap .u32 t1838.1), .int .i64 (IntKind.wrap .i64 (bt a0 4)), .slice A2031 x2030.length c2032, .int .i64 x2034] 35 (0, 0)), (b1825, .cells #[.int .u32 0, .int .i64 0, .slice none 0 0, .int .i64 0] 35 (0, 0))] [⟨44, 2, .slice A2031 x2030.length c2032, x2030.length, encs T_api_Reg.enc x2030⟩, ⟨44, 2, .slice A2026 x2025.length c2027, x2025.length, encs T_api_Reg.enc x2025⟩]) K ?_ ?_
              · skip
                replace HW := HW.nilo 44 2
                replace HW := HW.nilo 44 2
                exact ⟨0, 0, ([] : List T_api_Reg), none, 0, (⟨#[]⟩ : ByteArray), ([] : List T_api_Reg), none, 0, (-1), h, ha.sub (subs_cons KR (subs_cons KR (subs_cons KR (subs_cons KR (subs_cons KR (subs_cons KR (subs_cons KR (subs_nil _)))))))), HW.pick [0, 1, 2] [1, 0] (by decide) (by decide) KR KR⟩
              · skip
                intro k a W2035 hI
                obtain ⟨x2023, x2024, x2025, A2026, c2027, x2029, x2030, A2031, c2032, x2034, h, ha, HW⟩ := hI
                cases k with
                | zero => exact (none_some (show none = some r from h)).elim
                | succ k2036 =>
                  replace h : headgateref27_Reported.b0 K a0 t1838 t1844 (headgateref27_Reported.l0 K a0 t1838 t1844 k2036) x2023 x2024 x2025 x2029 x2030 x2034 = some r := h
                  obtain ⟨again2022, hag2037⟩ : ∃ g_, g_ = headgateref27_Reported.l0 K a0 t1838 t1844 k2036 := ⟨_, rfl⟩
                  rw [← hag2037] at h
                  unfold headgateref27_Reported.b0 at h
                  refine wp_seq_k (fun K2038 hK2039 => ?_)
                  refine wp_seq_k (fun K2040 hK2041 => ?_)
                  refine wp_region_lit ?_
                  refine stepp ha 65 (.int .i64 x2024) KR KR ?_; clear ha a; intro a ha
                  refine stepp ha 66 (.int .u64 t1844.1) KR KR ?_; clear ha a; intro a ha
                  refine stepp ha 67 (.int .i64 (IntKind.wrap .i64 t1844.1)) KR KR ?_; clear ha a; intro a ha
                  refine stepp ha 68 (.bool (decide (x2024 < (IntKind.wrap .i64 t1844.1)))) KR KR ?_; clear ha a; intro a ha
                  refine endl ?_
                  refine thenN (hK2041 _ _ ?_); clear hK2041
                  by_cases hp2042 : x2024 < (IntKind.wrap .i64 t1844.1)
                  · skip
                    replace h := ite_pos' h hp2042
                    refine condT ha KR KR (t := decide (x2024 < (IntKind.wrap .i64 t1844.1))) (decide_eq_true hp2042) ?_
                    refine wp_skip ?_
                    refine thenN (hK2039 _ _ ?_); clear hK2039
                    refine wp_seq_k (fun K2043 hK2044 => ?_)
                    refine wp_block ?_
                    refine wp_seq_k (fun K2045 hK2046 => ?_)
                    refine wp_region_lit ?_
                    refine stepp ha 72 (.string a0) KR KR ?_; clear ha a; intro a ha
                    refine stepp ha 73 (.int .i64 x2024) KR KR ?_; clear ha a; intro a ha
                    refine stepp ha 74 (.int .i64 (IntKind.wrap .i64 (24 * x2024))) KR KR ?_; clear ha a; intro a ha
                    refine stepp ha 75 (.int .i64 (IntKind.wrap .i64 (40 + (IntKind.wrap .i64 (24 * x2024))))) KR KR ?_; clear ha a; intro a ha
                    obtain ⟨t2047, ht2048, h_⟩ := bind_some' h; clear h; have h := h_; clear h_
                    refine stepc ha 76 KR KR (headgateref01_Little.calls K a0 (IntKind.wrap .i64 (40 + (IntKind.wrap .i64 (24 * x2024)))) 8 t2047 _ ht2048) ?_; clear ha a; rintro e W2049 ⟨rfl, HX2050⟩
                    refine ⟨_, rfl, ?_⟩; intro a ha; replace HW := HW.callw HX2050; clear HX2050
                    refine stepp ha 71 (.tuple #[.int .u64 t2047.1, .bool t2047.2]) KR KR ?_; clear ha a; intro a ha
                    refine stepp ha 77 (.int .u64 t2047.1) KR KR ?_; clear ha a; intro a ha
                    refine stepp ha 78 (.bool t2047.2) KR KR ?_; clear ha a; intro a ha
                    refine stepp ha 12 (.int .u64 t2047.1) KR KR ?_; clear ha a; intro a ha
                    refine stepp ha 13 (.bool t2047.2) KR KR ?_; clear ha a; intro a ha
                    refine endl ?_
                    refine thenN (hK2046 _ _ ?_); clear hK2046
                    refine wp_seq_k (fun K2051 hK2052 => ?_)
                    refine wp_region_lit ?_
                    refine stepp ha 79 (.pointer (some ⟨b1851, 2, none⟩)) KR KR ?_; clear ha a; intro a ha
                    refine stepl ha 80 (HW.ca (i := 1) (b := b1851) (C := #[.int .u32 (IntKind.wrap .u32 t1838.1), .int .i64 (IntKind.wrap .i64 (bt a0 4)), .slice A2031 x2030.length c2032, .int .i64 x2034]) (T := 35) (fr := (0, 0)) KR) 22 2 (.tmp 79) (.slice A2031 x2030.length c2032) rfl KR KR KR ?_; clear ha a; intro a ha
                    refine stepp ha 81 (.int .u64 t2047.1) KR KR ?_; clear ha a; intro a ha
                    refine stepp ha 82 (.agg #[.string (⟨#[]⟩ : ByteArray), .int .u64 t2047.1]) KR KR ?_; clear ha a; intro a ha
                    refine stepbs ha HW 83 44 2 1 #[.string (⟨#[]⟩ : ByteArray), .int .u64 t2047.1] [.string (⟨#[]⟩ : ByteArray), .int .u64 t2047.1] (by decide) KR KR KR KR ?_; clear ha HW a; intro b2053 a W2054 HW ha
                    replace HW : Wd w W2054 [(b1881, .cells #[.slice A2026 x2025.length c2027, .int .i64 (IntKind.wrap .i64 (bt a0 4)), .string x2029, .int .u32 (IntKind.wrap .u32 t1838.1), .bool ((bt a0 9) == 1)] 27 (0, 0)), (b1851, .cells #[.int .u32 (IntKind.wrap .u32 t1838.1), .int .i64 (IntKind.wrap .i64 (bt a0 4)), .slice A2031 x2030.length c2032, .int .i64 x2034] 35 (0, 0)), (b1825, .cells #[.int .u32 0, .int .i64 0, .slice none 0 0, .int .i64 0] 35 (0, 0))] [⟨44, 2, .slice (some ⟨b2053, 0, none⟩) ([(⟨(⟨#[]⟩ : ByteArray), t2047.1⟩ : T_api_Reg)] : List T_api_Reg).length 1, ([(⟨(⟨#[]⟩ : ByteArray), t2047.1⟩ : T_api_Reg)] : List T_api_Reg).length, encs T_api_Reg.enc ([(⟨(⟨#[]⟩ : ByteArray), t2047.1⟩ : T_api_Reg)] : List T_api_Reg)⟩, ⟨44, 2, .slice A2031 x2030.length c2032, x2030.length, encs T_api_Reg.enc x2030⟩, ⟨44, 2, .slice A2026 x2025.length c2027, x2025.length, encs T_api_Reg.enc x2025⟩] := HW
                    replace ha := ha.turn 83 (v := .slice (some ⟨b2053, 0, none⟩) ([(⟨(⟨#[]⟩ : ByteArray), t2047.1⟩ : T_api_Reg)] : List T_api_Reg).length 1) KR rfl
                    obtain ⟨hA2056, h_⟩ := asrt_some h; clear h; have h := h_; clear h_
                    refine stepape T_api_Reg.enc ha HW 84 1 22 44 (.tmp 80) (.tmp 83) (.agg #[.string (⟨#[]⟩ : ByteArray), .int .u64 0]) 2 24 (.slice A2031 x2030.length c2032) x2030 (.slice (some ⟨b2053, 0, none⟩) ([(⟨(⟨#[]⟩ : ByteArray), t2047.1⟩ : T_api_Reg)] : List T_api_Reg).length 1) ([(⟨(⟨#[]⟩ : ByteArray), t2047.1⟩ : T_api_Reg)] : List T_api_Reg) KR rfl KR KR (HW.rdo (i := 0) (q := ⟨44, 2, .slice (some ⟨b2053, 0, none⟩) ([(⟨(⟨#[]⟩ : ByteArray), t2047.1⟩ : T_api_Reg)] : List T_api_Reg).length 1, ([(⟨(⟨#[]⟩ : ByteArray), t2047.1⟩ : T_api_Reg)] : List T_api_Reg).length, encs T_api_Reg.enc ([(⟨(⟨#[]⟩ : ByteArray), t2047.1⟩ : T_api_Reg)] : List T_api_Reg)⟩) KR) (fun _ => rfl) KR KR KR (by decide) (by have := hA2056; unfold maxLen; omega) (by have := hA2056; omega) KR ?_; clear ha HW a; intro A2057 c2058 a W2059 HW ha
                    refine stepp ha 85 (.pointer (some ⟨b1851, 2, none⟩)) KR KR ?_; clear ha a; intro a ha
                    refine stepst ha HW 1 (b := b1851) (C := #[.int .u32 (IntKind.wrap .u32 t1838.1), .int .i64 (IntKind.wrap .i64 (bt a0 4)), .slice A2031 x2030.length c2032, .int .i64 x2034]) (T := 35) KR 22 2 (.tmp 85) (.tmp 84) (.slice A2057 (x2030 ++ ([(⟨(⟨#[]⟩ : ByteArray), t2047.1⟩ : T_api_Reg)] : List T_api_Reg)).length c2058) #[.int .u32 (IntKind.wrap .u32 t1838.1), .int .i64 (IntKind.wrap .i64 (bt a0 4)), .slice A2057 (x2030 ++ ([(⟨(⟨#[]⟩ : ByteArray), t2047.1⟩ : T_api_Reg)] : List T_api_Reg)).length c2058, .int .i64 x2034] rfl KR KR KR KR KR KR KR ?_; clear ha HW a; intro a W2062 HW ha
                    refine endl ?_
                    refine thenN (hK2052 _ _ ?_); clear hK2052
                    refine wp_seq_k (fun K2063 hK2064 => ?_)
                    refine wp_region_lit ?_
                    refine stepp ha 86 (.pointer (some ⟨b1881, 0, none⟩)) KR KR ?_; clear ha a; intro a ha
                    refine stepl ha 87 (HW.ca (i := 0) (b := b1881) (C := #[.slice A2026 x2025.length c2027, .int .i64 (IntKind.wrap .i64 (bt a0 4)), .string x2029, .int .u32 (IntKind.wrap .u32 t1838.1), .bool ((bt a0 9) == 1)]) (T := 27) (fr := (0, 0)) KR) 22 0 (.tmp 86) (.slice A2026 x2025.length c2027) rfl KR KR KR ?_; clear ha a; intro a ha
                    refine stepp ha 88 (.int .i64 x2024) KR KR ?_; clear ha a; intro a ha
                    refine stepp ha 89 (.int .i64 (IntKind.wrap .i64 (97 + x2024))) KR KR ?_; clear ha a; intro a ha
                    refine stepp ha 90 (.int .u8 (IntKind.wrap .u8 (IntKind.wrap .i64 (97 + x2024)))) KR KR ?_; clear ha a; intro a ha
                    refine stepbs ha HW 91 5 1 1 #[.int .u8 (IntKind.wrap .u8 (IntKind.wrap .i64 (97 + x2024)))] [.int .u8 (IntKind.wrap .u8 (IntKind.wrap .i64 (97 + x2024)))] (by decide) KR KR KR KR ?_; clear ha HW a; intro b2065 a W2066 HW ha
                    replace HW : Wd w W2066 [(b1881, .cells #[.slice A2026 x2025.length c2027, .int .i64 (IntKind.wrap .i64 (bt a0 4)), .string x2029, .int .u32 (IntKind.wrap .u32 t1838.1), .bool ((bt a0 9) == 1)] 27 (0, 0)), (b1851, .cells #[.int .u32 (IntKind.wrap .u32 t1838.1), .int .i64 (IntKind.wrap .i64 (bt a0 4)), .slice A2057 (x2030 ++ ([(⟨(⟨#[]⟩ : ByteArray), t2047.1⟩ : T_api_Reg)] : List T_api_Reg)).length c2058, .int .i64 x2034] 35 (0, 0)), (b1825, .cells #[.int .u32 0, .int .i64 0, .slice none 0 0, .int .i64 0] 35 (0, 0))] [⟨5, 1, .slice (some ⟨b2065, 0, none⟩) ([IntKind.wrap .u8 (IntKind.wrap .i64 (97 + x2024))] : List Int).length 1, ([IntKind.wrap .u8 (IntKind.wrap .i64 (97 + x2024))] : List Int).length, encs (encI .u8) ([IntKind.wrap .u8 (IntKind.wrap .i64 (97 + x2024))] : List Int)⟩, ⟨44, 2, .slice (some ⟨b2053, 0, none⟩) ([(⟨(⟨#[]⟩ : ByteArray), t2047.1⟩ : T_api_Reg)] : List T_api_Reg).length 1, ([(⟨(⟨#[]⟩ : ByteArray), t2047.1⟩ : T_api_Reg)] : List T_api_Reg).length, encs T_api_Reg.enc ([(⟨(⟨#[]⟩ : ByteArray), t2047.1⟩ : T_api_Reg)] : List T_api_Reg)⟩, ⟨44, 2, .slice A2057 (x2030 ++ ([(⟨(⟨#[]⟩ : ByteArray), t2047.1⟩ : T_api_Reg)] : List T_api_Reg)).length c2058, (x2030 ++ ([(⟨(⟨#[]⟩ : ByteArray), t2047.1⟩ : T_api_Reg)] : List T_api_Reg)).length, encs T_api_Reg.enc (x2030 ++ ([(⟨(⟨#[]⟩ : ByteArray), t2047.1⟩ : T_api_Reg)] : List T_api_Reg))⟩, ⟨44, 2, .slice A2026 x2025.length c2027, x2025.length, encs T_api_Reg.enc x2025⟩] := HW
                    replace ha := ha.turn 91 (v := .slice (some ⟨b2065, 0, none⟩) ([IntKind.wrap .u8 (IntKind.wrap .i64 (97 + x2024))] : List Int).length 1) KR rfl
                    refine stepbt ha 92 97 9 5 (.tmp 91) (v := .slice (some ⟨b2065, 0, none⟩) ([IntKind.wrap .u8 (IntKind.wrap .i64 (97 + x2024))] : List Int).length 1) (xs := ([IntKind.wrap .u8 (IntKind.wrap .i64 (97 + x2024))] : List Int)) (HW.rdo (i := 0) (q := ⟨5, 1, .slice (some ⟨b2065, 0, none⟩) ([IntKind.wrap .u8 (IntKind.wrap .i64 (97 + x2024))] : List Int).length 1, ([IntKind.wrap .u8 (IntKind.wrap .i64 (97 + x2024))] : List Int).length, encs (encI .u8) ([IntKind.wrap .u8 (IntKind.wrap .i64 (97 + x2024))] : List Int)⟩) KR) rfl KR KR KR KR KR ?_; clear ha a; intro a ha
                    refine stepp ha 93 (.int .u64 t2047.1) KR KR ?_; clear ha a; intro a ha
                    refine stepp ha 94 (.agg #[.string (strOfNums ([IntKind.wrap .u8 (IntKind.wrap .i64 (97 + x2024))] : List Int)), .int .u64 t2047.1]) KR KR ?_; clear ha a; intro a ha
                    refine stepbs ha HW 95 44 2 1 #[.string (strOfNums ([IntKind.wrap .u8 (IntKind.wrap .i64 (97 + x2024))] : List Int)), .int .u64 t2047.1] [.string (strOfNums ([IntKind.wrap .u8 (IntKind.wrap .i64 (97 + x2024))] : List Int)), .int .u64 t2047.1] (by decide) KR KR KR KR ?_; clear ha HW a; intro b2068 a W2069 HW ha
                    replace HW : Wd w W2069 [(b1881, .cells #[.slice A2026 x2025.length c2027, .int .i64 (IntKind.wrap .i64 (bt a0 4)), .string x2029, .int .u32 (IntKind.wrap .u32 t1838.1), .bool ((bt a0 9) == 1)] 27 (0, 0)), (b1851, .cells #[.int .u32 (IntKind.wrap .u32 t1838.1), .int .i64 (IntKind.wrap .i64 (bt a0 4)), .slice A2057 (x2030 ++ ([(⟨(⟨#[]⟩ : ByteArray), t2047.1⟩ : T_api_Reg)] : List T_api_Reg)).length c2058, .int .i64 x2034] 35 (0, 0)), (b1825, .cells #[.int .u32 0, .int .i64 0, .slice none 0 0, .int .i64 0] 35 (0, 0))] [⟨44, 2, .slice (some ⟨b2068, 0, none⟩) ([(⟨strOfNums ([IntKind.wrap .u8 (IntKind.wrap .i64 (97 + x2024))] : List Int), t2047.1⟩ : T_api_Reg)] : List T_api_Reg).length 1, ([(⟨strOfNums ([IntKind.wrap .u8 (IntKind.wrap .i64 (97 + x2024))] : List Int), t2047.1⟩ : T_api_Reg)] : List T_api_Reg).length, encs T_api_Reg.enc ([(⟨strOfNums ([IntKind.wrap .u8 (IntKind.wrap .i64 (97 + x2024))] : List Int), t2047.1⟩ : T_api_Reg)] : List T_api_Reg)⟩, ⟨5, 1, .slice (some ⟨b2065, 0, none⟩) ([IntKind.wrap .u8 (IntKind.wrap .i64 (97 + x2024))] : List Int).length 1, ([IntKind.wrap .u8 (IntKind.wrap .i64 (97 + x2024))] : List Int).length, encs (encI .u8) ([IntKind.wrap .u8 (IntKind.wrap .i64 (97 + x2024))] : List Int)⟩, ⟨44, 2, .slice (some ⟨b2053, 0, none⟩) ([(⟨(⟨#[]⟩ : ByteArray), t2047.1⟩ : T_api_Reg)] : List T_api_Reg).length 1, ([(⟨(⟨#[]⟩ : ByteArray), t2047.1⟩ : T_api_Reg)] : List T_api_Reg).length, encs T_api_Reg.enc ([(⟨(⟨#[]⟩ : ByteArray), t2047.1⟩ : T_api_Reg)] : List T_api_Reg)⟩, ⟨44, 2, .slice A2057 (x2030 ++ ([(⟨(⟨#[]⟩ : ByteArray), t2047.1⟩ : T_api_Reg)] : List T_api_Reg)).length c2058, (x2030 ++ ([(⟨(⟨#[]⟩ : ByteArray), t2047.1⟩ : T_api_Reg)] : List T_api_Reg)).length, encs T_api_Reg.enc (x2030 ++ ([(⟨(⟨#[]⟩ : ByteArray), t2047.1⟩ : T_api_Reg)] : List T_api_Reg))⟩, ⟨44, 2, .slice A2026 x2025.length c2027, x2025.length, encs T_api_Reg.enc x2025⟩] := HW
                    replace ha := ha.turn 95 (v := .slice (some ⟨b2068, 0, none⟩) ([(⟨strOfNums ([IntKind.wrap .u8 (IntKind.wrap .i64 (97 + x2024))] : List Int), t2047.1⟩ : T_api_Reg)] : List T_api_Reg).length 1) KR rfl
                    obtain ⟨hA2071, h_⟩ := asrt_some h; clear h; have h := h_; clear h_
                    refine stepape T_api_Reg.enc ha HW 96 4 22 44 (.tmp 87) (.tmp 95) (.agg #[.string (⟨#[]⟩ : ByteArray), .int .u64 0]) 2 24 (.slice A2026 x2025.length c2027) x2025 (.slice (some ⟨b2068, 0, none⟩) ([(⟨strOfNums ([IntKind.wrap .u8 (IntKind.wrap .i64 (97 + x2024))] : List Int), t2047.1⟩ : T_api_Reg)] : List T_api_Reg).length 1) ([(⟨strOfNums ([IntKind.wrap .u8 (IntKind.wrap .i64 (97 + x2024))] : List Int), t2047.1⟩ : T_api_Reg)] : List T_api_Reg) KR rfl KR KR (HW.rdo (i := 0) (q := ⟨44, 2, .slice (some ⟨b2068, 0, none⟩) ([(⟨strOfNums ([IntKind.wrap .u8 (IntKind.wrap .i64 (97 + x2024))] : List Int), t2047.1⟩ : T_api_Reg)] : List T_api_Reg).length 1, ([(⟨strOfNums ([IntKind.wrap .u8 (IntKind.wrap .i64 (97 + x2024))] : List Int), t2047.1⟩ : T_api_Reg)] : List T_api_Reg).length, encs T_api_Reg.enc ([(⟨strOfNums ([IntKind.wrap .u8 (IntKind.wrap .i64 (97 + x2024))] : List Int), t2047.1⟩ : T_api_Reg)] : List T_api_Reg)⟩) KR) (fun _ => rfl) KR KR KR (by decide) (by have := hA2071; unfold maxLen; omega) (by have := hA2071; omega) KR ?_; clear ha HW a; intro A2072 c2073 a W2074 HW ha
                    refine stepp ha 97 (.pointer (some ⟨b1881, 0, none⟩)) KR KR ?_; clear ha a; intro a ha
                    refine stepst ha HW 0 (b := b1881) (C := #[.slice A2026 x2025.length c2027, .int .i64 (IntKind.wrap .i64 (bt a0 4)), .string x2029, .int .u32 (IntKind.wrap .u32 t1838.1), .bool ((bt a0 9) == 1)]) (T := 27) KR 22 0 (.tmp 97) (.tmp 96) (.slice A2072 (x2025 ++ ([(⟨strOfNums ([IntKind.wrap .u8 (IntKind.wrap .i64 (97 + x2024))] : List Int), t2047.1⟩ : T_api_Reg)] : List T_api_Reg)).length c2073) #[.slice A2072 (x2025 ++ ([(⟨strOfNums ([IntKind.wrap .u8 (IntKind.wrap .i64 (97 + x2024))] : List Int), t2047.1⟩ : T_api_Reg)] : List T_api_Reg)).length c2073, .int .i64 (IntKind.wrap .i64 (bt a0 4)), .string x2029, .int .u32 (IntKind.wrap .u32 t1838.1), .bool ((bt a0 9) == 1)] rfl KR KR KR KR KR KR KR ?_; clear ha HW a; intro a W2077 HW ha
                    refine endl ?_
                    refine thenN (hK2064 _ _ ?_); clear hK2064
                    refine wp_seq_k (fun K2078 hK2079 => ?_)
                    refine wp_region_lit ?_
                    refine stepp ha 98 (.string a0) KR KR ?_; clear ha a; intro a ha
                    refine stepp ha 99 (.int .i64 x2024) KR KR ?_; clear ha a; intro a ha
                    refine stepp ha 100 (.int .i64 (IntKind.wrap .i64 (24 * x2024))) KR KR ?_; clear ha a; intro a ha
                    refine stepp ha 101 (.int .i64 (IntKind.wrap .i64 (26 + (IntKind.wrap .i64 (24 * x2024))))) KR KR ?_; clear ha a; intro a ha
                    obtain ⟨hA2080, h_⟩ := asrt_some h; clear h; have h := h_; clear h_
                    obtain ⟨hA2081, h_⟩ := asrt_some h; clear h; have h := h_; clear h_
                    refine stepsi ha 102 9 (.tmp 98) (.tmp 101) a0 .i64 (IntKind.wrap .i64 (26 + (IntKind.wrap .i64 (24 * x2024)))) rfl KR KR KR hA2080 (show (IntKind.wrap .i64 (26 + (IntKind.wrap .i64 (24 * x2024))) : Int) < ((a0).size : Int) from hA2081) KR ?_; clear ha a; intro a ha
                    refine stepp ha 103 (.bool ((bt a0 (IntKind.wrap .i64 (26 + (IntKind.wrap .i64 (24 * x2024))))) != 0)) KR KR ?_; clear ha a; intro a ha
                    refine endl ?_
                    refine thenN (hK2079 _ _ ?_); clear hK2079
                    by_cases hp2082 : (bt a0 (IntKind.wrap .i64 (26 + (IntKind.wrap .i64 (24 * x2024))))) = 0
                    · skip
                      replace h := ite_pos' h hp2082
                      refine condF ha KR KR (t := ((bt a0 (IntKind.wrap .i64 (26 + (IntKind.wrap .i64 (24 * x2024))))) != 0)) (ineq_f hp2082) ?_
                      refine wp_skip ?_
                      refine blkN ?_
                      refine thenN (hK2044 _ _ ?_); clear hK2044
                      refine wp_region_lit ?_
                      refine stepp ha 69 (.int .i64 x2024) KR KR ?_; clear ha a; intro a ha
                      refine stepp ha 70 (.int .i64 (IntKind.wrap .i64 (x2024 + 1))) KR KR ?_; clear ha a; intro a ha
                      refine stepp ha 11 (.int .i64 (IntKind.wrap .i64 (x2024 + 1))) KR KR ?_; clear ha a; intro a ha
                      refine endl ?_
                      exact thenN ⟨k2036, Nat.lt_succ_self k2036, x2023, IntKind.wrap .i64 (x2024 + 1), x2025 ++ ([(⟨strOfNums ([IntKind.wrap .u8 (IntKind.wrap .i64 (97 + x2024))] : List Int), t2047.1⟩ : T_api_Reg)] : List T_api_Reg), A2072, c2073, x2029, x2030 ++ ([(⟨(⟨#[]⟩ : ByteArray), t2047.1⟩ : T_api_Reg)] : List T_api_Reg), A2057, c2058, x2034, (by rw [← hag2037]; exact h), ha.sub (subs_cons KR (subs_cons KR (subs_cons KR (subs_cons KR (subs_cons KR (subs_cons KR (subs_cons KR (subs_nil _)))))))), HW.pick [0, 1, 2] [3, 4] (by decide) (by decide) KR KR⟩
                    · skip
                      replace h := ite_neg' h hp2082
                      refine condT ha KR KR (t := ((bt a0 (IntKind.wrap .i64 (26 + (IntKind.wrap .i64 (24 * x2024))))) != 0)) (ineq_t hp2082) ?_
                      refine wp_seq_k (fun K2083 hK2084 => ?_)
                      refine wp_region_lit ?_
                      refine stepp ha 104 (.int .i64 x2023) KR KR ?_; clear ha a; intro a ha
                      refine stepp ha 105 (.int .i64 (IntKind.wrap .i64 (x2023 + 1))) KR KR ?_; clear ha a; intro a ha
                      refine stepp ha 10 (.int .i64 (IntKind.wrap .i64 (x2023 + 1))) KR KR ?_; clear ha a; intro a ha
                      refine endl ?_
                      refine thenN (hK2084 _ _ ?_); clear hK2084
                      refine wp_seq_k (fun K2085 hK2086 => ?_)
                      refine wp_region_lit ?_
                      refine stepp ha 106 (.pointer (some ⟨b1851, 3, none⟩)) KR KR ?_; clear ha a; intro a ha
                      refine stepl ha 107 (HW.ca (i := 1) (b := b1851) (C := #[.int .u32 (IntKind.wrap .u32 t1838.1), .int .i64 (IntKind.wrap .i64 (bt a0 4)), .slice A2057 (x2030 ++ ([(⟨(⟨#[]⟩ : ByteArray), t2047.1⟩ : T_api_Reg)] : List T_api_Reg)).length c2058, .int .i64 x2034]) (T := 35) (fr := (0, 0)) KR) 3 3 (.tmp 106) (.int .i64 x2034) rfl KR KR KR ?_; clear ha a; intro a ha
                      refine stepp ha 108 (.bool (decide (x2034 < 0))) KR KR ?_; clear ha a; intro a ha
                      refine endl ?_
                      refine thenN (hK2086 _ _ ?_); clear hK2086
                      by_cases hp2087 : x2034 < 0
                      · skip
                        replace h := ite_pos' h hp2087
                        refine condT ha KR KR (t := decide (x2034 < 0)) (decide_eq_true hp2087) ?_
                        refine wp_seq_k (fun K2088 hK2089 => ?_)
                        refine wp_region_lit ?_
                        refine stepp ha 109 (.int .i64 x2024) KR KR ?_; clear ha a; intro a ha
                        refine stepp ha 110 (.pointer (some ⟨b1851, 3, none⟩)) KR KR ?_; clear ha a; intro a ha
                        refine stepst ha HW 1 (b := b1851) (C := #[.int .u32 (IntKind.wrap .u32 t1838.1), .int .i64 (IntKind.wrap .i64 (bt a0 4)), .slice A2057 (x2030 ++ ([(⟨(⟨#[]⟩ : ByteArray), t2047.1⟩ : T_api_Reg)] : List T_api_Reg)).length c2058, .int .i64 x2034]) (T := 35) KR 3 3 (.tmp 110) (.tmp 109) (.int .i64 x2024) #[.int .u32 (IntKind.wrap .u32 t1838.1), .int .i64 (IntKind.wrap .i64 (bt a0 4)), .slice A2057 (x2030 ++ ([(⟨(⟨#[]⟩ : ByteArray), t2047.1⟩ : T_api_Reg)] : List T_api_Reg)).length c2058, .int .i64 x2024] rfl KR KR KR KR KR KR KR ?_; clear ha HW a; intro a W2090 HW ha
                        refine endl ?_
                        refine thenN (hK2089 _ _ ?_); clear hK2089
                        refine wp_region_lit ?_
                        refine stepp ha 111 (.pointer (some ⟨b1881, 0, none⟩)) KR KR ?_; clear ha a; intro a ha
                        refine stepl ha 112 (HW.ca (i := 0) (b := b1881) (C := #[.slice A2072 (x2025 ++ ([(⟨strOfNums ([IntKind.wrap .u8 (IntKind.wrap .i64 (97 + x2024))] : List Int), t2047.1⟩ : T_api_Reg)] : List T_api_Reg)).length c2073, .int .i64 (IntKind.wrap .i64 (bt a0 4)), .string x2029, .int .u32 (IntKind.wrap .u32 t1838.1), .bool ((bt a0 9) == 1)]) (T := 27) (fr := (0, 0)) KR) 22 0 (.tmp 111) (.slice A2072 (x2025 ++ ([(⟨strOfNums ([IntKind.wrap .u8 (IntKind.wrap .i64 (97 + x2024))] : List Int), t2047.1⟩ : T_api_Reg)] : List T_api_Reg)).length c2073) rfl KR KR KR ?_; clear ha a; intro a ha
                        refine stepp ha 113 (.int .i64 x2024) KR KR ?_; clear ha a; intro a ha
                        obtain ⟨hA2091, h_⟩ := asrt_some h; clear h; have h := h_; clear h_
                        obtain ⟨hA2092, h_⟩ := asrt_some h; clear h; have h := h_; clear h_
                        refine stepie T_api_Reg.enc T_api_Reg.z ha 114 (fun _ => rfl) (v := .slice A2072 (x2025 ++ ([(⟨strOfNums ([IntKind.wrap .u8 (IntKind.wrap .i64 (97 + x2024))] : List Int), t2047.1⟩ : T_api_Reg)] : List T_api_Reg)).length c2073) (xs := x2025 ++ ([(⟨strOfNums ([IntKind.wrap .u8 (IntKind.wrap .i64 (97 + x2024))] : List Int), t2047.1⟩ : T_api_Reg)] : List T_api_Reg)) (HW.rdo (i := 4) (q := ⟨44, 2, .slice A2072 (x2025 ++ ([(⟨strOfNums ([IntKind.wrap .u8 (IntKind.wrap .i64 (97 + x2024))] : List Int), t2047.1⟩ : T_api_Reg)] : List T_api_Reg)).length c2073, (x2025 ++ ([(⟨strOfNums ([IntKind.wrap .u8 (IntKind.wrap .i64 (97 + x2024))] : List Int), t2047.1⟩ : T_api_Reg)] : List T_api_Reg)).length, encs T_api_Reg.enc (x2025 ++ ([(⟨strOfNums ([IntKind.wrap .u8 (IntKind.wrap .i64 (97 + x2024))] : List Int), t2047.1⟩ : T_api_Reg)] : List T_api_Reg))⟩) KR) 22 44 (.tmp 112) (.tmp 113) .i64 x2024 rfl KR KR KR KR hA2091 (show (x2024 : Int) < ((x2025 ++ ([(⟨strOfNums ([IntKind.wrap .u8 (IntKind.wrap .i64 (97 + x2024))] : List Int), t2047.1⟩ : T_api_Reg)] : List T_api_Reg)).length : Int) from hA2092) KR ?_; clear ha a; intro b2093 off2094 a hC2095 ha
                        refine stepp ha 115 (.pointer (some ⟨b2093, off2094, none⟩)) KR KR ?_; clear ha a; intro a ha
                        refine stepl ha 116 hC2095 9 0 (.tmp 115) (.string ((rdL T_api_Reg.z (x2025 ++ ([(⟨strOfNums ([IntKind.wrap .u8 (IntKind.wrap .i64 (97 + x2024))] : List Int), t2047.1⟩ : T_api_Reg)] : List T_api_Reg)) x2024).f0)) rfl KR KR KR ?_; clear ha a; intro a ha
                        refine stepp ha 117 (.pointer (some ⟨b1881, 1, none⟩)) KR KR ?_; clear ha a; intro a ha
                        refine stepp ha 118 (.pointer (some ⟨b1881, 2, none⟩)) KR KR ?_; clear ha a; intro a ha
                        refine stepst ha HW 0 (b := b1881) (C := #[.slice A2072 (x2025 ++ ([(⟨strOfNums ([IntKind.wrap .u8 (IntKind.wrap .i64 (97 + x2024))] : List Int), t2047.1⟩ : T_api_Reg)] : List T_api_Reg)).length c2073, .int .i64 (IntKind.wrap .i64 (bt a0 4)), .string x2029, .int .u32 (IntKind.wrap .u32 t1838.1), .bool ((bt a0 9) == 1)]) (T := 27) KR 9 2 (.tmp 118) (.tmp 116) (.string ((rdL T_api_Reg.z (x2025 ++ ([(⟨strOfNums ([IntKind.wrap .u8 (IntKind.wrap .i64 (97 + x2024))] : List Int), t2047.1⟩ : T_api_Reg)] : List T_api_Reg)) x2024).f0)) #[.slice A2072 (x2025 ++ ([(⟨strOfNums ([IntKind.wrap .u8 (IntKind.wrap .i64 (97 + x2024))] : List Int), t2047.1⟩ : T_api_Reg)] : List T_api_Reg)).length c2073, .int .i64 (IntKind.wrap .i64 (bt a0 4)), .string ((rdL T_api_Reg.z (x2025 ++ ([(⟨strOfNums ([IntKind.wrap .u8 (IntKind.wrap .i64 (97 + x2024))] : List Int), t2047.1⟩ : T_api_Reg)] : List T_api_Reg)) x2024).f0), .int .u32 (IntKind.wrap .u32 t1838.1), .bool ((bt a0 9) == 1)] rfl KR KR KR KR KR KR KR ?_; clear ha HW a; intro a W2096 HW ha
                        refine endl ?_
                        refine blkN ?_
                        refine thenN (hK2044 _ _ ?_); clear hK2044
                        refine wp_region_lit ?_
                        refine stepp ha 69 (.int .i64 x2024) KR KR ?_; clear ha a; intro a ha
                        refine stepp ha 70 (.int .i64 (IntKind.wrap .i64 (x2024 + 1))) KR KR ?_; clear ha a; intro a ha
                        refine stepp ha 11 (.int .i64 (IntKind.wrap .i64 (x2024 + 1))) KR KR ?_; clear ha a; intro a ha
                        refine endl ?_
                        exact thenN ⟨k2036, Nat.lt_succ_self k2036, IntKind.wrap .i64 (x2023 + 1), IntKind.wrap .i64 (x2024 + 1), x2025 ++ ([(⟨strOfNums ([IntKind.wrap .u8 (IntKind.wrap .i64 (97 + x2024))] : List Int), t2047.1⟩ : T_api_Reg)] : List T_api_Reg), A2072, c2073, (rdL T_api_Reg.z (x2025 ++ ([(⟨strOfNums ([IntKind.wrap .u8 (IntKind.wrap .i64 (97 + x2024))] : List Int), t2047.1⟩ : T_api_Reg)] : List T_api_Reg)) x2024).f0, x2030 ++ ([(⟨(⟨#[]⟩ : ByteArray), t2047.1⟩ : T_api_Reg)] : List T_api_Reg), A2057, c2058, x2024, (by rw [← hag2037]; exact h), ha.sub (subs_cons KR (subs_cons KR (subs_cons KR (subs_cons KR (subs_cons KR (subs_cons KR (subs_cons KR (subs_nil _)))))))), HW.pick [0, 1, 2] [3, 4] (by decide) (by decide) KR KR⟩
                      · skip
                        replace h := ite_neg' h hp2087
                        refine condF ha KR KR (t := decide (x2034 < 0)) (decide_eq_false hp2087) ?_
                        refine wp_skip ?_
                        refine blkN ?_
                        refine thenN (hK2044 _ _ ?_); clear hK2044
                        refine wp_region_lit ?_
                        refine stepp ha 69 (.int .i64 x2024) KR KR ?_; clear ha a; intro a ha
                        refine stepp ha 70 (.int .i64 (IntKind.wrap .i64 (x2024 + 1))) KR KR ?_; clear ha a; intro a ha
                        refine stepp ha 11 (.int .i64 (IntKind.wrap .i64 (x2024 + 1))) KR KR ?_; clear ha a; intro a ha
                        refine endl ?_
                        exact thenN ⟨k2036, Nat.lt_succ_self k2036, IntKind.wrap .i64 (x2023 + 1), IntKind.wrap .i64 (x2024 + 1), x2025 ++ ([(⟨strOfNums ([IntKind.wrap .u8 (IntKind.wrap .i64 (97 + x2024))] : List Int), t2047.1⟩ : T_api_Reg)] : List T_api_Reg), A2072, c2073, x2029, x2030 ++ ([(⟨(⟨#[]⟩ : ByteArray), t2047.1⟩ : T_api_Reg)] : List T_api_Reg), A2057, c2058, x2034, (by rw [← hag2037]; exact h), ha.sub (subs_cons KR (subs_cons KR (subs_cons KR (subs_cons KR (subs_cons KR (subs_cons KR (subs_cons KR (subs_nil _)))))))), HW.pick [0, 1, 2] [3, 4] (by decide) (by decide) KR KR⟩
                  · skip
                    replace h := ite_neg' h hp2042
                    refine condF ha KR KR (t := decide (x2024 < (IntKind.wrap .i64 t1844.1))) (decide_eq_false hp2042) ?_
                    refine wp_exit ?_
                    refine thenE ?_
                    refine thenE ?_
                    refine inBlk ?_
                    refine thenN (hK1888 _ _ ?_); clear hK1888
                    refine wp_seq_k (fun K2097 hK2098 => ?_)
                    refine wp_seq_k (fun K2099 hK2100 => ?_)
                    refine wp_region_lit ?_
                    refine stepl ha 119 (HW.ca (i := 0) (b := b1881) (C := #[.slice A2026 x2025.length c2027, .int .i64 (IntKind.wrap .i64 (bt a0 4)), .string x2029, .int .u32 (IntKind.wrap .u32 t1838.1), .bool ((bt a0 9) == 1)]) (T := 27) (fr := (0, 0)) KR) 27 0 (.tmp 9) (.agg #[.slice A2026 x2025.length c2027, .int .i64 (IntKind.wrap .i64 (bt a0 4)), .string x2029, .int .u32 (IntKind.wrap .u32 t1838.1), .bool ((bt a0 9) == 1)]) rfl KR KR KR ?_; clear ha a; intro a ha
                    obtain ⟨t2101, ht2102, h_⟩ := bind_some' h; clear h; have h := h_; clear h_
                    refine stepc ha 120 KR KR (headgateref27_Report.calls K (⟨x2025, (⟨IntKind.wrap .i64 (bt a0 4), x2029⟩ : T_api_Hold), IntKind.wrap .u32 t1838.1, ((bt a0 9) == 1)⟩ : T_api_Table) A2026 c2027 t2101 _ (HW.rdo (i := 1) (q := ⟨44, 2, .slice A2026 x2025.length c2027, x2025.length, encs T_api_Reg.enc x2025⟩) KR) ht2102) ?_; clear ha a; rintro e W2103 ⟨rfl, HX2104⟩
                    refine ⟨_, rfl, ?_⟩; intro a ha; replace HW := HW.callw HX2104; clear HX2104
                    refine stepp ha 121 (.string a0) KR KR ?_; clear ha a; intro a ha
                    refine stepp ha 122 (.bool (!(t2101.toList == a0.toList))) KR KR ?_; clear ha a; intro a ha
                    refine stepp ha 123 (.bool (!(t2101.toList == a0.toList))) KR KR ?_; clear ha a; intro a ha
                    by_cases hp2105 : t2101 = a0
                    · skip
                      replace h := ite_pos' h hp2105
                      replace ha := ha.bool 123 KR (str_ne_f hp2105)
                      refine stepp ha 124 (.pointer (some ⟨b1851, 1, none⟩)) KR KR ?_; clear ha a; intro a ha
                      refine stepl ha 125 (HW.ca (i := 1) (b := b1851) (C := #[.int .u32 (IntKind.wrap .u32 t1838.1), .int .i64 (IntKind.wrap .i64 (bt a0 4)), .slice A2031 x2030.length c2032, .int .i64 x2034]) (T := 35) (fr := (0, 0)) KR) 3 1 (.tmp 124) (.int .i64 (IntKind.wrap .i64 (bt a0 4))) rfl KR KR KR ?_; clear ha a; intro a ha
                      refine stepp ha 126 (.bool ((IntKind.wrap .i64 (bt a0 4)) == 0)) KR KR ?_; clear ha a; intro a ha
                      refine stepp ha 127 (.bool ((IntKind.wrap .i64 (bt a0 4)) == 0)) KR KR ?_; clear ha a; intro a ha
                      by_cases hp2106 : (IntKind.wrap .i64 (bt a0 4)) = 0
                      · skip
                        replace h := ite_pos' h hp2106
                        replace ha := ha.bool 127 KR (ieq_t hp2106)
                        refine stepp ha 128 (.int .i64 x2023) KR KR ?_; clear ha a; intro a ha
                        refine stepp ha 129 (.bool (decide (x2023 > 0))) KR KR ?_; clear ha a; intro a ha
                        refine stepp ha 130 (.bool (decide (x2023 > 0))) KR KR ?_; clear ha a; intro a ha
                        refine stepp ha 131 (.bool (decide (x2023 > 0))) KR KR ?_; clear ha a; intro a ha
                        refine endl ?_
                        refine thenN (hK2100 _ _ ?_); clear hK2100
                        by_cases hp2107 : x2023 > 0
                        · skip
                          replace h := ite_pos' h hp2107
                          refine condT ha KR KR (t := decide (x2023 > 0)) (decide_eq_true hp2107) ?_
                          refine wp_seq_k (fun K2108 hK2109 => ?_)
                          refine wp_region_lit ?_
                          refine stepp ha 132 (.agg #[.int .u32 0, .int .i64 0, .slice none 0 0, .int .i64 0]) KR KR ?_; clear ha a; intro a ha
                          refine stepst ha HW 2 (b := b1825) (C := #[.int .u32 0, .int .i64 0, .slice none 0 0, .int .i64 0]) (T := 35) KR 35 0 (.tmp 2) (.tmp 132) (.agg #[.int .u32 0, .int .i64 0, .slice none 0 0, .int .i64 0]) #[.int .u32 0, .int .i64 0, .slice none 0 0, .int .i64 0] rfl KR KR KR KR KR KR KR ?_; clear ha HW a; intro a W2110 HW ha
                          refine stepp ha 3 (.int .i64 180) KR KR ?_; clear ha a; intro a ha
                          refine endl ?_
                          refine thenN (hK2109 _ _ ?_); clear hK2109
                          refine wp_ret ?_
                          refine thenR ?_
                          obtain rfl := Option.some.inj h
                          replace HW := HW.nilo 44 2
                          exact finv ha _ _ rfl (.cell (ad := ⟨b1825, 0, none⟩) (v := .agg #[.int .u32 0, .int .i64 0, .slice none 0 0, .int .i64 0]) KR (run_loadVar_ca0 (HW.ca (i := 2) (b := b1825) (C := #[.int .u32 0, .int .i64 0, .slice none 0 0, .int .i64 0]) (T := 35) (fr := (0, 0)) KR) 35 0 (.agg #[.int .u32 0, .int .i64 0, .slice none 0 0, .int .i64 0]) KR) (.tmp (v := .int .i64 180) KR .nil)) (.tuple #[.agg #[.int .u32 0, .int .i64 0, .slice none 0 0, .int .i64 0], .int .i64 180]) rfl ⟨none, 0, rfl, HW.pick [] [0] (by decide) (by decide) rfl KR⟩
                        · skip
                          replace h := ite_neg' h hp2107
                          refine condF ha KR KR (t := decide (x2023 > 0)) (decide_eq_false hp2107) ?_
                          refine wp_skip ?_
                          refine thenN (hK2098 _ _ ?_); clear hK2098
                          refine wp_seq_k (fun K2116 hK2117 => ?_)
                          refine wp_region_lit ?_
                          refine stepl ha 133 (HW.ca (i := 1) (b := b1851) (C := #[.int .u32 (IntKind.wrap .u32 t1838.1), .int .i64 (IntKind.wrap .i64 (bt a0 4)), .slice A2031 x2030.length c2032, .int .i64 x2034]) (T := 35) (fr := (0, 0)) KR) 35 0 (.tmp 8) (.agg #[.int .u32 (IntKind.wrap .u32 t1838.1), .int .i64 (IntKind.wrap .i64 (bt a0 4)), .slice A2031 x2030.length c2032, .int .i64 x2034]) rfl KR KR KR ?_; clear ha a; intro a ha
                          refine stepst ha HW 2 (b := b1825) (C := #[.int .u32 0, .int .i64 0, .slice none 0 0, .int .i64 0]) (T := 35) KR 35 0 (.tmp 2) (.tmp 133) (.agg #[.int .u32 (IntKind.wrap .u32 t1838.1), .int .i64 (IntKind.wrap .i64 (bt a0 4)), .slice A2031 x2030.length c2032, .int .i64 x2034]) #[.int .u32 (IntKind.wrap .u32 t1838.1), .int .i64 (IntKind.wrap .i64 (bt a0 4)), .slice A2031 x2030.length c2032, .int .i64 x2034] rfl KR KR KR KR KR KR KR ?_; clear ha HW a; intro a W2118 HW ha
                          refine stepp ha 3 (.int .i64 0) KR KR ?_; clear ha a; intro a ha
                          refine endl ?_
                          refine thenN (hK2117 _ _ ?_); clear hK2117
                          refine wp_ret ?_
                          obtain rfl := Option.some.inj h
                          exact finv ha _ _ rfl (.cell (ad := ⟨b1825, 0, none⟩) (v := .agg #[.int .u32 (IntKind.wrap .u32 t1838.1), .int .i64 (IntKind.wrap .i64 (bt a0 4)), .slice A2031 x2030.length c2032, .int .i64 x2034]) KR (run_loadVar_ca0 (HW.ca (i := 2) (b := b1825) (C := #[.int .u32 (IntKind.wrap .u32 t1838.1), .int .i64 (IntKind.wrap .i64 (bt a0 4)), .slice A2031 x2030.length c2032, .int .i64 x2034]) (T := 35) (fr := (0, 0)) KR) 35 0 (.agg #[.int .u32 (IntKind.wrap .u32 t1838.1), .int .i64 (IntKind.wrap .i64 (bt a0 4)), .slice A2031 x2030.length c2032, .int .i64 x2034]) KR) (.tmp (v := .int .i64 0) KR .nil)) (.tuple #[.agg #[.int .u32 (IntKind.wrap .u32 t1838.1), .int .i64 (IntKind.wrap .i64 (bt a0 4)), .slice A2031 x2030.length c2032, .int .i64 x2034], .int .i64 0]) rfl ⟨A2031, c2032, rfl, HW.pick [] [0] (by decide) (by decide) rfl KR⟩
                      · skip
                        replace h := ite_neg' h hp2106
                        replace ha := ha.bool 127 KR (ieq_f hp2106)
                        refine stepo ha 128 KR ?_; clear ha a; intro a ha
                        refine stepo ha 129 KR ?_; clear ha a; intro a ha
                        refine stepp ha 130 (.bool false) KR KR ?_; clear ha a; intro a ha
                        refine stepp ha 131 (.bool false) KR KR ?_; clear ha a; intro a ha
                        refine endl ?_
                        refine thenN (hK2100 _ _ ?_); clear hK2100
                        refine condF ha KR KR (t := false) (rfl) ?_
                        refine wp_skip ?_
                        refine thenN (hK2098 _ _ ?_); clear hK2098
                        refine wp_seq_k (fun K2119 hK2120 => ?_)
                        refine wp_region_lit ?_
                        refine stepl ha 133 (HW.ca (i := 1) (b := b1851) (C := #[.int .u32 (IntKind.wrap .u32 t1838.1), .int .i64 (IntKind.wrap .i64 (bt a0 4)), .slice A2031 x2030.length c2032, .int .i64 x2034]) (T := 35) (fr := (0, 0)) KR) 35 0 (.tmp 8) (.agg #[.int .u32 (IntKind.wrap .u32 t1838.1), .int .i64 (IntKind.wrap .i64 (bt a0 4)), .slice A2031 x2030.length c2032, .int .i64 x2034]) rfl KR KR KR ?_; clear ha a; intro a ha
                        refine stepst ha HW 2 (b := b1825) (C := #[.int .u32 0, .int .i64 0, .slice none 0 0, .int .i64 0]) (T := 35) KR 35 0 (.tmp 2) (.tmp 133) (.agg #[.int .u32 (IntKind.wrap .u32 t1838.1), .int .i64 (IntKind.wrap .i64 (bt a0 4)), .slice A2031 x2030.length c2032, .int .i64 x2034]) #[.int .u32 (IntKind.wrap .u32 t1838.1), .int .i64 (IntKind.wrap .i64 (bt a0 4)), .slice A2031 x2030.length c2032, .int .i64 x2034] rfl KR KR KR KR KR KR KR ?_; clear ha HW a; intro a W2121 HW ha
                        refine stepp ha 3 (.int .i64 0) KR KR ?_; clear ha a; intro a ha
                        refine endl ?_
                        refine thenN (hK2120 _ _ ?_); clear hK2120
                        refine wp_ret ?_
                        obtain rfl := Option.some.inj h
                        exact finv ha _ _ rfl (.cell (ad := ⟨b1825, 0, none⟩) (v := .agg #[.int .u32 (IntKind.wrap .u32 t1838.1), .int .i64 (IntKind.wrap .i64 (bt a0 4)), .slice A2031 x2030.length c2032, .int .i64 x2034]) KR (run_loadVar_ca0 (HW.ca (i := 2) (b := b1825) (C := #[.int .u32 (IntKind.wrap .u32 t1838.1), .int .i64 (IntKind.wrap .i64 (bt a0 4)), .slice A2031 x2030.length c2032, .int .i64 x2034]) (T := 35) (fr := (0, 0)) KR) 35 0 (.agg #[.int .u32 (IntKind.wrap .u32 t1838.1), .int .i64 (IntKind.wrap .i64 (bt a0 4)), .slice A2031 x2030.length c2032, .int .i64 x2034]) KR) (.tmp (v := .int .i64 0) KR .nil)) (.tuple #[.agg #[.int .u32 (IntKind.wrap .u32 t1838.1), .int .i64 (IntKind.wrap .i64 (bt a0 4)), .slice A2031 x2030.length c2032, .int .i64 x2034], .int .i64 0]) rfl ⟨A2031, c2032, rfl, HW.pick [] [0] (by decide) (by decide) rfl KR⟩
                    · skip
                      replace h := ite_neg' h hp2105
                      replace ha := ha.bool 123 KR (str_ne_t hp2105)
                      refine stepo ha 124 KR ?_; clear ha a; intro a ha
                      refine stepo ha 125 KR ?_; clear ha a; intro a ha
                      refine stepo ha 126 KR ?_; clear ha a; intro a ha
                      refine stepo ha 127 KR ?_; clear ha a; intro a ha
                      refine stepo ha 128 KR ?_; clear ha a; intro a ha
                      refine stepo ha 129 KR ?_; clear ha a; intro a ha
                      refine stepo ha 130 KR ?_; clear ha a; intro a ha
                      refine stepp ha 131 (.bool true) KR KR ?_; clear ha a; intro a ha
                      refine endl ?_
                      refine thenN (hK2100 _ _ ?_); clear hK2100
                      refine condT ha KR KR (t := true) (rfl) ?_
                      refine wp_seq_k (fun K2112 hK2113 => ?_)
                      refine wp_region_lit ?_
                      refine stepp ha 132 (.agg #[.int .u32 0, .int .i64 0, .slice none 0 0, .int .i64 0]) KR KR ?_; clear ha a; intro a ha
                      refine stepst ha HW 2 (b := b1825) (C := #[.int .u32 0, .int .i64 0, .slice none 0 0, .int .i64 0]) (T := 35) KR 35 0 (.tmp 2) (.tmp 132) (.agg #[.int .u32 0, .int .i64 0, .slice none 0 0, .int .i64 0]) #[.int .u32 0, .int .i64 0, .slice none 0 0, .int .i64 0] rfl KR KR KR KR KR KR KR ?_; clear ha HW a; intro a W2114 HW ha
                      refine stepp ha 3 (.int .i64 180) KR KR ?_; clear ha a; intro a ha
                      refine endl ?_
                      refine thenN (hK2113 _ _ ?_); clear hK2113
                      refine wp_ret ?_
                      refine thenR ?_
                      obtain rfl := Option.some.inj h
                      replace HW := HW.nilo 44 2
                      exact finv ha _ _ rfl (.cell (ad := ⟨b1825, 0, none⟩) (v := .agg #[.int .u32 0, .int .i64 0, .slice none 0 0, .int .i64 0]) KR (run_loadVar_ca0 (HW.ca (i := 2) (b := b1825) (C := #[.int .u32 0, .int .i64 0, .slice none 0 0, .int .i64 0]) (T := 35) (fr := (0, 0)) KR) 35 0 (.agg #[.int .u32 0, .int .i64 0, .slice none 0 0, .int .i64 0]) KR) (.tmp (v := .int .i64 180) KR .nil)) (.tuple #[.agg #[.int .u32 0, .int .i64 0, .slice none 0 0, .int .i64 0], .int .i64 180]) rfl ⟨none, 0, rfl, HW.pick [] [0] (by decide) (by decide) rfl KR⟩
      · skip
        replace h := ite_neg' h hp1859
        replace ha := ha.bool 45 KR (ineq_t hp1859)
        refine stepo ha 46 KR ?_; clear ha a; intro a ha
        refine stepo ha 47 KR ?_; clear ha a; intro a ha
        refine stepo ha 48 KR ?_; clear ha a; intro a ha
        refine stepp ha 49 (.bool true) KR KR ?_; clear ha a; intro a ha
        refine stepp ha 50 (.bool true) KR KR ?_; clear ha a; intro a ha
        refine stepo ha 51 KR ?_; clear ha a; intro a ha
        refine stepo ha 52 KR ?_; clear ha a; intro a ha
        refine stepo ha 53 KR ?_; clear ha a; intro a ha
        refine stepp ha 54 (.bool true) KR KR ?_; clear ha a; intro a ha
        refine endl ?_
        refine thenN (hK1857 _ _ ?_); clear hK1857
        refine condT ha KR KR (t := true) (rfl) ?_
        refine wp_seq_k (fun K1875 hK1876 => ?_)
        refine wp_region_lit ?_
        refine stepp ha 55 (.agg #[.int .u32 0, .int .i64 0, .slice none 0 0, .int .i64 0]) KR KR ?_; clear ha a; intro a ha
        refine stepst ha HW 1 (b := b1825) (C := #[.int .u32 0, .int .i64 0, .slice none 0 0, .int .i64 0]) (T := 35) KR 35 0 (.tmp 2) (.tmp 55) (.agg #[.int .u32 0, .int .i64 0, .slice none 0 0, .int .i64 0]) #[.int .u32 0, .int .i64 0, .slice none 0 0, .int .i64 0] rfl KR KR KR KR KR KR KR ?_; clear ha HW a; intro a W1877 HW ha
        refine stepp ha 3 (.int .i64 180) KR KR ?_; clear ha a; intro a ha
        refine endl ?_
        refine thenN (hK1876 _ _ ?_); clear hK1876
        refine wp_ret ?_
        refine thenR ?_
        obtain rfl := Option.some.inj h
        replace HW := HW.nilo 44 2
        exact finv ha _ _ rfl (.cell (ad := ⟨b1825, 0, none⟩) (v := .agg #[.int .u32 0, .int .i64 0, .slice none 0 0, .int .i64 0]) KR (run_loadVar_ca0 (HW.ca (i := 1) (b := b1825) (C := #[.int .u32 0, .int .i64 0, .slice none 0 0, .int .i64 0]) (T := 35) (fr := (0, 0)) KR) 35 0 (.agg #[.int .u32 0, .int .i64 0, .slice none 0 0, .int .i64 0]) KR) (.tmp (v := .int .i64 180) KR .nil)) (.tuple #[.agg #[.int .u32 0, .int .i64 0, .slice none 0 0, .int .i64 0], .int .i64 180]) rfl ⟨none, 0, rfl, HW.pick [] [0] (by decide) (by decide) rfl KR⟩
/-! ### headgate/headgatekeep.Regs: function 20 -/
def headgatekeep_Regs.b0 (K : Nat) (a0 : List T_api_Reg) (a1 : List T_api_Reg) (again2196 : Int → Option Bool) (x2197 : Int) : Option Bool :=
  if x2197 < (a0.length : Int) then (asrt (0 ≤ x2197) (asrt (x2197 < (a1.length : Int)) (if ((rdL T_api_Reg.z a0 x2197).f0) = ((rdL T_api_Reg.z a1 x2197).f0) then (if ((rdL T_api_Reg.z a0 x2197).f1) = ((rdL T_api_Reg.z a1 x2197).f1) then (again2196 (IntKind.wrap .i64 (x2197 + 1))) else (some false)) else (some false)))) else (some true)
def headgatekeep_Regs.l0 (K : Nat) (a0 : List T_api_Reg) (a1 : List T_api_Reg) : Nat → Int → Option Bool
  | 0, _ => none
  | k_ + 1, x2197 => headgatekeep_Regs.b0 K a0 a1 (headgatekeep_Regs.l0 K a0 a1 k_) x2197
def headgatekeep_Regs.f (K : Nat) (a0 : List T_api_Reg) (a1 : List T_api_Reg) : Option Bool :=
  if (a0.length : Int) = (a1.length : Int) then (headgatekeep_Regs.l0 K a0 a1 K 0) else (some false)
set_option maxRecDepth 100000 in
set_option maxHeartbeats 4000000 in
theorem headgatekeep_Regs.calls (K : Nat) (a0 : List T_api_Reg) (a1 : List T_api_Reg) (A0_0 : Option Addr) (c0_0 : Nat) (A1_1 : Option Addr) (c1_1 : Nat) (r : Bool) (w : World) (hr0_0 : Rd 2 w (.slice A0_0 a0.length c0_0) a0.length (encs T_api_Reg.enc a0)) (hr1_1 : Rd 2 w (.slice A1_1 a1.length c1_1) a1.length (encs T_api_Reg.enc a1)) (h : headgatekeep_Regs.f K a0 a1 = some r) :
    Calls Tryd.prog 20 #[.slice A0_0 a0.length c0_0, .slice A1_1 a1.length c1_1] w (fun e W' => e = .returned (.bool r) ∧ Wd w W' [] [] ) := by
  refine sxstart (n := 41) (l := [(0, .slice A0_0 a0.length c0_0), (1, .slice A1_1 a1.length c1_1)]) Tryd.func20 rfl rfl (Nat.le_of_ble_eq_true KR) (subsA_cons rfl (subsA_cons rfl (subsA_nil _))) ?_
  intro a ha
  have HW := Wd.refl w
  unfold headgatekeep_Regs.f at h
  refine wp_seq_k (fun K2122 hK2123 => ?_)
  refine wp_region_lit ?_
  refine stepp ha 4 (.bool false) KR KR ?_; clear ha a; intro a ha
  refine endl ?_
  refine thenN (hK2123 _ _ ?_); clear hK2123
  refine wp_seq_k (fun K2124 hK2125 => ?_)
  refine wp_seq_k (fun K2126 hK2127 => ?_)
  refine wp_region_lit ?_
  refine stepp ha 6 (.slice A0_0 a0.length c0_0) KR KR ?_; clear ha a; intro a ha
  refine stepp ha 7 (.int .i64 (a0.length : Int)) KR KR ?_; clear ha a; intro a ha
  refine stepp ha 8 (.slice A1_1 a1.length c1_1) KR KR ?_; clear ha a; intro a ha
  refine stepp ha 9 (.int .i64 (a1.length : Int)) KR KR ?_; clear ha a; intro a ha
  refine stepp ha 10 (.bool ((a0.length : Int) != (a1.length : Int))) KR KR ?_; clear ha a; intro a ha
  refine endl ?_
  refine thenN (hK2127 _ _ ?_); clear hK2127
  by_cases hp2128 : (a0.length : Int) = (a1.length : Int)
  · skip
    replace h := ite_pos' h hp2128
    refine condF ha KR KR (t := ((a0.length : Int) != (a1.length : Int))) (ineq_f hp2128) ?_
    refine wp_skip ?_
    refine thenN (hK2125 _ _ ?_); clear hK2125
    refine wp_seq_k (fun K2131 hK2132 => ?_)
    refine wp_seq_k (fun K2133 hK2134 => ?_)
    refine wp_region_lit ?_
    refine stepp ha 5 (.int .i64 0) KR KR ?_; clear ha a; intro a ha
    refine endl ?_
    refine thenN (hK2134 _ _ ?_); clear hK2134
    refine wp_block ?_
    refine loopk (fun k => fun a W2198 => ∃ (x2197 : Int), headgatekeep_Regs.l0 K a0 a1 k x2197 = some r ∧ Has 41 [(0, .slice A0_0 a0.length c0_0), (1, .slice A1_1 a1.length c1_1), (5, .int .i64 x2197)] a ∧ Wd w W2198 [] []) K ?_ ?_
    · skip
      exact ⟨0, h, ha.sub (subs_cons KR (subs_cons KR (subs_cons KR (subs_nil _)))), HW.pick [] [] (by decide) (by decide) KR KR⟩
    · skip
      intro k a W2198 hI
      obtain ⟨x2197, h, ha, HW⟩ := hI
      cases k with
      | zero => exact (none_some (show none = some r from h)).elim
      | succ k2199 =>
        replace h : headgatekeep_Regs.b0 K a0 a1 (headgatekeep_Regs.l0 K a0 a1 k2199) x2197 = some r := h
        obtain ⟨again2196, hag2200⟩ : ∃ g_, g_ = headgatekeep_Regs.l0 K a0 a1 k2199 := ⟨_, rfl⟩
        rw [← hag2200] at h
        unfold headgatekeep_Regs.b0 at h
        refine wp_seq_k (fun K2201 hK2202 => ?_)
        refine wp_seq_k (fun K2203 hK2204 => ?_)
        refine wp_region_lit ?_
        refine stepp ha 11 (.int .i64 x2197) KR KR ?_; clear ha a; intro a ha
        refine stepp ha 12 (.slice A0_0 a0.length c0_0) KR KR ?_; clear ha a; intro a ha
        refine stepp ha 13 (.int .i64 (a0.length : Int)) KR KR ?_; clear ha a; intro a ha
        refine stepp ha 14 (.bool (decide (x2197 < (a0.length : Int)))) KR KR ?_; clear ha a; intro a ha
        refine endl ?_
        refine thenN (hK2204 _ _ ?_); clear hK2204
        by_cases hp2205 : x2197 < (a0.length : Int)
        · skip
          replace h := ite_pos' h hp2205
          refine condT ha KR KR (t := decide (x2197 < (a0.length : Int))) (decide_eq_true hp2205) ?_
          refine wp_skip ?_
          refine thenN (hK2202 _ _ ?_); clear hK2202
          refine wp_seq_k (fun K2206 hK2207 => ?_)
          refine wp_block ?_
          refine wp_seq_k (fun K2208 hK2209 => ?_)
          obtain ⟨hA2210, h_⟩ := asrt_some h; clear h; have h := h_; clear h_
          obtain ⟨b2212, off2213, hA2214⟩ := Rd.addr ((HW.rd0 hr0_0)) hA2210 (show (x2197 : Int) < ((a0).length : Int) from hp2205)
          obtain ⟨hA2215, h_⟩ := asrt_some h; clear h; have h := h_; clear h_
          obtain ⟨b2217, off2218, hA2219⟩ := Rd.addr ((HW.rd0 hr1_1)) hA2210 (show (x2197 : Int) < ((a1).length : Int) from hA2215)
          by_cases hp2220 : ((rdL T_api_Reg.z a0 x2197).f0) = ((rdL T_api_Reg.z a1 x2197).f0)
          · skip
            replace h := ite_pos' h hp2220
            refine regionG 24 KR KR ha HW [.fix (.slice A0_0 a0.length c0_0), .fix (.int .i64 x2197), .fix (.pointer (some ⟨b2212, off2213 + (x2197 : Int).toNat * 2, none⟩)), .fix (.pointer (some ⟨b2212, off2213 + (x2197 : Int).toNat * 2, none⟩)), .fix (.string ((rdL T_api_Reg.z a0 x2197).f0)), .fix (.slice A1_1 a1.length c1_1), .fix (.int .i64 x2197), .fix (.pointer (some ⟨b2217, off2218 + (x2197 : Int).toNat * 2, none⟩)), .fix (.pointer (some ⟨b2217, off2218 + (x2197 : Int).toNat * 2, none⟩)), .fix (.string ((rdL T_api_Reg.z a1 x2197).f0)), .fix (.bool (!(((rdL T_api_Reg.z a0 x2197).f0).toList == ((rdL T_api_Reg.z a1 x2197).f0).toList))), .fix (.bool (!(((rdL T_api_Reg.z a0 x2197).f0).toList == ((rdL T_api_Reg.z a1 x2197).f0).toList))), .fix (.slice A0_0 a0.length c0_0), .fix (.int .i64 x2197), .fix (.pointer (some ⟨b2212, off2213 + (x2197 : Int).toNat * 2, none⟩)), .fix (.pointer (some ⟨b2212, off2213 + (x2197 : Int).toNat * 2 + 1, none⟩)), .fix (.int .u64 ((rdL T_api_Reg.z a0 x2197).f1)), .fix (.slice A1_1 a1.length c1_1), .fix (.int .i64 x2197), .fix (.pointer (some ⟨b2217, off2218 + (x2197 : Int).toNat * 2, none⟩)), .fix (.pointer (some ⟨b2217, off2218 + (x2197 : Int).toNat * 2 + 1, none⟩)), .fix (.int .u64 ((rdL T_api_Reg.z a1 x2197).f1)), .fix (.bool (((rdL T_api_Reg.z a0 x2197).f1) != ((rdL T_api_Reg.z a1 x2197).f1))), .fix (.bool (((rdL T_api_Reg.z a0 x2197).f1) != ((rdL T_api_Reg.z a1 x2197).f1)))] ?_ ?_
            · skip
              refine ⟨?_, ?_, ?_, ?_, ?_, ?_, ?_, ?_, ?_, ?_, ?_, ?_, ?_, ?_, ?_, ?_, ?_, ?_, ?_, ?_, ?_, ?_, ?_, ?_, trivial⟩
              · skip
                intro a wr hn hd HW hs; have ha := hasNil hn hd
                have ha := ha.add (seeE hs 0 (.slice A0_0 a0.length c0_0) KR KR)
                refine yStep ha 17 KR ?_; intro l_ ha HK
                refine stepp ha 17 (.slice A0_0 a0.length c0_0) KR KR ?_; intro ax hax; exact HK _ _ _ hax rfl (Below.refl _ _)
              · skip
                intro a wr hn hd HW hs; have ha := hasNil hn hd
                have ha := ha.add (seeE hs 5 (.int .i64 x2197) KR KR)
                refine yStep ha 18 KR ?_; intro l_ ha HK
                refine stepp ha 18 (.int .i64 x2197) KR KR ?_; intro ax hax; exact HK _ _ _ hax rfl (Below.refl _ _)
              · skip
                intro a wr hn hd HW hs; have ha := hasNil hn hd
                have ha := ha.add (seeF hs 17 0 (.slice A0_0 a0.length c0_0) KR KR)
                have ha := ha.add (seeF hs 18 1 (.int .i64 x2197) KR KR)
                replace ha := ha.turn 17 (u := .slice A0_0 a0.length c0_0) (v := .slice (some ⟨b2212, off2213, none⟩) a0.length c0_0) KR (by rw [hA2214])
                refine yStep ha 19 KR ?_; intro l_ ha HK
                refine stepif ha 19 (sz := 2) (len := a0.length) (b := b2212) (off := off2213) (c := c0_0) 22 44 (.tmp 17) (.tmp 18) .i64 x2197 rfl KR KR KR KR hA2210 (show (x2197 : Int) < ((a0).length : Int) from hp2205) KR ?_; intro ax hax; exact HK _ _ _ hax rfl (Below.refl _ _)
              · skip
                intro a wr hn hd HW hs; have ha := hasNil hn hd
                have ha := ha.add (seeF hs 19 2 (.pointer (some ⟨b2212, off2213 + (x2197 : Int).toNat * 2, none⟩)) KR KR)
                refine yStep ha 20 KR ?_; intro l_ ha HK
                refine stepp ha 20 (.pointer (some ⟨b2212, off2213 + (x2197 : Int).toNat * 2, none⟩)) KR KR ?_; intro ax hax; exact HK _ _ _ hax rfl (Below.refl _ _)
              · skip
                intro a wr hn hd HW hs; have ha := hasNil hn hd
                have ha := ha.add (seeF hs 20 3 (.pointer (some ⟨b2212, off2213 + (x2197 : Int).toNat * 2, none⟩)) KR KR)
                refine yStep ha 21 KR ?_; intro l_ ha HK
                refine stepl ha 21 (Rd.ca T_api_Reg.enc T_api_Reg.z (fun _ => rfl) (by have h_ := ((HW.rd0 hr0_0)); rw [hA2214] at h_; exact h_) hA2210 (show (x2197 : Int) < ((a0).length : Int) from hp2205)) 9 0 (.tmp 20) (.string ((rdL T_api_Reg.z a0 x2197).f0)) rfl KR KR KR ?_; intro ax hax; exact HK _ _ _ hax rfl (Below.refl _ _)
              · skip
                intro a wr hn hd HW hs; have ha := hasNil hn hd
                have ha := ha.add (seeE hs 1 (.slice A1_1 a1.length c1_1) KR KR)
                refine yStep ha 22 KR ?_; intro l_ ha HK
                refine stepp ha 22 (.slice A1_1 a1.length c1_1) KR KR ?_; intro ax hax; exact HK _ _ _ hax rfl (Below.refl _ _)
              · skip
                intro a wr hn hd HW hs; have ha := hasNil hn hd
                have ha := ha.add (seeE hs 5 (.int .i64 x2197) KR KR)
                refine yStep ha 23 KR ?_; intro l_ ha HK
                refine stepp ha 23 (.int .i64 x2197) KR KR ?_; intro ax hax; exact HK _ _ _ hax rfl (Below.refl _ _)
              · skip
                intro a wr hn hd HW hs; have ha := hasNil hn hd
                have ha := ha.add (seeF hs 22 5 (.slice A1_1 a1.length c1_1) KR KR)
                have ha := ha.add (seeF hs 23 6 (.int .i64 x2197) KR KR)
                replace ha := ha.turn 22 (u := .slice A1_1 a1.length c1_1) (v := .slice (some ⟨b2217, off2218, none⟩) a1.length c1_1) KR (by rw [hA2219])
                refine yStep ha 24 KR ?_; intro l_ ha HK
                refine stepif ha 24 (sz := 2) (len := a1.length) (b := b2217) (off := off2218) (c := c1_1) 22 44 (.tmp 22) (.tmp 23) .i64 x2197 rfl KR KR KR KR hA2210 (show (x2197 : Int) < ((a1).length : Int) from hA2215) KR ?_; intro ax hax; exact HK _ _ _ hax rfl (Below.refl _ _)
              · skip
                intro a wr hn hd HW hs; have ha := hasNil hn hd
                have ha := ha.add (seeF hs 24 7 (.pointer (some ⟨b2217, off2218 + (x2197 : Int).toNat * 2, none⟩)) KR KR)
                refine yStep ha 25 KR ?_; intro l_ ha HK
                refine stepp ha 25 (.pointer (some ⟨b2217, off2218 + (x2197 : Int).toNat * 2, none⟩)) KR KR ?_; intro ax hax; exact HK _ _ _ hax rfl (Below.refl _ _)
              · skip
                intro a wr hn hd HW hs; have ha := hasNil hn hd
                have ha := ha.add (seeF hs 25 8 (.pointer (some ⟨b2217, off2218 + (x2197 : Int).toNat * 2, none⟩)) KR KR)
                refine yStep ha 26 KR ?_; intro l_ ha HK
                refine stepl ha 26 (Rd.ca T_api_Reg.enc T_api_Reg.z (fun _ => rfl) (by have h_ := ((HW.rd0 hr1_1)); rw [hA2219] at h_; exact h_) hA2210 (show (x2197 : Int) < ((a1).length : Int) from hA2215)) 9 0 (.tmp 25) (.string ((rdL T_api_Reg.z a1 x2197).f0)) rfl KR KR KR ?_; intro ax hax; exact HK _ _ _ hax rfl (Below.refl _ _)
              · skip
                intro a wr hn hd HW hs; have ha := hasNil hn hd
                have ha := ha.add (seeF hs 21 4 (.string ((rdL T_api_Reg.z a0 x2197).f0)) KR KR)
                have ha := ha.add (seeF hs 26 9 (.string ((rdL T_api_Reg.z a1 x2197).f0)) KR KR)
                refine yStep ha 27 KR ?_; intro l_ ha HK
                refine stepp ha 27 (.bool (!(((rdL T_api_Reg.z a0 x2197).f0).toList == ((rdL T_api_Reg.z a1 x2197).f0).toList))) KR KR ?_; intro ax hax; exact HK _ _ _ hax rfl (Below.refl _ _)
              · skip
                intro a wr hn hd HW hs; have ha := hasNil hn hd
                have ha := ha.add (seeF hs 27 10 (.bool (!(((rdL T_api_Reg.z a0 x2197).f0).toList == ((rdL T_api_Reg.z a1 x2197).f0).toList))) KR KR)
                refine yStep ha 28 KR ?_; intro l_ ha HK
                refine stepp ha 28 (.bool (!(((rdL T_api_Reg.z a0 x2197).f0).toList == ((rdL T_api_Reg.z a1 x2197).f0).toList))) KR KR ?_; intro ax hax; exact HK _ _ _ hax rfl (Below.refl _ _)
              · skip
                intro a wr hn hd HW hs; have ha := hasNil hn hd
                have ha := ha.add (seeE hs 0 (.slice A0_0 a0.length c0_0) KR KR)
                have ha := ha.add (seeF hs 28 11 (.bool (!(((rdL T_api_Reg.z a0 x2197).f0).toList == ((rdL T_api_Reg.z a1 x2197).f0).toList))) KR KR)
                have ha := ha.bool 28 KR (str_ne_f hp2220)
                refine yStep ha 29 KR ?_; intro l_ ha HK
                refine stepp ha 29 (.slice A0_0 a0.length c0_0) KR KR ?_; intro ax hax; exact HK _ _ _ hax rfl (Below.refl _ _)
              · skip
                intro a wr hn hd HW hs; have ha := hasNil hn hd
                have ha := ha.add (seeE hs 5 (.int .i64 x2197) KR KR)
                have ha := ha.add (seeF hs 28 11 (.bool (!(((rdL T_api_Reg.z a0 x2197).f0).toList == ((rdL T_api_Reg.z a1 x2197).f0).toList))) KR KR)
                have ha := ha.bool 28 KR (str_ne_f hp2220)
                refine yStep ha 30 KR ?_; intro l_ ha HK
                refine stepp ha 30 (.int .i64 x2197) KR KR ?_; intro ax hax; exact HK _ _ _ hax rfl (Below.refl _ _)
              · skip
                intro a wr hn hd HW hs; have ha := hasNil hn hd
                have ha := ha.add (seeF hs 29 12 (.slice A0_0 a0.length c0_0) KR KR)
                have ha := ha.add (seeF hs 30 13 (.int .i64 x2197) KR KR)
                have ha := ha.add (seeF hs 28 11 (.bool (!(((rdL T_api_Reg.z a0 x2197).f0).toList == ((rdL T_api_Reg.z a1 x2197).f0).toList))) KR KR)
                have ha := ha.bool 28 KR (str_ne_f hp2220)
                replace ha := ha.turn 29 (u := .slice A0_0 a0.length c0_0) (v := .slice (some ⟨b2212, off2213, none⟩) a0.length c0_0) KR (by rw [hA2214])
                refine yStep ha 31 KR ?_; intro l_ ha HK
                refine stepif ha 31 (sz := 2) (len := a0.length) (b := b2212) (off := off2213) (c := c0_0) 22 44 (.tmp 29) (.tmp 30) .i64 x2197 rfl KR KR KR KR hA2210 (show (x2197 : Int) < ((a0).length : Int) from hp2205) KR ?_; intro ax hax; exact HK _ _ _ hax rfl (Below.refl _ _)
              · skip
                intro a wr hn hd HW hs; have ha := hasNil hn hd
                have ha := ha.add (seeF hs 31 14 (.pointer (some ⟨b2212, off2213 + (x2197 : Int).toNat * 2, none⟩)) KR KR)
                have ha := ha.add (seeF hs 28 11 (.bool (!(((rdL T_api_Reg.z a0 x2197).f0).toList == ((rdL T_api_Reg.z a1 x2197).f0).toList))) KR KR)
                have ha := ha.bool 28 KR (str_ne_f hp2220)
                refine yStep ha 32 KR ?_; intro l_ ha HK
                refine stepp ha 32 (.pointer (some ⟨b2212, off2213 + (x2197 : Int).toNat * 2 + 1, none⟩)) KR KR ?_; intro ax hax; exact HK _ _ _ hax rfl (Below.refl _ _)
              · skip
                intro a wr hn hd HW hs; have ha := hasNil hn hd
                have ha := ha.add (seeF hs 32 15 (.pointer (some ⟨b2212, off2213 + (x2197 : Int).toNat * 2 + 1, none⟩)) KR KR)
                have ha := ha.add (seeF hs 28 11 (.bool (!(((rdL T_api_Reg.z a0 x2197).f0).toList == ((rdL T_api_Reg.z a1 x2197).f0).toList))) KR KR)
                have ha := ha.bool 28 KR (str_ne_f hp2220)
                refine yStep ha 33 KR ?_; intro l_ ha HK
                refine stepl ha 33 (Rd.ca T_api_Reg.enc T_api_Reg.z (fun _ => rfl) (by have h_ := ((HW.rd0 hr0_0)); rw [hA2214] at h_; exact h_) hA2210 (show (x2197 : Int) < ((a0).length : Int) from hp2205)) 42 1 (.tmp 32) (.int .u64 ((rdL T_api_Reg.z a0 x2197).f1)) rfl KR KR KR ?_; intro ax hax; exact HK _ _ _ hax rfl (Below.refl _ _)
              · skip
                intro a wr hn hd HW hs; have ha := hasNil hn hd
                have ha := ha.add (seeE hs 1 (.slice A1_1 a1.length c1_1) KR KR)
                have ha := ha.add (seeF hs 28 11 (.bool (!(((rdL T_api_Reg.z a0 x2197).f0).toList == ((rdL T_api_Reg.z a1 x2197).f0).toList))) KR KR)
                have ha := ha.bool 28 KR (str_ne_f hp2220)
                refine yStep ha 34 KR ?_; intro l_ ha HK
                refine stepp ha 34 (.slice A1_1 a1.length c1_1) KR KR ?_; intro ax hax; exact HK _ _ _ hax rfl (Below.refl _ _)
              · skip
                intro a wr hn hd HW hs; have ha := hasNil hn hd
                have ha := ha.add (seeE hs 5 (.int .i64 x2197) KR KR)
                have ha := ha.add (seeF hs 28 11 (.bool (!(((rdL T_api_Reg.z a0 x2197).f0).toList == ((rdL T_api_Reg.z a1 x2197).f0).toList))) KR KR)
                have ha := ha.bool 28 KR (str_ne_f hp2220)
                refine yStep ha 35 KR ?_; intro l_ ha HK
                refine stepp ha 35 (.int .i64 x2197) KR KR ?_; intro ax hax; exact HK _ _ _ hax rfl (Below.refl _ _)
              · skip
                intro a wr hn hd HW hs; have ha := hasNil hn hd
                have ha := ha.add (seeF hs 34 17 (.slice A1_1 a1.length c1_1) KR KR)
                have ha := ha.add (seeF hs 35 18 (.int .i64 x2197) KR KR)
                have ha := ha.add (seeF hs 28 11 (.bool (!(((rdL T_api_Reg.z a0 x2197).f0).toList == ((rdL T_api_Reg.z a1 x2197).f0).toList))) KR KR)
                have ha := ha.bool 28 KR (str_ne_f hp2220)
                replace ha := ha.turn 34 (u := .slice A1_1 a1.length c1_1) (v := .slice (some ⟨b2217, off2218, none⟩) a1.length c1_1) KR (by rw [hA2219])
                refine yStep ha 36 KR ?_; intro l_ ha HK
                refine stepif ha 36 (sz := 2) (len := a1.length) (b := b2217) (off := off2218) (c := c1_1) 22 44 (.tmp 34) (.tmp 35) .i64 x2197 rfl KR KR KR KR hA2210 (show (x2197 : Int) < ((a1).length : Int) from hA2215) KR ?_; intro ax hax; exact HK _ _ _ hax rfl (Below.refl _ _)
              · skip
                intro a wr hn hd HW hs; have ha := hasNil hn hd
                have ha := ha.add (seeF hs 36 19 (.pointer (some ⟨b2217, off2218 + (x2197 : Int).toNat * 2, none⟩)) KR KR)
                have ha := ha.add (seeF hs 28 11 (.bool (!(((rdL T_api_Reg.z a0 x2197).f0).toList == ((rdL T_api_Reg.z a1 x2197).f0).toList))) KR KR)
                have ha := ha.bool 28 KR (str_ne_f hp2220)
                refine yStep ha 37 KR ?_; intro l_ ha HK
                refine stepp ha 37 (.pointer (some ⟨b2217, off2218 + (x2197 : Int).toNat * 2 + 1, none⟩)) KR KR ?_; intro ax hax; exact HK _ _ _ hax rfl (Below.refl _ _)
              · skip
                intro a wr hn hd HW hs; have ha := hasNil hn hd
                have ha := ha.add (seeF hs 37 20 (.pointer (some ⟨b2217, off2218 + (x2197 : Int).toNat * 2 + 1, none⟩)) KR KR)
                have ha := ha.add (seeF hs 28 11 (.bool (!(((rdL T_api_Reg.z a0 x2197).f0).toList == ((rdL T_api_Reg.z a1 x2197).f0).toList))) KR KR)
                have ha := ha.bool 28 KR (str_ne_f hp2220)
                refine yStep ha 38 KR ?_; intro l_ ha HK
                refine stepl ha 38 (Rd.ca T_api_Reg.enc T_api_Reg.z (fun _ => rfl) (by have h_ := ((HW.rd0 hr1_1)); rw [hA2219] at h_; exact h_) hA2210 (show (x2197 : Int) < ((a1).length : Int) from hA2215)) 42 1 (.tmp 37) (.int .u64 ((rdL T_api_Reg.z a1 x2197).f1)) rfl KR KR KR ?_; intro ax hax; exact HK _ _ _ hax rfl (Below.refl _ _)
              · skip
                intro a wr hn hd HW hs; have ha := hasNil hn hd
                have ha := ha.add (seeF hs 33 16 (.int .u64 ((rdL T_api_Reg.z a0 x2197).f1)) KR KR)
                have ha := ha.add (seeF hs 38 21 (.int .u64 ((rdL T_api_Reg.z a1 x2197).f1)) KR KR)
                have ha := ha.add (seeF hs 28 11 (.bool (!(((rdL T_api_Reg.z a0 x2197).f0).toList == ((rdL T_api_Reg.z a1 x2197).f0).toList))) KR KR)
                have ha := ha.bool 28 KR (str_ne_f hp2220)
                refine yStep ha 39 KR ?_; intro l_ ha HK
                refine stepp ha 39 (.bool (((rdL T_api_Reg.z a0 x2197).f1) != ((rdL T_api_Reg.z a1 x2197).f1))) KR KR ?_; intro ax hax; exact HK _ _ _ hax rfl (Below.refl _ _)
              · skip
                intro a wr hn hd HW hs; have ha := hasNil hn hd
                have ha := ha.add (seeF hs 28 11 (.bool (!(((rdL T_api_Reg.z a0 x2197).f0).toList == ((rdL T_api_Reg.z a1 x2197).f0).toList))) KR KR)
                have ha := ha.bool 28 KR (str_ne_f hp2220)
                have ha := ha.add (seeF hs 39 22 (.bool (((rdL T_api_Reg.z a0 x2197).f1) != ((rdL T_api_Reg.z a1 x2197).f1))) KR KR)
                refine yStep ha 40 KR ?_; intro l_ ha HK
                refine stepp ha 40 (.bool (((rdL T_api_Reg.z a0 x2197).f1) != ((rdL T_api_Reg.z a1 x2197).f1))) KR KR ?_; intro ax hax; exact HK _ _ _ hax rfl (Below.refl _ _)
            · skip
              intro a W2223 ha HW he hf
              replace ha := ha.add (he 0 (.slice A0_0 a0.length c0_0) KR KR)
              replace ha := ha.add (he 1 (.slice A1_1 a1.length c1_1) KR KR)
              replace ha := ha.add (he 5 (.int .i64 x2197) KR KR)
              replace ha := ha.add (gotF (m := 24) (j := 12) (d := 29) (v := .slice A0_0 a0.length c0_0) hf KR KR KR)
              replace ha := ha.add (gotF (m := 24) (j := 13) (d := 30) (v := .int .i64 x2197) hf KR KR KR)
              replace ha := ha.add (gotF (m := 24) (j := 16) (d := 33) (v := .int .u64 ((rdL T_api_Reg.z a0 x2197).f1)) hf KR KR KR)
              replace ha := ha.add (gotF (m := 24) (j := 17) (d := 34) (v := .slice A1_1 a1.length c1_1) hf KR KR KR)
              replace ha := ha.add (gotF (m := 24) (j := 18) (d := 35) (v := .int .i64 x2197) hf KR KR KR)
              replace ha := ha.add (gotF (m := 24) (j := 21) (d := 38) (v := .int .u64 ((rdL T_api_Reg.z a1 x2197).f1)) hf KR KR KR)
              replace ha := ha.add (gotF (m := 24) (j := 22) (d := 39) (v := .bool (((rdL T_api_Reg.z a0 x2197).f1) != ((rdL T_api_Reg.z a1 x2197).f1))) hf KR KR KR)
              replace ha := ha.add (gotF (m := 24) (j := 23) (d := 40) (v := .bool (((rdL T_api_Reg.z a0 x2197).f1) != ((rdL T_api_Reg.z a1 x2197).f1))) hf KR KR KR)
              clear he hf
              refine endl ?_
              refine thenN (hK2209 _ _ ?_); clear hK2209
              by_cases hp2225 : ((rdL T_api_Reg.z a0 x2197).f1) = ((rdL T_api_Reg.z a1 x2197).f1)
              · skip
                replace h := ite_pos' h hp2225
                refine condF ha KR KR (t := (((rdL T_api_Reg.z a0 x2197).f1) != ((rdL T_api_Reg.z a1 x2197).f1))) (ineq_f hp2225) ?_
                refine wp_skip ?_
                refine blkN ?_
                refine thenN (hK2207 _ _ ?_); clear hK2207
                refine wp_region_lit ?_
                refine stepp ha 15 (.int .i64 x2197) KR KR ?_; clear ha a; intro a ha
                refine stepp ha 16 (.int .i64 (IntKind.wrap .i64 (x2197 + 1))) KR KR ?_; clear ha a; intro a ha
                refine stepp ha 5 (.int .i64 (IntKind.wrap .i64 (x2197 + 1))) KR KR ?_; clear ha a; intro a ha
                refine endl ?_
                exact thenN ⟨k2199, Nat.lt_succ_self k2199, IntKind.wrap .i64 (x2197 + 1), (by rw [← hag2200]; exact h), ha.sub (subs_cons KR (subs_cons KR (subs_cons KR (subs_nil _)))), HW.pick [] [] (by decide) (by decide) KR KR⟩
              · skip
                replace h := ite_neg' h hp2225
                refine condT ha KR KR (t := (((rdL T_api_Reg.z a0 x2197).f1) != ((rdL T_api_Reg.z a1 x2197).f1))) (ineq_t hp2225) ?_
                refine wp_seq_k (fun K2226 hK2227 => ?_)
                refine wp_region_lit ?_
                refine stepp ha 4 (.bool false) KR KR ?_; clear ha a; intro a ha
                refine endl ?_
                refine thenN (hK2227 _ _ ?_); clear hK2227
                refine wp_ret ?_
                refine blkR ?_
                refine thenR ?_
                refine thenR ?_
                refine blkR ?_
                refine thenR ?_
                obtain rfl := Option.some.inj h
                exact finv ha _ _ rfl (.tmp (v := .bool false) KR .nil) (.bool false) rfl ⟨rfl, HW.pick [] [] (by decide) (by decide) rfl KR⟩
          · skip
            replace h := ite_neg' h hp2220
            refine regionG 24 KR KR ha HW [.fix (.slice A0_0 a0.length c0_0), .fix (.int .i64 x2197), .fix (.pointer (some ⟨b2212, off2213 + (x2197 : Int).toNat * 2, none⟩)), .fix (.pointer (some ⟨b2212, off2213 + (x2197 : Int).toNat * 2, none⟩)), .fix (.string ((rdL T_api_Reg.z a0 x2197).f0)), .fix (.slice A1_1 a1.length c1_1), .fix (.int .i64 x2197), .fix (.pointer (some ⟨b2217, off2218 + (x2197 : Int).toNat * 2, none⟩)), .fix (.pointer (some ⟨b2217, off2218 + (x2197 : Int).toNat * 2, none⟩)), .fix (.string ((rdL T_api_Reg.z a1 x2197).f0)), .fix (.bool (!(((rdL T_api_Reg.z a0 x2197).f0).toList == ((rdL T_api_Reg.z a1 x2197).f0).toList))), .fix (.bool (!(((rdL T_api_Reg.z a0 x2197).f0).toList == ((rdL T_api_Reg.z a1 x2197).f0).toList))), .fix undef, .fix undef, .fix undef, .fix undef, .fix undef, .fix undef, .fix undef, .fix undef, .fix undef, .fix undef, .fix undef, .fix (.bool true)] ?_ ?_
            · skip
              refine ⟨?_, ?_, ?_, ?_, ?_, ?_, ?_, ?_, ?_, ?_, ?_, ?_, ?_, ?_, ?_, ?_, ?_, ?_, ?_, ?_, ?_, ?_, ?_, ?_, trivial⟩
              · skip
                intro a wr hn hd HW hs; have ha := hasNil hn hd
                have ha := ha.add (seeE hs 0 (.slice A0_0 a0.length c0_0) KR KR)
                refine yStep ha 17 KR ?_; intro l_ ha HK
                refine stepp ha 17 (.slice A0_0 a0.length c0_0) KR KR ?_; intro ax hax; exact HK _ _ _ hax rfl (Below.refl _ _)
              · skip
                intro a wr hn hd HW hs; have ha := hasNil hn hd
                have ha := ha.add (seeE hs 5 (.int .i64 x2197) KR KR)
                refine yStep ha 18 KR ?_; intro l_ ha HK
                refine stepp ha 18 (.int .i64 x2197) KR KR ?_; intro ax hax; exact HK _ _ _ hax rfl (Below.refl _ _)
              · skip
                intro a wr hn hd HW hs; have ha := hasNil hn hd
                have ha := ha.add (seeF hs 17 0 (.slice A0_0 a0.length c0_0) KR KR)
                have ha := ha.add (seeF hs 18 1 (.int .i64 x2197) KR KR)
                replace ha := ha.turn 17 (u := .slice A0_0 a0.length c0_0) (v := .slice (some ⟨b2212, off2213, none⟩) a0.length c0_0) KR (by rw [hA2214])
                refine yStep ha 19 KR ?_; intro l_ ha HK
                refine stepif ha 19 (sz := 2) (len := a0.length) (b := b2212) (off := off2213) (c := c0_0) 22 44 (.tmp 17) (.tmp 18) .i64 x2197 rfl KR KR KR KR hA2210 (show (x2197 : Int) < ((a0).length : Int) from hp2205) KR ?_; intro ax hax; exact HK _ _ _ hax rfl (Below.refl _ _)
              · skip
                intro a wr hn hd HW hs; have ha := hasNil hn hd
                have ha := ha.add (seeF hs 19 2 (.pointer (some ⟨b2212, off2213 + (x2197 : Int).toNat * 2, none⟩)) KR KR)
                refine yStep ha 20 KR ?_; intro l_ ha HK
                refine stepp ha 20 (.pointer (some ⟨b2212, off2213 + (x2197 : Int).toNat * 2, none⟩)) KR KR ?_; intro ax hax; exact HK _ _ _ hax rfl (Below.refl _ _)
              · skip
                intro a wr hn hd HW hs; have ha := hasNil hn hd
                have ha := ha.add (seeF hs 20 3 (.pointer (some ⟨b2212, off2213 + (x2197 : Int).toNat * 2, none⟩)) KR KR)
                refine yStep ha 21 KR ?_; intro l_ ha HK
                refine stepl ha 21 (Rd.ca T_api_Reg.enc T_api_Reg.z (fun _ => rfl) (by have h_ := ((HW.rd0 hr0_0)); rw [hA2214] at h_; exact h_) hA2210 (show (x2197 : Int) < ((a0).length : Int) from hp2205)) 9 0 (.tmp 20) (.string ((rdL T_api_Reg.z a0 x2197).f0)) rfl KR KR KR ?_; intro ax hax; exact HK _ _ _ hax rfl (Below.refl _ _)
              · skip
                intro a wr hn hd HW hs; have ha := hasNil hn hd
                have ha := ha.add (seeE hs 1 (.slice A1_1 a1.length c1_1) KR KR)
                refine yStep ha 22 KR ?_; intro l_ ha HK
                refine stepp ha 22 (.slice A1_1 a1.length c1_1) KR KR ?_; intro ax hax; exact HK _ _ _ hax rfl (Below.refl _ _)
              · skip
                intro a wr hn hd HW hs; have ha := hasNil hn hd
                have ha := ha.add (seeE hs 5 (.int .i64 x2197) KR KR)
                refine yStep ha 23 KR ?_; intro l_ ha HK
                refine stepp ha 23 (.int .i64 x2197) KR KR ?_; intro ax hax; exact HK _ _ _ hax rfl (Below.refl _ _)
              · skip
                intro a wr hn hd HW hs; have ha := hasNil hn hd
                have ha := ha.add (seeF hs 22 5 (.slice A1_1 a1.length c1_1) KR KR)
                have ha := ha.add (seeF hs 23 6 (.int .i64 x2197) KR KR)
                replace ha := ha.turn 22 (u := .slice A1_1 a1.length c1_1) (v := .slice (some ⟨b2217, off2218, none⟩) a1.length c1_1) KR (by rw [hA2219])
                refine yStep ha 24 KR ?_; intro l_ ha HK
                refine stepif ha 24 (sz := 2) (len := a1.length) (b := b2217) (off := off2218) (c := c1_1) 22 44 (.tmp 22) (.tmp 23) .i64 x2197 rfl KR KR KR KR hA2210 (show (x2197 : Int) < ((a1).length : Int) from hA2215) KR ?_; intro ax hax; exact HK _ _ _ hax rfl (Below.refl _ _)
              · skip
                intro a wr hn hd HW hs; have ha := hasNil hn hd
                have ha := ha.add (seeF hs 24 7 (.pointer (some ⟨b2217, off2218 + (x2197 : Int).toNat * 2, none⟩)) KR KR)
                refine yStep ha 25 KR ?_; intro l_ ha HK
                refine stepp ha 25 (.pointer (some ⟨b2217, off2218 + (x2197 : Int).toNat * 2, none⟩)) KR KR ?_; intro ax hax; exact HK _ _ _ hax rfl (Below.refl _ _)
              · skip
                intro a wr hn hd HW hs; have ha := hasNil hn hd
                have ha := ha.add (seeF hs 25 8 (.pointer (some ⟨b2217, off2218 + (x2197 : Int).toNat * 2, none⟩)) KR KR)
                refine yStep ha 26 KR ?_; intro l_ ha HK
                refine stepl ha 26 (Rd.ca T_api_Reg.enc T_api_Reg.z (fun _ => rfl) (by have h_ := ((HW.rd0 hr1_1)); rw [hA2219] at h_; exact h_) hA2210 (show (x2197 : Int) < ((a1).length : Int) from hA2215)) 9 0 (.tmp 25) (.string ((rdL T_api_Reg.z a1 x2197).f0)) rfl KR KR KR ?_; intro ax hax; exact HK _ _ _ hax rfl (Below.refl _ _)
              · skip
                intro a wr hn hd HW hs; have ha := hasNil hn hd
                have ha := ha.add (seeF hs 21 4 (.string ((rdL T_api_Reg.z a0 x2197).f0)) KR KR)
                have ha := ha.add (seeF hs 26 9 (.string ((rdL T_api_Reg.z a1 x2197).f0)) KR KR)
                refine yStep ha 27 KR ?_; intro l_ ha HK
                refine stepp ha 27 (.bool (!(((rdL T_api_Reg.z a0 x2197).f0).toList == ((rdL T_api_Reg.z a1 x2197).f0).toList))) KR KR ?_; intro ax hax; exact HK _ _ _ hax rfl (Below.refl _ _)
              · skip
                intro a wr hn hd HW hs; have ha := hasNil hn hd
                have ha := ha.add (seeF hs 27 10 (.bool (!(((rdL T_api_Reg.z a0 x2197).f0).toList == ((rdL T_api_Reg.z a1 x2197).f0).toList))) KR KR)
                refine yStep ha 28 KR ?_; intro l_ ha HK
                refine stepp ha 28 (.bool (!(((rdL T_api_Reg.z a0 x2197).f0).toList == ((rdL T_api_Reg.z a1 x2197).f0).toList))) KR KR ?_; intro ax hax; exact HK _ _ _ hax rfl (Below.refl _ _)
              · skip
                intro a wr hn hd HW hs; have ha := hasNil hn hd
                have ha := ha.add (seeE hs 0 (.slice A0_0 a0.length c0_0) KR KR)
                have ha := ha.add (seeF hs 28 11 (.bool (!(((rdL T_api_Reg.z a0 x2197).f0).toList == ((rdL T_api_Reg.z a1 x2197).f0).toList))) KR KR)
                have ha := ha.bool 28 KR (str_ne_t hp2220)
                exact yo ha KR rfl
              · skip
                intro a wr hn hd HW hs; have ha := hasNil hn hd
                have ha := ha.add (seeE hs 5 (.int .i64 x2197) KR KR)
                have ha := ha.add (seeF hs 28 11 (.bool (!(((rdL T_api_Reg.z a0 x2197).f0).toList == ((rdL T_api_Reg.z a1 x2197).f0).toList))) KR KR)
                have ha := ha.bool 28 KR (str_ne_t hp2220)
                exact yo ha KR rfl
              · skip
                intro a wr hn hd HW hs; have ha := hasNil hn hd
                have ha := ha.add (seeF hs 29 12 (undef) KR KR)
                have ha := ha.add (seeF hs 30 13 (undef) KR KR)
                have ha := ha.add (seeF hs 28 11 (.bool (!(((rdL T_api_Reg.z a0 x2197).f0).toList == ((rdL T_api_Reg.z a1 x2197).f0).toList))) KR KR)
                have ha := ha.bool 28 KR (str_ne_t hp2220)
                exact yo ha KR rfl
              · skip
                intro a wr hn hd HW hs; have ha := hasNil hn hd
                have ha := ha.add (seeF hs 31 14 (undef) KR KR)
                have ha := ha.add (seeF hs 28 11 (.bool (!(((rdL T_api_Reg.z a0 x2197).f0).toList == ((rdL T_api_Reg.z a1 x2197).f0).toList))) KR KR)
                have ha := ha.bool 28 KR (str_ne_t hp2220)
                exact yo ha KR rfl
              · skip
                intro a wr hn hd HW hs; have ha := hasNil hn hd
                have ha := ha.add (seeF hs 32 15 (undef) KR KR)
                have ha := ha.add (seeF hs 28 11 (.bool (!(((rdL T_api_Reg.z a0 x2197).f0).toList == ((rdL T_api_Reg.z a1 x2197).f0).toList))) KR KR)
                have ha := ha.bool 28 KR (str_ne_t hp2220)
                exact yo ha KR rfl
              · skip
                intro a wr hn hd HW hs; have ha := hasNil hn hd
                have ha := ha.add (seeE hs 1 (.slice A1_1 a1.length c1_1) KR KR)
                have ha := ha.add (seeF hs 28 11 (.bool (!(((rdL T_api_Reg.z a0 x2197).f0).toList == ((rdL T_api_Reg.z a1 x2197).f0).toList))) KR KR)
                have ha := ha.bool 28 KR (str_ne_t hp2220)
                exact yo ha KR rfl
              · skip
                intro a wr hn hd HW hs; have ha := hasNil hn hd
                have ha := ha.add (seeE hs 5 (.int .i64 x2197) KR KR)
                have ha := ha.add (seeF hs 28 11 (.bool (!(((rdL T_api_Reg.z a0 x2197).f0).toList == ((rdL T_api_Reg.z a1 x2197).f0).toList))) KR KR)
                have ha := ha.bool 28 KR (str_ne_t hp2220)
                exact yo ha KR rfl
              · skip
                intro a wr hn hd HW hs; have ha := hasNil hn hd
                have ha := ha.add (seeF hs 34 17 (undef) KR KR)
                have ha := ha.add (seeF hs 35 18 (undef) KR KR)
                have ha := ha.add (seeF hs 28 11 (.bool (!(((rdL T_api_Reg.z a0 x2197).f0).toList == ((rdL T_api_Reg.z a1 x2197).f0).toList))) KR KR)
                have ha := ha.bool 28 KR (str_ne_t hp2220)
                exact yo ha KR rfl
              · skip
                intro a wr hn hd HW hs; have ha := hasNil hn hd
                have ha := ha.add (seeF hs 36 19 (undef) KR KR)
                have ha := ha.add (seeF hs 28 11 (.bool (!(((rdL T_api_Reg.z a0 x2197).f0).toList == ((rdL T_api_Reg.z a1 x2197).f0).toList))) KR KR)
                have ha := ha.bool 28 KR (str_ne_t hp2220)
                exact yo ha KR rfl
              · skip
                intro a wr hn hd HW hs; have ha := hasNil hn hd
                have ha := ha.add (seeF hs 37 20 (undef) KR KR)
                have ha := ha.add (seeF hs 28 11 (.bool (!(((rdL T_api_Reg.z a0 x2197).f0).toList == ((rdL T_api_Reg.z a1 x2197).f0).toList))) KR KR)
                have ha := ha.bool 28 KR (str_ne_t hp2220)
                exact yo ha KR rfl
              · skip
                intro a wr hn hd HW hs; have ha := hasNil hn hd
                have ha := ha.add (seeF hs 33 16 (undef) KR KR)
                have ha := ha.add (seeF hs 38 21 (undef) KR KR)
                have ha := ha.add (seeF hs 28 11 (.bool (!(((rdL T_api_Reg.z a0 x2197).f0).toList == ((rdL T_api_Reg.z a1 x2197).f0).toList))) KR KR)
                have ha := ha.bool 28 KR (str_ne_t hp2220)
                exact yo ha KR rfl
              · skip
                intro a wr hn hd HW hs; have ha := hasNil hn hd
                have ha := ha.add (seeF hs 28 11 (.bool (!(((rdL T_api_Reg.z a0 x2197).f0).toList == ((rdL T_api_Reg.z a1 x2197).f0).toList))) KR KR)
                have ha := ha.bool 28 KR (str_ne_t hp2220)
                have ha := ha.add (seeF hs 39 22 (undef) KR KR)
                refine yStep ha 40 KR ?_; intro l_ ha HK
                refine stepp ha 40 (.bool true) KR KR ?_; intro ax hax; exact HK _ _ _ hax rfl (Below.refl _ _)
            · skip
              intro a W2224 ha HW he hf
              replace ha := ha.add (he 0 (.slice A0_0 a0.length c0_0) KR KR)
              replace ha := ha.add (he 1 (.slice A1_1 a1.length c1_1) KR KR)
              replace ha := ha.add (he 5 (.int .i64 x2197) KR KR)
              replace ha := ha.add (gotF (m := 24) (j := 23) (d := 40) (v := .bool true) hf KR KR KR)
              clear he hf
              refine endl ?_
              refine thenN (hK2209 _ _ ?_); clear hK2209
              refine condT ha KR KR (t := true) (rfl) ?_
              refine wp_seq_k (fun K2228 hK2229 => ?_)
              refine wp_region_lit ?_
              refine stepp ha 4 (.bool false) KR KR ?_; clear ha a; intro a ha
              refine endl ?_
              refine thenN (hK2229 _ _ ?_); clear hK2229
              refine wp_ret ?_
              refine blkR ?_
              refine thenR ?_
              refine thenR ?_
              refine blkR ?_
              refine thenR ?_
              obtain rfl := Option.some.inj h
              exact finv ha _ _ rfl (.tmp (v := .bool false) KR .nil) (.bool false) rfl ⟨rfl, HW.pick [] [] (by decide) (by decide) rfl KR⟩
        · skip
          replace h := ite_neg' h hp2205
          refine condF ha KR KR (t := decide (x2197 < (a0.length : Int))) (decide_eq_false hp2205) ?_
          refine wp_exit ?_
          refine thenE ?_
          refine thenE ?_
          refine inBlk ?_
          refine thenN (hK2132 _ _ ?_); clear hK2132
          refine wp_seq_k (fun K2230 hK2231 => ?_)
          refine wp_region_lit ?_
          refine stepp ha 4 (.bool true) KR KR ?_; clear ha a; intro a ha
          refine endl ?_
          refine thenN (hK2231 _ _ ?_); clear hK2231
          refine wp_ret ?_
          obtain rfl := Option.some.inj h
          exact finv ha _ _ rfl (.tmp (v := .bool true) KR .nil) (.bool true) rfl ⟨rfl, HW.pick [] [] (by decide) (by decide) rfl KR⟩
  · skip
    replace h := ite_neg' h hp2128
    refine condT ha KR KR (t := ((a0.length : Int) != (a1.length : Int))) (ineq_t hp2128) ?_
    refine wp_seq_k (fun K2129 hK2130 => ?_)
    refine wp_region_lit ?_
    refine stepp ha 4 (.bool false) KR KR ?_; clear ha a; intro a ha
    refine endl ?_
    refine thenN (hK2130 _ _ ?_); clear hK2130
    refine wp_ret ?_
    refine thenR ?_
    obtain rfl := Option.some.inj h
    exact finv ha _ _ rfl (.tmp (v := .bool false) KR .nil) (.bool false) rfl ⟨rfl, HW.pick [] [] (by decide) (by decide) rfl KR⟩
end Go.Proofs.YthjjbkgifelooaaDoor.F
