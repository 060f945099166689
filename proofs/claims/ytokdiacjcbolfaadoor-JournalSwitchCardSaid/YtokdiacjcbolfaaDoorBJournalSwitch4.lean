import Derived.Test.YtokdiacjcbolfaaDoorBJournalSwitch3
set_option linter.unusedVariables false
set_option linter.unusedSimpArgs false
namespace Go.Proofs.YtokdiacjcbolfaaDoor.F
open Go Go.RowKit Go.Proofs.YtokdiacjcbolfaaDoor.X
set_option linter.unusedVariables false
set_option linter.unusedSimpArgs false
def q18.f (a0 : ByteArray) (a1 : ByteArray) : Option Bool :=
 some (Lib.hasPrefix a0.data.toList a1.data.toList)
theorem q18.calls (a0 : ByteArray) (a1 : ByteArray)  (r : Bool) (w : World) (h : q18.f a0 a1 = some r) :
  Calls Tryd.prog 38 #[.string a0, .string a1] w (fun e W' => e = .returned (.bool r) ∧ Wd w W' [] []) := by
 obtain rfl := Option.some.inj h
 exact (Tryd.strings_HasPrefix a0 a1 w).mono fun e W' ⟨he, hb⟩ => ⟨he, hb ▸ Wd.refl w⟩
def q1x.f (a0 : q04) (a1 : Int) : Option ByteArray :=
 asrt (0 ≤ a1) (asrt (a1 < (a0.f0.length : Int)) (if (rdL (⟨#[]⟩ : ByteArray) a0.f0 a1) = (⟨#[]⟩ : ByteArray) then (some (strOfNums (List.replicate (512 : Int).toNat (0 : Int)))) else (some (rdL (⟨#[]⟩ : ByteArray) a0.f0 a1))))
set_option maxRecDepth 100000 in
set_option maxHeartbeats 4000000 in
theorem q1x.calls (a0 : q04) (a1 : Int) (A0_0 : Option Addr) (c0_0 : Nat) (A0_1 : Option Addr) (c0_1 : Nat) (A0_2 : Option Addr) (c0_2 : Nat) (cb0 : Nat) (r : ByteArray) (w : World) (hc0 : CA w cb0 0 #[.slice A0_0 a0.f0.length c0_0, .slice A0_1 a0.f1.length c0_1, .slice A0_2 a0.f2.length c0_2, .int .i64 a0.f3.f2, .bool a0.f4, .int .i64 a0.f5, .bool a0.f6]) (hr0_0 : Rd 1 w (.slice A0_0 a0.f0.length c0_0) a0.f0.length (encs encS a0.f0)) (hr0_1 : Rd 1 w (.slice A0_1 a0.f1.length c0_1) a0.f1.length (encs encS a0.f1)) (hr0_2 : Rd 2 w (.slice A0_2 a0.f2.length c0_2) a0.f2.length (encs q01.enc a0.f2)) (h : q1x.f a0 a1 = some r) :
  Calls Tryd.prog 48 #[.pointer (some ⟨cb0, 0, none⟩), .int .i64 a1] w (fun e W' => e = .returned (.string r) ∧ Wd w W' [] [] ) := by
 refine q17 (n := 22) (l := [(0, (ptr cb0)), (1, .int .i64 a1)]) Tryd.func48 rfl rfl (Nat.le_of_ble_eq_true KR) (q07 rfl (q07 rfl (q0q _))) ?_
 intro a ha
 have HW := Wd.refl w
 unfold q1x.f at h
 refine wp_seq_k (fun K1796 hK1797 => ?_)
 refine wp_region_lit ?_
 refine sp1 ha 4 (.string (⟨#[]⟩ : ByteArray)) ?_; clear ha a; intro a ha
 refine endl (thenN (hK1797 _ _ (wp_seq_k fun K1798 hK1799 => wp_seq_k fun K1800 hK1801 => wp_region_lit ?_))); clear hK1797
 refine sp3 ha 5 ((ptr cb0)) 6 ((ptr cb0)) 7 ((ptr cb0)) ?_; clear ha a; intro a ha
 refine stepl ha 8 (HW.ca0 hc0) 22 0 (.tmp 7) (.slice A0_0 a0.f0.length c0_0) rfl KR KR KR ?_; clear ha a; intro a ha
 refine sp1 ha 9 (.int .i64 a1) ?_; clear ha a; intro a ha
 obtain ⟨hA1802, h_⟩ := q0d h; replace h := h_; clear h_
 obtain ⟨hA1803, h_⟩ := q0d h; replace h := h_; clear h_
 refine stepie encS (⟨#[]⟩ : ByteArray) ha 10 (fun _ => rfl) (v := .slice A0_0 a0.f0.length c0_0) (xs := a0.f0) ((HW.rd0 hr0_0)) 22 9 (.tmp 8) (.tmp 9) .i64 a1 rfl KR KR KR KR hA1802 (show (a1 : Int) < ((a0.f0).length : Int) from hA1803) KR ?_; clear ha a; intro b1804 off1805 a hC1806 ha
 refine stepl ha 11 hC1806 9 0 (.tmp 10) (.string (rdL (⟨#[]⟩ : ByteArray) a0.f0 a1)) rfl KR KR KR ?_; clear ha a; intro a ha
 refine sp1 ha 12 (.bool (!((rdL (⟨#[]⟩ : ByteArray) a0.f0 a1).toList == (⟨#[]⟩ : ByteArray).toList))) ?_; clear ha a; intro a ha
 refine endl (thenN (hK1801 _ _ ?_)); clear hK1801
 by_cases hp1807 : (rdL (⟨#[]⟩ : ByteArray) a0.f0 a1) = (⟨#[]⟩ : ByteArray)
 ·
  replace h := q0b h hp1807
  refine condF ha KR KR (t := (!((rdL (⟨#[]⟩ : ByteArray) a0.f0 a1).toList == (⟨#[]⟩ : ByteArray).toList))) (str_ne_f hp1807) ?_
  refine wp_skip ?_
  refine thenN (hK1799 _ _ (wp_seq_k fun K1813 hK1814 => wp_region_lit ?_)); clear hK1799
  refine stepmk (encIK .u8) (0 : Int) ha HW 20 71 5 (.const (.int .i64 512)) (.const (.int .i64 512)) .i64 .i64 512 (.int .u8 0) 1 rfl KR KR KR KR rfl rfl (by decide) (by have := (show (512 : Int) ≤ 281474976710656 by decide); omega) (by have := (show (512 : Int) ≤ 281474976710656 by decide); omega) KR ?_; clear ha HW a; intro b1815 a W1816 HW ha
  refine stepbt ha 21 71 9 5 (.tmp 20) (v := .slice (some ⟨b1815, 0, none⟩) (List.replicate (512 : Int).toNat (0 : Int)).length ((512 : Int).toNat)) (xs := List.replicate (512 : Int).toNat (0 : Int)) (HW.rdo (i := 0) (q := ⟨5, 1, .slice (some ⟨b1815, 0, none⟩) (List.replicate (512 : Int).toNat (0 : Int)).length ((512 : Int).toNat), (List.replicate (512 : Int).toNat (0 : Int)).length, encs (encIK .u8) (List.replicate (512 : Int).toNat (0 : Int))⟩) KR) rfl KR KR KR KR KR ?_; clear ha a; intro a ha
  refine sp1 ha 4 (.string (strOfNums (List.replicate (512 : Int).toNat (0 : Int)))) ?_; clear ha a; intro a ha
  refine endl (thenN (hK1814 _ _ ?_)); clear hK1814
  refine wp_ret ?_
  obtain rfl := Option.some.inj h
  exact finv ha _ _ rfl (.tmp (v := .string (strOfNums (List.replicate (512 : Int).toNat (0 : Int)))) KR .nil) (.string (strOfNums (List.replicate (512 : Int).toNat (0 : Int)))) rfl ⟨rfl, HW.pick [] [] (by decide) (by decide) rfl KR⟩
 ·
  replace h := q0c h hp1807
  refine condT ha KR KR (t := (!((rdL (⟨#[]⟩ : ByteArray) a0.f0 a1).toList == (⟨#[]⟩ : ByteArray).toList))) (str_ne_t hp1807) ?_
  refine wp_seq_k (fun K1808 hK1809 => ?_)
  refine wp_region_lit ?_
  refine sp3 ha 13 ((ptr cb0)) 14 ((ptr cb0)) 15 ((ptr cb0)) ?_; clear ha a; intro a ha
  refine stepl ha 16 (HW.ca0 hc0) 22 0 (.tmp 15) (.slice A0_0 a0.f0.length c0_0) rfl KR KR KR ?_; clear ha a; intro a ha
  refine sp1 ha 17 (.int .i64 a1) ?_; clear ha a; intro a ha
  refine stepie encS (⟨#[]⟩ : ByteArray) ha 18 (fun _ => rfl) (v := .slice A0_0 a0.f0.length c0_0) (xs := a0.f0) ((HW.rd0 hr0_0)) 22 9 (.tmp 16) (.tmp 17) .i64 a1 rfl KR KR KR KR hA1802 (show (a1 : Int) < ((a0.f0).length : Int) from hA1803) KR ?_; clear ha a; intro b1810 off1811 a hC1812 ha
  refine stepl ha 19 hC1812 9 0 (.tmp 18) (.string (rdL (⟨#[]⟩ : ByteArray) a0.f0 a1)) rfl KR KR KR ?_; clear ha a; intro a ha
  refine sp1 ha 4 (.string (rdL (⟨#[]⟩ : ByteArray) a0.f0 a1)) ?_; clear ha a; intro a ha
  refine endl (thenN (hK1809 _ _ ?_)); clear hK1809
  refine wp_ret ?_
  refine thenR ?_
  obtain rfl := Option.some.inj h
  exact finv ha _ _ rfl (.tmp (v := .string (rdL (⟨#[]⟩ : ByteArray) a0.f0 a1)) KR .nil) (.string (rdL (⟨#[]⟩ : ByteArray) a0.f0 a1)) rfl ⟨rfl, HW.pick [] [] (by decide) (by decide) rfl KR⟩
def q1c.f (a0 : q04) (a1 : Int) : Option ByteArray :=
 asrt (0 ≤ a1) (asrt (a1 < (a0.f1.length : Int)) (if (rdL (⟨#[]⟩ : ByteArray) a0.f1 a1) = (⟨#[]⟩ : ByteArray) then ((q1x.f (⟨a0.f0, a0.f1, a0.f2, (⟨(), (), a0.f3.f2⟩ : q03), a0.f4, a0.f5, a0.f6⟩ : q04) a1).bind fun t1837 => (some t1837)) else (some (rdL (⟨#[]⟩ : ByteArray) a0.f1 a1))))
set_option maxRecDepth 100000 in
set_option maxHeartbeats 4000000 in
theorem q1c.calls (a0 : q04) (a1 : Int) (A0_0 : Option Addr) (c0_0 : Nat) (A0_1 : Option Addr) (c0_1 : Nat) (A0_2 : Option Addr) (c0_2 : Nat) (cb0 : Nat) (r : ByteArray) (w : World) (hc0 : CA w cb0 0 #[.slice A0_0 a0.f0.length c0_0, .slice A0_1 a0.f1.length c0_1, .slice A0_2 a0.f2.length c0_2, .int .i64 a0.f3.f2, .bool a0.f4, .int .i64 a0.f5, .bool a0.f6]) (hr0_0 : Rd 1 w (.slice A0_0 a0.f0.length c0_0) a0.f0.length (encs encS a0.f0)) (hr0_1 : Rd 1 w (.slice A0_1 a0.f1.length c0_1) a0.f1.length (encs encS a0.f1)) (hr0_2 : Rd 2 w (.slice A0_2 a0.f2.length c0_2) a0.f2.length (encs q01.enc a0.f2)) (h : q1c.f a0 a1 = some r) :
  Calls Tryd.prog 28 #[.pointer (some ⟨cb0, 0, none⟩), .int .i64 a1] w (fun e W' => e = .returned (.string r) ∧ Wd w W' [] [] ) := by
 refine q17 (n := 23) (l := [(0, (ptr cb0)), (1, .int .i64 a1)]) Tryd.func28 rfl rfl (Nat.le_of_ble_eq_true KR) (q07 rfl (q07 rfl (q0q _))) ?_
 intro a ha
 have HW := Wd.refl w
 unfold q1c.f at h
 refine wp_seq_k (fun K1818 hK1819 => ?_)
 refine wp_region_lit ?_
 refine sp1 ha 4 (.string (⟨#[]⟩ : ByteArray)) ?_; clear ha a; intro a ha
 refine endl (thenN (hK1819 _ _ (wp_seq_k fun K1820 hK1821 => wp_seq_k fun K1822 hK1823 => wp_region_lit ?_))); clear hK1819
 refine sp3 ha 5 ((ptr cb0)) 6 ((ptr cb0)) 7 (.pointer (some ⟨cb0, 1, none⟩)) ?_; clear ha a; intro a ha
 refine stepl ha 8 (HW.ca0 hc0) 22 1 (.tmp 7) (.slice A0_1 a0.f1.length c0_1) rfl KR KR KR ?_; clear ha a; intro a ha
 refine sp1 ha 9 (.int .i64 a1) ?_; clear ha a; intro a ha
 obtain ⟨hA1824, h_⟩ := q0d h; replace h := h_; clear h_
 obtain ⟨hA1825, h_⟩ := q0d h; replace h := h_; clear h_
 refine stepie encS (⟨#[]⟩ : ByteArray) ha 10 (fun _ => rfl) (v := .slice A0_1 a0.f1.length c0_1) (xs := a0.f1) ((HW.rd0 hr0_1)) 22 9 (.tmp 8) (.tmp 9) .i64 a1 rfl KR KR KR KR hA1824 (show (a1 : Int) < ((a0.f1).length : Int) from hA1825) KR ?_; clear ha a; intro b1826 off1827 a hC1828 ha
 refine stepl ha 11 hC1828 9 0 (.tmp 10) (.string (rdL (⟨#[]⟩ : ByteArray) a0.f1 a1)) rfl KR KR KR ?_; clear ha a; intro a ha
 refine sp1 ha 12 (.bool (!((rdL (⟨#[]⟩ : ByteArray) a0.f1 a1).toList == (⟨#[]⟩ : ByteArray).toList))) ?_; clear ha a; intro a ha
 refine endl (thenN (hK1823 _ _ ?_)); clear hK1823
 by_cases hp1829 : (rdL (⟨#[]⟩ : ByteArray) a0.f1 a1) = (⟨#[]⟩ : ByteArray)
 ·
  replace h := q0b h hp1829
  refine condF ha KR KR (t := (!((rdL (⟨#[]⟩ : ByteArray) a0.f1 a1).toList == (⟨#[]⟩ : ByteArray).toList))) (str_ne_f hp1829) ?_
  refine wp_skip ?_
  refine thenN (hK1821 _ _ (wp_seq_k fun K1835 hK1836 => wp_region_lit ?_)); clear hK1821
  refine sp2 ha 20 ((ptr cb0)) 21 (.int .i64 a1) ?_; clear ha a; intro a ha
  obtain ⟨t1837, ht1838, h_⟩ := q08 h; replace h := h_; clear h_
  refine stepc ha 22 KR KR (q1x.calls (⟨a0.f0, a0.f1, a0.f2, (⟨(), (), a0.f3.f2⟩ : q03), a0.f4, a0.f5, a0.f6⟩ : q04) a1 A0_0 c0_0 A0_1 c0_1 A0_2 c0_2 cb0 t1837 _ (HW.ca0 hc0) ((HW.rd0 hr0_0)) ((HW.rd0 hr0_1)) ((HW.rd0 hr0_2)) ht1838) ?_; clear ha a; rintro e W1839 ⟨rfl, HX1840⟩
  refine ⟨_, rfl, ?_⟩; intro a ha; replace HW := HW.callw HX1840; clear HX1840
  refine sp1 ha 4 (.string t1837) ?_; clear ha a; intro a ha
  refine endl (thenN (hK1836 _ _ ?_)); clear hK1836
  refine wp_ret ?_
  obtain rfl := Option.some.inj h
  exact finv ha _ _ rfl (.tmp (v := .string t1837) KR .nil) (.string t1837) rfl ⟨rfl, HW.pick [] [] (by decide) (by decide) rfl KR⟩
 ·
  replace h := q0c h hp1829
  refine condT ha KR KR (t := (!((rdL (⟨#[]⟩ : ByteArray) a0.f1 a1).toList == (⟨#[]⟩ : ByteArray).toList))) (str_ne_t hp1829) ?_
  refine wp_seq_k (fun K1830 hK1831 => ?_)
  refine wp_region_lit ?_
  refine sp3 ha 13 ((ptr cb0)) 14 ((ptr cb0)) 15 (.pointer (some ⟨cb0, 1, none⟩)) ?_; clear ha a; intro a ha
  refine stepl ha 16 (HW.ca0 hc0) 22 1 (.tmp 15) (.slice A0_1 a0.f1.length c0_1) rfl KR KR KR ?_; clear ha a; intro a ha
  refine sp1 ha 17 (.int .i64 a1) ?_; clear ha a; intro a ha
  refine stepie encS (⟨#[]⟩ : ByteArray) ha 18 (fun _ => rfl) (v := .slice A0_1 a0.f1.length c0_1) (xs := a0.f1) ((HW.rd0 hr0_1)) 22 9 (.tmp 16) (.tmp 17) .i64 a1 rfl KR KR KR KR hA1824 (show (a1 : Int) < ((a0.f1).length : Int) from hA1825) KR ?_; clear ha a; intro b1832 off1833 a hC1834 ha
  refine stepl ha 19 hC1834 9 0 (.tmp 18) (.string (rdL (⟨#[]⟩ : ByteArray) a0.f1 a1)) rfl KR KR KR ?_; clear ha a; intro a ha
  refine sp1 ha 4 (.string (rdL (⟨#[]⟩ : ByteArray) a0.f1 a1)) ?_; clear ha a; intro a ha
  refine endl (thenN (hK1831 _ _ ?_)); clear hK1831
  refine wp_ret ?_
  refine thenR ?_
  obtain rfl := Option.some.inj h
  exact finv ha _ _ rfl (.tmp (v := .string (rdL (⟨#[]⟩ : ByteArray) a0.f1 a1)) KR .nil) (.string (rdL (⟨#[]⟩ : ByteArray) a0.f1 a1)) rfl ⟨rfl, HW.pick [] [] (by decide) (by decide) rfl KR⟩
def q0n.b0 (K : Nat) (a0 : q04) (a1 : Int) (a2 : Int) (again2186 : Int → ByteArray → Option (ByteArray × Int)) (x2187 : Int) (x2191 : ByteArray) : Option (ByteArray × Int) :=
 if x2187 < a2 then ((q1c.f (⟨a0.f0, a0.f1, a0.f2, (⟨(), (), a0.f3.f2⟩ : q03), a0.f4, a0.f5, a0.f6⟩ : q04) (IntKind.wrap .i64 (a1 + x2187))).bind fun t2206 => (asrt (x2191.size + t2206.size ≤ 140737488355328) (again2186 (IntKind.wrap .i64 (x2187 + 1)) (x2191 ++ t2206)))) else (some (x2191, 0))
def q0n.l0 (K : Nat) (a0 : q04) (a1 : Int) (a2 : Int) : Nat → Int → ByteArray → Option (ByteArray × Int)
 | 0, _, _ => none
 | k_ + 1, x2187, x2191 => q0n.b0 K a0 a1 a2 (q0n.l0 K a0 a1 a2 k_) x2187 x2191
def q0n.j0 (K : Nat) (a0 : q04) (a1 : Int) (a2 : Int) (x2122 : Bool) : Option (ByteArray × Int) :=
 if x2122 = true then (some ((⟨#[]⟩ : ByteArray), 40)) else (if a0.f6 = true then (some ((⟨#[]⟩ : ByteArray), 41)) else (q0n.l0 K a0 a1 a2 K 0 (⟨#[]⟩ : ByteArray)))
def q0n.f (K : Nat) (a0 : q04) (a1 : Int) (a2 : Int) : Option (ByteArray × Int) :=
 if a1 < 0 then (q0n.j0 K a0 a1 a2 true) else (if a2 < 0 then (q0n.j0 K a0 a1 a2 true) else (if a1 > (a0.f0.length : Int) then (q0n.j0 K a0 a1 a2 true) else (q0n.j0 K a0 a1 a2 (decide (a2 > (IntKind.wrap .i64 ((a0.f0.length : Int) - a1)))))))
set_option maxRecDepth 100000 in
set_option maxHeartbeats 4000000 in
theorem q0n.calls (K : Nat) (a0 : q04) (a1 : Int) (a2 : Int) (A0_0 : Option Addr) (c0_0 : Nat) (A0_1 : Option Addr) (c0_1 : Nat) (A0_2 : Option Addr) (c0_2 : Nat) (cb0 : Nat) (r : ByteArray × Int) (w : World) (hc0 : CA w cb0 0 #[.slice A0_0 a0.f0.length c0_0, .slice A0_1 a0.f1.length c0_1, .slice A0_2 a0.f2.length c0_2, .int .i64 a0.f3.f2, .bool a0.f4, .int .i64 a0.f5, .bool a0.f6]) (hr0_0 : Rd 1 w (.slice A0_0 a0.f0.length c0_0) a0.f0.length (encs encS a0.f0)) (hr0_1 : Rd 1 w (.slice A0_1 a0.f1.length c0_1) a0.f1.length (encs encS a0.f1)) (hr0_2 : Rd 2 w (.slice A0_2 a0.f2.length c0_2) a0.f2.length (encs q01.enc a0.f2)) (h : q0n.f K a0 a1 a2 = some r) :
  Calls Tryd.prog 32 #[.pointer (some ⟨cb0, 0, none⟩), .int .i64 a1, .int .i64 a2] w (fun e W' => e = .returned (.tuple #[.string r.1, .int .i64 r.2]) ∧ Wd w W' [] [] ) := by
 refine q17 (n := 57) (l := [(0, (ptr cb0)), (1, .int .i64 a1), (2, .int .i64 a2)]) Tryd.func32 rfl rfl (Nat.le_of_ble_eq_true KR) (q07 rfl (q07 rfl (q07 rfl (q0q _)))) ?_
 intro a ha
 have HW := Wd.refl w
 unfold q0n.f at h
 refine wp_seq_k (fun K2111 hK2112 => ?_)
 refine wp_region_lit ?_
 refine sp2 ha 6 (.string (⟨#[]⟩ : ByteArray)) 7 (.int .i64 0) ?_; clear ha a; intro a ha
 refine endl (thenN (hK2112 _ _ (wp_seq_k fun K2113 hK2114 => ?_))); clear hK2112
 refine wp_block ?_
 refine wp_seq_k (fun K2115 hK2116 => ?_)
 refine wp_region_lit ?_
 refine sp3 ha 11 ((ptr cb0)) 12 (.bool false) 10 (.bool false) ?_; clear ha a; intro a ha
 refine endl (thenN (hK2116 _ _ ?_)); clear hK2116
 refine condF ha KR KR (t := false) (rfl) ?_
 refine wp_seq_k (fun K2117 hK2118 => ?_)
 refine cutn (fun a W2123 => ∃ (x2122 : Bool), q0n.j0 K a0 a1 a2 x2122 = some r ∧ Has 57 [(0, (ptr cb0)), (1, .int .i64 a1), (2, .int .i64 a2), (13, .bool x2122)] a ∧ Wd w W2123 [] []) ?_ ?_
 ·
  refine wp_region_lit ?_
  refine sp3 ha 14 (.int .i64 a1) 15 (.bool (decide (a1 < 0))) 16 (.bool (decide (a1 < 0))) ?_; clear ha a; intro a ha
  by_cases hp2119 : a1 < 0
  ·
   replace h := q0b h hp2119
   replace ha := ha.bool 16 KR (decide_eq_true hp2119)
   refine stepo ha 17 KR ?_; clear ha a; intro a ha
   refine stepo ha 18 KR ?_; clear ha a; intro a ha
   refine sp2 ha 19 (.bool true) 20 (.bool true) ?_; clear ha a; intro a ha
   refine stepo ha 21 KR ?_; clear ha a; intro a ha
   refine stepo ha 22 KR ?_; clear ha a; intro a ha
   refine stepo ha 23 KR ?_; clear ha a; intro a ha
   refine stepo ha 24 KR ?_; clear ha a; intro a ha
   refine stepo ha 25 KR ?_; clear ha a; intro a ha
   refine stepo ha 26 KR ?_; clear ha a; intro a ha
   refine stepo ha 27 KR ?_; clear ha a; intro a ha
   refine sp2 ha 28 (.bool true) 29 (.bool true) ?_; clear ha a; intro a ha
   refine stepo ha 30 KR ?_; clear ha a; intro a ha
   refine stepo ha 31 KR ?_; clear ha a; intro a ha
   refine stepo ha 32 KR ?_; clear ha a; intro a ha
   refine stepo ha 33 KR ?_; clear ha a; intro a ha
   refine stepo ha 34 KR ?_; clear ha a; intro a ha
   refine stepo ha 35 KR ?_; clear ha a; intro a ha
   refine stepo ha 36 KR ?_; clear ha a; intro a ha
   refine stepo ha 37 KR ?_; clear ha a; intro a ha
   refine stepo ha 38 KR ?_; clear ha a; intro a ha
   refine sp2 ha 39 (.bool true) 13 (.bool true) ?_; clear ha a; intro a ha
   refine endl ?_
   exact thenN ⟨true, h, ha.sub (q05 KR (q05 KR (q05 KR (q05 KR (q0t _))))), HW.pick [] [] (by decide) (by decide) KR KR⟩
  ·
   replace h := q0c h hp2119
   replace ha := ha.bool 16 KR (decide_eq_false hp2119)
   refine sp4 ha 17 (.int .i64 a2) 18 (.bool (decide (a2 < 0))) 19 (.bool (decide (a2 < 0))) 20 (.bool (decide (a2 < 0))) ?_; clear ha a; intro a ha
   by_cases hp2120 : a2 < 0
   ·
    replace h := q0b h hp2120
    replace ha := ha.bool 20 KR (decide_eq_true hp2120)
    refine stepo ha 21 KR ?_; clear ha a; intro a ha
    refine stepo ha 22 KR ?_; clear ha a; intro a ha
    refine stepo ha 23 KR ?_; clear ha a; intro a ha
    refine stepo ha 24 KR ?_; clear ha a; intro a ha
    refine stepo ha 25 KR ?_; clear ha a; intro a ha
    refine stepo ha 26 KR ?_; clear ha a; intro a ha
    refine stepo ha 27 KR ?_; clear ha a; intro a ha
    refine sp2 ha 28 (.bool true) 29 (.bool true) ?_; clear ha a; intro a ha
    refine stepo ha 30 KR ?_; clear ha a; intro a ha
    refine stepo ha 31 KR ?_; clear ha a; intro a ha
    refine stepo ha 32 KR ?_; clear ha a; intro a ha
    refine stepo ha 33 KR ?_; clear ha a; intro a ha
    refine stepo ha 34 KR ?_; clear ha a; intro a ha
    refine stepo ha 35 KR ?_; clear ha a; intro a ha
    refine stepo ha 36 KR ?_; clear ha a; intro a ha
    refine stepo ha 37 KR ?_; clear ha a; intro a ha
    refine stepo ha 38 KR ?_; clear ha a; intro a ha
    refine sp2 ha 39 (.bool true) 13 (.bool true) ?_; clear ha a; intro a ha
    refine endl ?_
    exact thenN ⟨true, h, ha.sub (q05 KR (q05 KR (q05 KR (q05 KR (q0t _))))), HW.pick [] [] (by decide) (by decide) KR KR⟩
   ·
    replace h := q0c h hp2120
    replace ha := ha.bool 20 KR (decide_eq_false hp2120)
    refine sp4 ha 21 (.int .i64 a1) 22 ((ptr cb0)) 23 ((ptr cb0)) 24 ((ptr cb0)) ?_; clear ha a; intro a ha
    refine stepl ha 25 (HW.ca0 hc0) 22 0 (.tmp 24) (.slice A0_0 a0.f0.length c0_0) rfl KR KR KR ?_; clear ha a; intro a ha
    refine sp4 ha 26 (.int .i64 (a0.f0.length : Int)) 27 (.bool (decide (a1 > (a0.f0.length : Int)))) 28 (.bool (decide (a1 > (a0.f0.length : Int)))) 29 (.bool (decide (a1 > (a0.f0.length : Int)))) ?_; clear ha a; intro a ha
    by_cases hp2121 : a1 > (a0.f0.length : Int)
    ·
     replace h := q0b h hp2121
     replace ha := ha.bool 29 KR (decide_eq_true hp2121)
     refine stepo ha 30 KR ?_; clear ha a; intro a ha
     refine stepo ha 31 KR ?_; clear ha a; intro a ha
     refine stepo ha 32 KR ?_; clear ha a; intro a ha
     refine stepo ha 33 KR ?_; clear ha a; intro a ha
     refine stepo ha 34 KR ?_; clear ha a; intro a ha
     refine stepo ha 35 KR ?_; clear ha a; intro a ha
     refine stepo ha 36 KR ?_; clear ha a; intro a ha
     refine stepo ha 37 KR ?_; clear ha a; intro a ha
     refine stepo ha 38 KR ?_; clear ha a; intro a ha
     refine sp2 ha 39 (.bool true) 13 (.bool true) ?_; clear ha a; intro a ha
     refine endl ?_
     exact thenN ⟨true, h, ha.sub (q05 KR (q05 KR (q05 KR (q05 KR (q0t _))))), HW.pick [] [] (by decide) (by decide) KR KR⟩
    ·
     replace h := q0c h hp2121
     replace ha := ha.bool 29 KR (decide_eq_false hp2121)
     refine sp4 ha 30 (.int .i64 a2) 31 ((ptr cb0)) 32 ((ptr cb0)) 33 ((ptr cb0)) ?_; clear ha a; intro a ha
     refine stepl ha 34 (HW.ca0 hc0) 22 0 (.tmp 33) (.slice A0_0 a0.f0.length c0_0) rfl KR KR KR ?_; clear ha a; intro a ha
     refine sp6 ha 35 (.int .i64 (a0.f0.length : Int)) 36 (.int .i64 a1) 37 (.int .i64 (IntKind.wrap .i64 ((a0.f0.length : Int) - a1))) 38 (.bool (decide (a2 > (IntKind.wrap .i64 ((a0.f0.length : Int) - a1))))) 39 (.bool (decide (a2 > (IntKind.wrap .i64 ((a0.f0.length : Int) - a1))))) 13 (.bool (decide (a2 > (IntKind.wrap .i64 ((a0.f0.length : Int) - a1))))) ?_; clear ha a; intro a ha
     refine endl ?_
     exact thenN ⟨decide (a2 > (IntKind.wrap .i64 ((a0.f0.length : Int) - a1))), h, ha.sub (q05 KR (q05 KR (q05 KR (q05 KR (q0t _))))), HW.pick [] [] (by decide) (by decide) KR KR⟩
 ·
  intro a W2123 hJ
  obtain ⟨x2122, h, ha, HW⟩ := hJ
  replace h : q0n.j0 K a0 a1 a2 x2122 = some r := h
  unfold q0n.j0 at h
  refine hK2118 _ _ ?_; clear hK2118
  by_cases hp2124 : x2122 = true
  ·
   replace h := q0b h hp2124
   refine condT ha KR KR (t := x2122) (hp2124) ?_
   refine wp_seq_k (fun K2125 hK2126 => ?_)
   refine wp_region_lit ?_
   refine sp2 ha 6 (.string (⟨#[]⟩ : ByteArray)) 7 (.int .i64 40) ?_; clear ha a; intro a ha
   refine endl (thenN (hK2126 _ _ ?_)); clear hK2126
   refine wp_ret ?_
   refine blkR ?_
   refine thenR ?_
   obtain rfl := Option.some.inj h
   exact finv ha _ _ rfl (.tmp (v := .string (⟨#[]⟩ : ByteArray)) KR (.tmp (v := .int .i64 40) KR .nil)) (.tuple #[.string (⟨#[]⟩ : ByteArray), .int .i64 40]) rfl ⟨rfl, HW.pick [] [] (by decide) (by decide) rfl KR⟩
  ·
   replace h := q0c h hp2124
   refine condF ha KR KR (t := x2122) (q2w hp2124) ?_
   refine wp_seq_k (fun K2127 hK2128 => ?_)
   refine wp_region_lit ?_
   refine sp3 ha 41 ((ptr cb0)) 42 ((ptr cb0)) 43 (.pointer (some ⟨cb0, 6, none⟩)) ?_; clear ha a; intro a ha
   refine stepl ha 44 (HW.ca0 hc0) 4 6 (.tmp 43) (.bool a0.f6) rfl KR KR KR ?_; clear ha a; intro a ha
   refine sp1 ha 40 (.bool a0.f6) ?_; clear ha a; intro a ha
   refine endl (thenN (hK2128 _ _ ?_)); clear hK2128
   by_cases hp2129 : a0.f6 = true
   ·
    replace h := q0b h hp2129
    refine condT ha KR KR (t := a0.f6) (hp2129) ?_
    refine wp_seq_k (fun K2130 hK2131 => ?_)
    refine wp_region_lit ?_
    refine sp2 ha 6 (.string (⟨#[]⟩ : ByteArray)) 7 (.int .i64 41) ?_; clear ha a; intro a ha
    refine endl (thenN (hK2131 _ _ ?_)); clear hK2131
    refine wp_ret ?_
    refine blkR ?_
    refine thenR ?_
    obtain rfl := Option.some.inj h
    exact finv ha _ _ rfl (.tmp (v := .string (⟨#[]⟩ : ByteArray)) KR (.tmp (v := .int .i64 41) KR .nil)) (.tuple #[.string (⟨#[]⟩ : ByteArray), .int .i64 41]) rfl ⟨rfl, HW.pick [] [] (by decide) (by decide) rfl KR⟩
   ·
    replace h := q0c h hp2129
    refine condF ha KR KR (t := a0.f6) (q2w hp2129) ?_
    refine wp_skip ?_
    refine blkN ?_
    refine thenN (hK2114 _ _ (wp_seq_k fun K2132 hK2133 => wp_region_lit ?_)); clear hK2114
    refine stepnew ha HW 8 #[.pointer none, .slice none 0 0] 78 KR KR ?_; clear ha HW a; intro b2134 a W2135 HW ha
    refine endl (thenN (hK2133 _ _ (wp_seq_k fun K2136 hK2137 => wp_seq_k fun K2138 hK2139 => wp_region_lit ?_))); clear hK2133
    refine sp2 ha 45 (.int .i64 a2) 46 (.int .i64 0) ?_; clear ha a; intro a ha
    refine endl (thenN (hK2139 _ _ ?_)); clear hK2139
    refine wp_block ?_
    replace HW := HW.nilo 5 1
    replace HW : Wd w W2135 [(b2134, .cells #[.pointer none, .slice none (⟨#[]⟩ : ByteArray).size 0] 78 (0, 0))] [⟨5, 1, .slice none (⟨#[]⟩ : ByteArray).size 0, (⟨#[]⟩ : ByteArray).size, byteCells (⟨#[]⟩ : ByteArray)⟩] := HW
    refine loopk (fun k => fun a W2194 => ∃ (x2187 : Int), ∃ pv2188, ∃ (x2191 : ByteArray), ∃ A2192, ∃ c2193, q0n.l0 K a0 a1 a2 k x2187 x2191 = some r ∧ Has 57 [(0, (ptr cb0)), (1, .int .i64 a1), (8, (ptr b2134)), (45, .int .i64 a2), (46, .int .i64 x2187)] a ∧ Wd w W2194 [(b2134, .cells #[pv2188, .slice A2192 x2191.size c2193] 78 (0, 0))] [⟨5, 1, .slice A2192 x2191.size c2193, x2191.size, byteCells x2191⟩] ∧ (pv2188 = .pointer none ∨ pv2188 = (ptr b2134))) K ?_ ?_
    ·
     exact ⟨0, .pointer none, (⟨#[]⟩ : ByteArray), none, 0, h, ha.sub (q05 KR (q05 KR (q05 KR (q05 KR (q05 KR (q0t _)))))), HW.pick [0] [0] (by decide) (by decide) KR KR, (.inl rfl)⟩
    ·
     intro k a W2194 hI
     obtain ⟨x2187, pv2188, x2191, A2192, c2193, h, ha, HW, hp2189⟩ := hI
     cases k with
     | zero => exact (q1n (show none = some r from h)).elim
     | succ k2195 =>
      replace h : q0n.b0 K a0 a1 a2 (q0n.l0 K a0 a1 a2 k2195) x2187 x2191 = some r := h
      obtain ⟨again2186, hag2196⟩ : ∃ g_, g_ = q0n.l0 K a0 a1 a2 k2195 := ⟨_, rfl⟩
      rw [← hag2196] at h
      unfold q0n.b0 at h
      refine wp_seq_k (fun K2197 hK2198 => ?_)
      refine wp_region_lit ?_
      refine sp1 ha 47 (.bool (decide (x2187 < a2))) ?_; clear ha a; intro a ha
      refine endl (thenN (hK2198 _ _ (wp_seq_k fun K2199 hK2200 => ?_))); clear hK2198
      by_cases hp2201 : x2187 < a2
      ·
       replace h := q0b h hp2201
       refine condT ha KR KR (t := decide (x2187 < a2)) (decide_eq_true hp2201) ?_
       refine wp_skip ?_
       refine thenN (hK2200 _ _ (wp_seq_k fun K2202 hK2203 => ?_)); clear hK2200
       refine wp_block ?_
       refine wp_seq_k (fun K2204 hK2205 => ?_)
       refine wp_region_lit ?_
       refine sp2 ha 48 (.int .i64 x2187) 9 (.int .i64 x2187) ?_; clear ha a; intro a ha
       refine endl (thenN (hK2205 _ _ (wp_region_lit ?_))); clear hK2205
       refine sp4 ha 49 ((ptr cb0)) 50 (.int .i64 a1) 51 (.int .i64 x2187) 52 (.int .i64 (IntKind.wrap .i64 (a1 + x2187))) ?_; clear ha a; intro a ha
       obtain ⟨t2206, ht2207, h_⟩ := q08 h; replace h := h_; clear h_
       refine stepc ha 53 KR KR (q1c.calls (⟨a0.f0, a0.f1, a0.f2, (⟨(), (), a0.f3.f2⟩ : q03), a0.f4, a0.f5, a0.f6⟩ : q04) (IntKind.wrap .i64 (a1 + x2187)) A0_0 c0_0 A0_1 c0_1 A0_2 c0_2 cb0 t2206 _ (HW.ca0 hc0) ((HW.rd0 hr0_0)) ((HW.rd0 hr0_1)) ((HW.rd0 hr0_2)) ht2207) ?_; clear ha a; rintro e W2208 ⟨rfl, HX2209⟩
       refine ⟨_, rfl, ?_⟩; intro a ha; replace HW := HW.callw HX2209; clear HX2209
       obtain ⟨hA2212, h_⟩ := q0d h; replace h := h_; clear h_
       refine stepc ha 54 KR KR (wb_write HW (i := 0) (j := 0) (b := b2134) (p := pv2188) (v := .slice A2192 x2191.size c2193) (s0 := x2191) KR hp2189 KR t2206 (show (x2191).size + (t2206).size ≤ 140737488355328 from hA2212)) ?_; clear ha a; rintro e W2210 ⟨A2213, c2214, rfl, HX2211⟩
       refine ⟨_, rfl, ?_⟩; intro a ha; replace HW : Wd w W2210 [(b2134, .cells #[(ptr b2134), .slice A2213 (x2191 ++ t2206).size c2214] 78 (0, 0))] [⟨5, 1, .slice A2213 (x2191 ++ t2206).size c2214, (x2191 ++ t2206).size, byteCells (x2191 ++ t2206)⟩] := HX2211; clear HX2211
       refine endl ?_
       refine blkN ?_
       refine thenN (hK2203 _ _ (wp_region_lit ?_)); clear hK2203
       refine sp2 ha 55 (.int .i64 (IntKind.wrap .i64 (x2187 + 1))) 46 (.int .i64 (IntKind.wrap .i64 (x2187 + 1))) ?_; clear ha a; intro a ha
       refine endl ?_
       exact thenN ⟨k2195, Nat.lt_succ_self k2195, IntKind.wrap .i64 (x2187 + 1), (ptr b2134), x2191 ++ t2206, A2213, c2214, (by rw [← hag2196]; exact h), ha.sub (q05 KR (q05 KR (q05 KR (q05 KR (q05 KR (q0t _)))))), HW.pick [0] [0] (by decide) (by decide) KR KR, (.inr rfl)⟩
      ·
       replace h := q0c h hp2201
       refine condF ha KR KR (t := decide (x2187 < a2)) (decide_eq_false hp2201) ?_
       refine wp_exit ?_
       refine thenE ?_
       refine thenE ?_
       refine inBlk ?_
       refine thenN (hK2137 _ _ (wp_seq_k fun K2215 hK2216 => wp_region_lit ?_)); clear hK2137
       refine stepc ha 56 KR KR (wb_string HW (i := 0) (j := 0) (b := b2134) (p := pv2188) (v := .slice A2192 x2191.size c2193) (s0 := x2191) KR KR) ?_; clear ha a; rintro e W2217 ⟨rfl, HX2218⟩
       refine ⟨_, rfl, ?_⟩; intro a ha; replace HW : Wd w W2217 [] [] := HX2218; clear HX2218
       refine sp2 ha 6 (.string x2191) 7 (.int .i64 0) ?_; clear ha a; intro a ha
       refine endl (thenN (hK2216 _ _ ?_)); clear hK2216
       refine wp_ret ?_
       obtain rfl := Option.some.inj h
       exact finv ha _ _ rfl (.tmp (v := .string x2191) KR (.tmp (v := .int .i64 0) KR .nil)) (.tuple #[.string x2191, .int .i64 0]) rfl ⟨rfl, HW.pick [] [] (by decide) (by decide) rfl KR⟩
def q0o.b0 (K : Nat) (a0 : ByteArray) (a1 : Int) (t2243 : List Int) (again2286 : Int → Int → Option (Int × Bool)) (x2287 : Int) (x2288 : Int) : Option (Int × Bool) :=
 if x2288 < (t2243.length : Int) then (asrt (0 ≤ x2288) (asrt (0 ≤ (IntKind.wrap .i64 (a1 + x2288))) (asrt ((IntKind.wrap .i64 (a1 + x2288)) < (a0.size : Int)) (asrt (0 ≤ (rdL (0 : Int) t2243 x2288)) (again2286 (bor .u64 x2287 (sshl .u64 (IntKind.wrap .u64 (bt a0 (IntKind.wrap .i64 (a1 + x2288)))) (rdL (0 : Int) t2243 x2288))) (IntKind.wrap .i64 (x2288 + 1))))))) else (some (x2287, true))
def q0o.l0 (K : Nat) (a0 : ByteArray) (a1 : Int) (t2243 : List Int) : Nat → Int → Int → Option (Int × Bool)
 | 0, _, _ => none
 | k_ + 1, x2287, x2288 => q0o.b0 K a0 a1 t2243 (q0o.l0 K a0 a1 t2243 k_) x2287 x2288
def q0o.f (K : Nat) (a0 : ByteArray) (a1 : Int) (a2 : Int) (a3 : Bool) : Option (Int × Bool) :=
 if a2 < 1 then (some (0, false)) else (if a2 > 8 then (some (0, false)) else (if a1 < 0 then (some (0, false)) else (if a1 > (IntKind.wrap .i64 ((a0.size : Int) - a2)) then (some (0, false)) else ((q0k.f K a2 a3).bind fun t2243 => (q0o.l0 K a0 a1 t2243 K 0 0)))))
set_option maxRecDepth 100000 in
set_option maxHeartbeats 4000000 in
theorem q0o.calls (K : Nat) (a0 : ByteArray) (a1 : Int) (a2 : Int) (a3 : Bool)  (r : Int × Bool) (w : World)  (h : q0o.f K a0 a1 a2 a3 = some r) :
  Calls Tryd.prog 63 #[.string a0, .int .i64 a1, .int .i64 a2, .bool a3] w (fun e W' => e = .returned (.tuple #[.int .u64 r.1, .bool r.2]) ∧ Wd w W' [] [] ) := by
 refine q17 (n := 52) (l := [(0, .string a0), (1, .int .i64 a1), (2, .int .i64 a2), (3, .bool a3)]) Tryd.func63 rfl rfl (Nat.le_of_ble_eq_true KR) (q07 rfl (q07 rfl (q07 rfl (q07 rfl (q0q _))))) ?_
 intro a ha
 have HW := Wd.refl w
 unfold q0o.f at h
 refine wp_seq_k (fun K2219 hK2220 => ?_)
 refine wp_region_lit ?_
 refine sp2 ha 8 (.int .u64 0) 9 (.bool false) ?_; clear ha a; intro a ha
 refine endl (thenN (hK2220 _ _ (wp_seq_k fun K2221 hK2222 => wp_seq_k fun K2223 hK2224 => wp_region_lit ?_))); clear hK2220
 refine sp3 ha 13 (.int .i64 a2) 14 (.bool (decide (a2 < 1))) 15 (.bool (decide (a2 < 1))) ?_; clear ha a; intro a ha
 by_cases hp2225 : a2 < 1
 ·
  replace h := q0b h hp2225
  replace ha := ha.bool 15 KR (decide_eq_true hp2225)
  refine stepo ha 16 KR ?_; clear ha a; intro a ha
  refine stepo ha 17 KR ?_; clear ha a; intro a ha
  refine sp2 ha 18 (.bool true) 19 (.bool true) ?_; clear ha a; intro a ha
  refine stepo ha 20 KR ?_; clear ha a; intro a ha
  refine stepo ha 21 KR ?_; clear ha a; intro a ha
  refine sp2 ha 22 (.bool true) 23 (.bool true) ?_; clear ha a; intro a ha
  refine stepo ha 24 KR ?_; clear ha a; intro a ha
  refine stepo ha 25 KR ?_; clear ha a; intro a ha
  refine stepo ha 26 KR ?_; clear ha a; intro a ha
  refine stepo ha 27 KR ?_; clear ha a; intro a ha
  refine stepo ha 28 KR ?_; clear ha a; intro a ha
  refine stepo ha 29 KR ?_; clear ha a; intro a ha
  refine sp1 ha 30 (.bool true) ?_; clear ha a; intro a ha
  refine endl (thenN (hK2224 _ _ ?_)); clear hK2224
  refine condT ha KR KR (t := true) (rfl) ?_
  refine wp_seq_k (fun K2228 hK2229 => ?_)
  refine wp_region_lit ?_
  refine sp2 ha 8 (.int .u64 0) 9 (.bool false) ?_; clear ha a; intro a ha
  refine endl (thenN (hK2229 _ _ ?_)); clear hK2229
  refine wp_ret ?_
  refine thenR ?_
  obtain rfl := Option.some.inj h
  exact finv ha _ _ rfl (.tmp (v := .int .u64 0) KR (.tmp (v := .bool false) KR .nil)) (.tuple #[.int .u64 0, .bool false]) rfl ⟨rfl, HW.pick [] [] (by decide) (by decide) rfl KR⟩
 ·
  replace h := q0c h hp2225
  replace ha := ha.bool 15 KR (decide_eq_false hp2225)
  refine sp4 ha 16 (.int .i64 a2) 17 (.bool (decide (a2 > 8))) 18 (.bool (decide (a2 > 8))) 19 (.bool (decide (a2 > 8))) ?_; clear ha a; intro a ha
  by_cases hp2226 : a2 > 8
  ·
   replace h := q0b h hp2226
   replace ha := ha.bool 19 KR (decide_eq_true hp2226)
   refine stepo ha 20 KR ?_; clear ha a; intro a ha
   refine stepo ha 21 KR ?_; clear ha a; intro a ha
   refine sp2 ha 22 (.bool true) 23 (.bool true) ?_; clear ha a; intro a ha
   refine stepo ha 24 KR ?_; clear ha a; intro a ha
   refine stepo ha 25 KR ?_; clear ha a; intro a ha
   refine stepo ha 26 KR ?_; clear ha a; intro a ha
   refine stepo ha 27 KR ?_; clear ha a; intro a ha
   refine stepo ha 28 KR ?_; clear ha a; intro a ha
   refine stepo ha 29 KR ?_; clear ha a; intro a ha
   refine sp1 ha 30 (.bool true) ?_; clear ha a; intro a ha
   refine endl (thenN (hK2224 _ _ ?_)); clear hK2224
   refine condT ha KR KR (t := true) (rfl) ?_
   refine wp_seq_k (fun K2230 hK2231 => ?_)
   refine wp_region_lit ?_
   refine sp2 ha 8 (.int .u64 0) 9 (.bool false) ?_; clear ha a; intro a ha
   refine endl (thenN (hK2231 _ _ ?_)); clear hK2231
   refine wp_ret ?_
   refine thenR ?_
   obtain rfl := Option.some.inj h
   exact finv ha _ _ rfl (.tmp (v := .int .u64 0) KR (.tmp (v := .bool false) KR .nil)) (.tuple #[.int .u64 0, .bool false]) rfl ⟨rfl, HW.pick [] [] (by decide) (by decide) rfl KR⟩
  ·
   replace h := q0c h hp2226
   replace ha := ha.bool 19 KR (decide_eq_false hp2226)
   refine sp4 ha 20 (.int .i64 a1) 21 (.bool (decide (a1 < 0))) 22 (.bool (decide (a1 < 0))) 23 (.bool (decide (a1 < 0))) ?_; clear ha a; intro a ha
   by_cases hp2227 : a1 < 0
   ·
    replace h := q0b h hp2227
    replace ha := ha.bool 23 KR (decide_eq_true hp2227)
    refine stepo ha 24 KR ?_; clear ha a; intro a ha
    refine stepo ha 25 KR ?_; clear ha a; intro a ha
    refine stepo ha 26 KR ?_; clear ha a; intro a ha
    refine stepo ha 27 KR ?_; clear ha a; intro a ha
    refine stepo ha 28 KR ?_; clear ha a; intro a ha
    refine stepo ha 29 KR ?_; clear ha a; intro a ha
    refine sp1 ha 30 (.bool true) ?_; clear ha a; intro a ha
    refine endl (thenN (hK2224 _ _ ?_)); clear hK2224
    refine condT ha KR KR (t := true) (rfl) ?_
    refine wp_seq_k (fun K2232 hK2233 => ?_)
    refine wp_region_lit ?_
    refine sp2 ha 8 (.int .u64 0) 9 (.bool false) ?_; clear ha a; intro a ha
    refine endl (thenN (hK2233 _ _ ?_)); clear hK2233
    refine wp_ret ?_
    refine thenR ?_
    obtain rfl := Option.some.inj h
    exact finv ha _ _ rfl (.tmp (v := .int .u64 0) KR (.tmp (v := .bool false) KR .nil)) (.tuple #[.int .u64 0, .bool false]) rfl ⟨rfl, HW.pick [] [] (by decide) (by decide) rfl KR⟩
   ·
    replace h := q0c h hp2227
    replace ha := ha.bool 23 KR (decide_eq_false hp2227)
    refine sp6 ha 24 (.int .i64 a1) 25 (.string a0) 26 (.int .i64 (a0.size : Int)) 27 (.int .i64 a2) 28 (.int .i64 (IntKind.wrap .i64 ((a0.size : Int) - a2))) 29 (.bool (decide (a1 > (IntKind.wrap .i64 ((a0.size : Int) - a2))))) ?_; clear ha a; intro a ha
    refine sp1 ha 30 (.bool (decide (a1 > (IntKind.wrap .i64 ((a0.size : Int) - a2))))) ?_; clear ha a; intro a ha
    refine endl (thenN (hK2224 _ _ ?_)); clear hK2224
    by_cases hp2234 : a1 > (IntKind.wrap .i64 ((a0.size : Int) - a2))
    ·
     replace h := q0b h hp2234
     refine condT ha KR KR (t := decide (a1 > (IntKind.wrap .i64 ((a0.size : Int) - a2)))) (decide_eq_true hp2234) ?_
     refine wp_seq_k (fun K2235 hK2236 => ?_)
     refine wp_region_lit ?_
     refine sp2 ha 8 (.int .u64 0) 9 (.bool false) ?_; clear ha a; intro a ha
     refine endl (thenN (hK2236 _ _ ?_)); clear hK2236
     refine wp_ret ?_
     refine thenR ?_
     obtain rfl := Option.some.inj h
     exact finv ha _ _ rfl (.tmp (v := .int .u64 0) KR (.tmp (v := .bool false) KR .nil)) (.tuple #[.int .u64 0, .bool false]) rfl ⟨rfl, HW.pick [] [] (by decide) (by decide) rfl KR⟩
    ·
     replace h := q0c h hp2234
     refine condF ha KR KR (t := decide (a1 > (IntKind.wrap .i64 ((a0.size : Int) - a2)))) (decide_eq_false hp2234) ?_
     refine wp_skip ?_
     refine thenN (hK2222 _ _ (wp_seq_k fun K2237 hK2238 => wp_region_lit ?_)); clear hK2222
     refine sp1 ha 10 (.int .u64 0) ?_; clear ha a; intro a ha
     refine endl (thenN (hK2238 _ _ (wp_seq_k fun K2239 hK2240 => wp_seq_k fun K2241 hK2242 => wp_region_lit ?_))); clear hK2238
     refine sp2 ha 31 (.int .i64 a2) 32 (.bool a3) ?_; clear ha a; intro a ha
     obtain ⟨t2243, ht2244, h_⟩ := q08 h; replace h := h_; clear h_
     refine stepc ha 33 KR KR (q0k.calls K a2 a3 t2243 _ ht2244) ?_; clear ha a; rintro e W2248 ⟨A2245, c2246, rfl, HX2249⟩
     refine ⟨_, rfl, ?_⟩; intro a ha; replace HW := HW.callw HX2249; clear HX2249
     refine sp2 ha 34 (.int .i64 (t2243.length : Int)) 35 (.int .i64 0) ?_; clear ha a; intro a ha
     refine endl (thenN (hK2242 _ _ ?_)); clear hK2242
     refine wp_block ?_
     refine loopk (fun k => fun a W2289 => ∃ (x2287 : Int), ∃ (x2288 : Int), q0o.l0 K a0 a1 t2243 k x2287 x2288 = some r ∧ Has 52 [(0, .string a0), (1, .int .i64 a1), (10, .int .u64 x2287), (33, .slice A2245 t2243.length c2246), (34, .int .i64 (t2243.length : Int)), (35, .int .i64 x2288)] a ∧ Wd w W2289 [] [(rw2 A2245 t2243 c2246)]) K ?_ ?_
     ·
      exact ⟨0, 0, h, ha.sub (q05 KR (q05 KR (q05 KR (q05 KR (q05 KR (q05 KR (q0t _))))))), HW.pick [] [0] (by decide) (by decide) KR KR⟩
     ·
      intro k a W2289 hI
      obtain ⟨x2287, x2288, h, ha, HW⟩ := hI
      cases k with
      | zero => exact (q1n (show none = some r from h)).elim
      | succ k2290 =>
       replace h : q0o.b0 K a0 a1 t2243 (q0o.l0 K a0 a1 t2243 k2290) x2287 x2288 = some r := h
       obtain ⟨again2286, hag2291⟩ : ∃ g_, g_ = q0o.l0 K a0 a1 t2243 k2290 := ⟨_, rfl⟩
       rw [← hag2291] at h
       unfold q0o.b0 at h
       refine wp_seq_k (fun K2292 hK2293 => ?_)
       refine wp_region_lit ?_
       refine sp1 ha 36 (.bool (decide (x2288 < (t2243.length : Int)))) ?_; clear ha a; intro a ha
       refine endl (thenN (hK2293 _ _ (wp_seq_k fun K2294 hK2295 => ?_))); clear hK2293
       by_cases hp2296 : x2288 < (t2243.length : Int)
       ·
        replace h := q0b h hp2296
        refine condT ha KR KR (t := decide (x2288 < (t2243.length : Int))) (decide_eq_true hp2296) ?_
        refine wp_skip ?_
        refine thenN (hK2295 _ _ (wp_seq_k fun K2297 hK2298 => ?_)); clear hK2295
        refine wp_block ?_
        refine wp_seq_k (fun K2299 hK2300 => ?_)
        refine wp_region_lit ?_
        refine sp1 ha 37 (.int .i64 x2288) ?_; clear ha a; intro a ha
        obtain ⟨hA2301, h_⟩ := q0d h; replace h := h_; clear h_
        refine stepie (encIK .i64) (0 : Int) ha 38 (fun _ => rfl) (v := .slice A2245 t2243.length c2246) (xs := t2243) (HW.rdo (i := 0) (q := (rw2 A2245 t2243 c2246)) KR) 23 3 (.tmp 33) (.tmp 35) .i64 x2288 rfl KR KR KR KR hA2301 (show (x2288 : Int) < ((t2243).length : Int) from hp2296) KR ?_; clear ha a; intro b2302 off2303 a hC2304 ha
        refine stepl ha 39 hC2304 3 0 (.tmp 38) (.int .i64 (rdL (0 : Int) t2243 x2288)) rfl KR KR KR ?_; clear ha a; intro a ha
        refine sp2 ha 11 (.int .i64 x2288) 12 (.int .i64 (rdL (0 : Int) t2243 x2288)) ?_; clear ha a; intro a ha
        refine endl (thenN (hK2300 _ _ (wp_region_lit ?_))); clear hK2300
        refine sp5 ha 40 (.int .u64 x2287) 41 (.string a0) 42 (.int .i64 a1) 43 (.int .i64 x2288) 44 (.int .i64 (IntKind.wrap .i64 (a1 + x2288))) ?_; clear ha a; intro a ha
        obtain ⟨hA2305, h_⟩ := q0d h; replace h := h_; clear h_
        obtain ⟨hA2306, h_⟩ := q0d h; replace h := h_; clear h_
        refine stepsi ha 45 9 (.tmp 41) (.tmp 44) a0 .i64 (IntKind.wrap .i64 (a1 + x2288)) rfl KR KR KR hA2305 (show (IntKind.wrap .i64 (a1 + x2288) : Int) < ((a0).size : Int) from hA2306) KR ?_; clear ha a; intro a ha
        refine sp2 ha 46 (.int .u64 (IntKind.wrap .u64 (bt a0 (IntKind.wrap .i64 (a1 + x2288))))) 47 (.int .i64 (rdL (0 : Int) t2243 x2288)) ?_; clear ha a; intro a ha
        obtain ⟨hA2307, h_⟩ := q0d h; replace h := h_; clear h_
        refine stepshl ha 48 68 3 (.tmp 46) (.tmp 47) .u64 .i64 (IntKind.wrap .u64 (bt a0 (IntKind.wrap .i64 (a1 + x2288)))) (rdL (0 : Int) t2243 x2288) rfl KR KR hA2307 KR ?_; clear ha a; intro a ha
        refine sp2 ha 49 (.int .u64 (bor .u64 x2287 (sshl .u64 (IntKind.wrap .u64 (bt a0 (IntKind.wrap .i64 (a1 + x2288)))) (rdL (0 : Int) t2243 x2288)))) 10 (.int .u64 (bor .u64 x2287 (sshl .u64 (IntKind.wrap .u64 (bt a0 (IntKind.wrap .i64 (a1 + x2288)))) (rdL (0 : Int) t2243 x2288)))) ?_; clear ha a; intro a ha
        refine endl ?_
        refine blkN ?_
        refine thenN (hK2298 _ _ (wp_region_lit ?_)); clear hK2298
        refine sp2 ha 50 (.int .i64 (IntKind.wrap .i64 (x2288 + 1))) 35 (.int .i64 (IntKind.wrap .i64 (x2288 + 1))) ?_; clear ha a; intro a ha
        refine endl ?_
        exact thenN ⟨k2290, Nat.lt_succ_self k2290, bor .u64 x2287 (sshl .u64 (IntKind.wrap .u64 (bt a0 (IntKind.wrap .i64 (a1 + x2288)))) (rdL (0 : Int) t2243 x2288)), IntKind.wrap .i64 (x2288 + 1), (by rw [← hag2291]; exact h), ha.sub (q05 KR (q05 KR (q05 KR (q05 KR (q05 KR (q05 KR (q0t _))))))), HW.pick [] [0] (by decide) (by decide) KR KR⟩
       ·
        replace h := q0c h hp2296
        refine condF ha KR KR (t := decide (x2288 < (t2243.length : Int))) (decide_eq_false hp2296) ?_
        refine wp_exit ?_
        refine thenE ?_
        refine thenE ?_
        refine inBlk ?_
        refine thenN (hK2240 _ _ (wp_seq_k fun K2308 hK2309 => wp_region_lit ?_)); clear hK2240
        refine sp3 ha 51 (.int .u64 x2287) 8 (.int .u64 x2287) 9 (.bool true) ?_; clear ha a; intro a ha
        refine endl (thenN (hK2309 _ _ ?_)); clear hK2309
        refine wp_ret ?_
        obtain rfl := Option.some.inj h
        exact finv ha _ _ rfl (.tmp (v := .int .u64 x2287) KR (.tmp (v := .bool true) KR .nil)) (.tuple #[.int .u64 x2287, .bool true]) rfl ⟨rfl, HW.pick [] [] (by decide) (by decide) rfl KR⟩
def q15.f (K : Nat) (a0 : ByteArray) (a1 : Int) (a2 : Int) : Option (Int × Bool) :=
 (q0o.f K a0 a1 a2 true).bind fun t2314 => (some (t2314.1, t2314.2))
set_option maxRecDepth 100000 in
set_option maxHeartbeats 4000000 in
theorem q15.calls (K : Nat) (a0 : ByteArray) (a1 : Int) (a2 : Int)  (r : Int × Bool) (w : World)  (h : q15.f K a0 a1 a2 = some r) :
  Calls Tryd.prog 49 #[.string a0, .int .i64 a1, .int .i64 a2] w (fun e W' => e = .returned (.tuple #[.int .u64 r.1, .bool r.2]) ∧ Wd w W' [] [] ) := by
 refine q17 (n := 14) (l := [(0, .string a0), (1, .int .i64 a1), (2, .int .i64 a2)]) Tryd.func49 rfl rfl (Nat.le_of_ble_eq_true KR) (q07 rfl (q07 rfl (q07 rfl (q0q _)))) ?_
 intro a ha
 have HW := Wd.refl w
 unfold q15.f at h
 refine wp_seq_k (fun K2310 hK2311 => ?_)
 refine wp_region_lit ?_
 refine sp2 ha 6 (.int .u64 0) 7 (.bool false) ?_; clear ha a; intro a ha
 refine endl (thenN (hK2311 _ _ (wp_seq_k fun K2312 hK2313 => wp_region_lit ?_))); clear hK2311
 refine sp3 ha 8 (.string a0) 9 (.int .i64 a1) 10 (.int .i64 a2) ?_; clear ha a; intro a ha
 obtain ⟨t2314, ht2315, h_⟩ := q08 h; replace h := h_; clear h_
 refine stepc ha 11 KR KR (q0o.calls K a0 a1 a2 true t2314 _ ht2315) ?_; clear ha a; rintro e W2316 ⟨rfl, HX2317⟩
 refine ⟨_, rfl, ?_⟩; intro a ha; replace HW := HW.callw HX2317; clear HX2317
 refine sp4 ha 12 (.int .u64 t2314.1) 13 (.bool t2314.2) 6 (.int .u64 t2314.1) 7 (.bool t2314.2) ?_; clear ha a; intro a ha
 refine endl (thenN (hK2313 _ _ ?_)); clear hK2313
 refine wp_ret ?_
 obtain rfl := Option.some.inj h
 exact finv ha _ _ rfl (.tmp (v := .int .u64 t2314.1) KR (.tmp (v := .bool t2314.2) KR .nil)) (.tuple #[.int .u64 t2314.1, .bool t2314.2]) rfl ⟨rfl, HW.pick [] [] (by decide) (by decide) rfl KR⟩
def q1a.f (K : Nat) (a0 : q00) (a0_0 : q04) (a1 : Int) : Option (Int × Int × Int × Int) :=
 (q0n.f K (⟨a0_0.f0, a0_0.f1, a0_0.f2, (⟨(), (), a0_0.f3.f2⟩ : q03), a0_0.f4, a0_0.f5, a0_0.f6⟩ : q04) (IntKind.wrap .i64 (a0.f1 + a1)) 1).bind fun t2322 => (if t2322.2 = 0 then ((q15.f K t2322.1 4 8).bind fun t2336 => ((q15.f K t2322.1 504 8).bind fun t2342 => ((q15.f K t2322.1 12 4).bind fun t2348 => ((q15.f K t2322.1 16 4).bind fun t2354 => ((q18.f t2322.1 (⟨#[72, 71, 74, 67]⟩ : ByteArray)).bind fun t2362 => (if t2362 = true then (if t2336.1 = t2342.1 then (if t2336.1 ≥ 4611686018427387904 then (some (0, 0, 0, 0)) else (if t2348.1 > 1 then (some (0, 0, 0, 0)) else (if t2354.1 < 1 then (some (0, 0, 0, 0)) else (if t2354.1 > (IntKind.wrap .u64 a0.f2) then (some (0, 0, 0, 0)) else (some (IntKind.wrap .i64 t2336.1, IntKind.wrap .i64 t2348.1, IntKind.wrap .i64 t2354.1, 0)))))) else (some (0, 0, 0, 0))) else (some (0, 0, 0, 0)))))))) else (some (0, 0, 0, t2322.2)))
set_option maxRecDepth 100000 in
set_option maxHeartbeats 4000000 in
theorem q1a.calls (K : Nat) (a0 : q00) (a0_0 : q04) (a1 : Int) (A0_0 : Option Addr) (c0_0 : Nat) (A0_1 : Option Addr) (c0_1 : Nat) (A0_2 : Option Addr) (c0_2 : Nat) (A0_3 : Option Addr) (c0_3 : Nat) (cb0 : Nat) (cb1 : Nat) (r : Int × Int × Int × Int) (w : World) (hc0 : CA w cb0 0 #[.pointer (some ⟨cb1, 0, none⟩), .int .i64 a0.f1, .int .i64 a0.f2, .int .i64 a0.f3, .int .i64 a0.f4.f2, .string a0.f5, .slice A0_0 a0.f6.length c0_0, .int .i64 a0.f7, .bool a0.f8, .bool a0.f9]) (hc1 : CA w cb1 0 #[.slice A0_1 a0_0.f0.length c0_1, .slice A0_2 a0_0.f1.length c0_2, .slice A0_3 a0_0.f2.length c0_3, .int .i64 a0_0.f3.f2, .bool a0_0.f4, .int .i64 a0_0.f5, .bool a0_0.f6]) (hr0_0 : Rd 1 w (.slice A0_0 a0.f6.length c0_0) a0.f6.length (encs encS a0.f6)) (hr0_1 : Rd 1 w (.slice A0_1 a0_0.f0.length c0_1) a0_0.f0.length (encs encS a0_0.f0)) (hr0_2 : Rd 1 w (.slice A0_2 a0_0.f1.length c0_2) a0_0.f1.length (encs encS a0_0.f1)) (hr0_3 : Rd 2 w (.slice A0_3 a0_0.f2.length c0_3) a0_0.f2.length (encs q01.enc a0_0.f2)) (h : q1a.f K a0 a0_0 a1 = some r) :
  Calls Tryd.prog 30 #[.pointer (some ⟨cb0, 0, none⟩), .int .i64 a1] w (fun e W' => e = .returned (.tuple #[.int .i64 r.1, .int .i64 r.2.1, .int .i64 r.2.2.1, .int .i64 r.2.2.2]) ∧ Wd w W' [] [] ) := by
 refine q17 (n := 89) (l := [(0, (ptr cb0)), (1, .int .i64 a1)]) Tryd.func30 rfl rfl (Nat.le_of_ble_eq_true KR) (q07 rfl (q07 rfl (q0q _))) ?_
 intro a ha
 have HW := Wd.refl w
 unfold q1a.f at h
 refine wp_seq_k (fun K2318 hK2319 => ?_)
 refine wp_region_lit ?_
 refine sp4 ha 4 (.int .i64 0) 5 (.int .i64 0) 6 (.int .i64 0) 7 (.int .i64 0) ?_; clear ha a; intro a ha
 refine endl (thenN (hK2319 _ _ (wp_seq_k fun K2320 hK2321 => ?_))); clear hK2319
 obtain ⟨t2322, ht2323, h_⟩ := q08 h; replace h := h_; clear h_
 refine q2z 15 KR KR ha HW [.fix ((ptr cb0)), .fix ((ptr cb0)), .fix ((ptr cb0)), .fix ((ptr cb1)), .fix ((ptr cb0)), .fix ((ptr cb0)), .fix (.pointer (some ⟨cb0, 1, none⟩)), .fix (.int .i64 a0.f1), .fix (.int .i64 a1), .fix (.int .i64 (IntKind.wrap .i64 (a0.f1 + a1))), .fix (.tuple #[.string t2322.1, .int .i64 t2322.2]), .fix (.tuple #[.string t2322.1, .int .i64 t2322.2]), .fix (.string t2322.1), .fix (.int .i64 t2322.2), .fix (.string t2322.1)] ?_ ?_
 ·
  refine ⟨?_, ?_, ?_, ?_, ?_, ?_, ?_, ?_, ?_, ?_, ?_, ?_, ?_, ?_, ?_, trivial⟩
  ·
   intro a wr hn hd HW hs; have ha := q0a hn hd
   have ha := ha.add (seeE hs 0 ((ptr cb0)) KR KR)
   refine yStep ha 18 KR ?_; intro l_ ha HK
   refine stepp ha 18 ((ptr cb0)) KR KR ?_; intro ax hax; exact HK _ _ _ hax rfl (Below.refl _ _)
  ·
   intro a wr hn hd HW hs; have ha := q0a hn hd
   have ha := ha.add (seeF hs 18 0 ((ptr cb0)) KR KR)
   refine yStep ha 19 KR ?_; intro l_ ha HK
   refine stepp ha 19 ((ptr cb0)) KR KR ?_; intro ax hax; exact HK _ _ _ hax rfl (Below.refl _ _)
  ·
   intro a wr hn hd HW hs; have ha := q0a hn hd
   have ha := ha.add (seeF hs 19 1 ((ptr cb0)) KR KR)
   refine yStep ha 20 KR ?_; intro l_ ha HK
   refine stepp ha 20 ((ptr cb0)) KR KR ?_; intro ax hax; exact HK _ _ _ hax rfl (Below.refl _ _)
  ·
   intro a wr hn hd HW hs; have ha := q0a hn hd
   have ha := ha.add (seeF hs 20 2 ((ptr cb0)) KR KR)
   refine yStep ha 21 KR ?_; intro l_ ha HK
   refine stepl ha 21 (HW.ca0 hc0) 25 0 (.tmp 20) ((ptr cb1)) rfl KR KR KR ?_; intro ax hax; exact HK _ _ _ hax rfl (Below.refl _ _)
  ·
   intro a wr hn hd HW hs; have ha := q0a hn hd
   have ha := ha.add (seeE hs 0 ((ptr cb0)) KR KR)
   refine yStep ha 22 KR ?_; intro l_ ha HK
   refine stepp ha 22 ((ptr cb0)) KR KR ?_; intro ax hax; exact HK _ _ _ hax rfl (Below.refl _ _)
  ·
   intro a wr hn hd HW hs; have ha := q0a hn hd
   have ha := ha.add (seeF hs 22 4 ((ptr cb0)) KR KR)
   refine yStep ha 23 KR ?_; intro l_ ha HK
   refine stepp ha 23 ((ptr cb0)) KR KR ?_; intro ax hax; exact HK _ _ _ hax rfl (Below.refl _ _)
  ·
   intro a wr hn hd HW hs; have ha := q0a hn hd
   have ha := ha.add (seeF hs 23 5 ((ptr cb0)) KR KR)
   refine yStep ha 24 KR ?_; intro l_ ha HK
   refine stepp ha 24 (.pointer (some ⟨cb0, 1, none⟩)) KR KR ?_; intro ax hax; exact HK _ _ _ hax rfl (Below.refl _ _)
  ·
   intro a wr hn hd HW hs; have ha := q0a hn hd
   have ha := ha.add (seeF hs 24 6 (.pointer (some ⟨cb0, 1, none⟩)) KR KR)
   refine yStep ha 25 KR ?_; intro l_ ha HK
   refine stepl ha 25 (HW.ca0 hc0) 3 1 (.tmp 24) (.int .i64 a0.f1) rfl KR KR KR ?_; intro ax hax; exact HK _ _ _ hax rfl (Below.refl _ _)
  ·
   intro a wr hn hd HW hs; have ha := q0a hn hd
   have ha := ha.add (seeE hs 1 (.int .i64 a1) KR KR)
   refine yStep ha 26 KR ?_; intro l_ ha HK
   refine stepp ha 26 (.int .i64 a1) KR KR ?_; intro ax hax; exact HK _ _ _ hax rfl (Below.refl _ _)
  ·
   intro a wr hn hd HW hs; have ha := q0a hn hd
   have ha := ha.add (seeF hs 25 7 (.int .i64 a0.f1) KR KR)
   have ha := ha.add (seeF hs 26 8 (.int .i64 a1) KR KR)
   refine yStep ha 27 KR ?_; intro l_ ha HK
   refine stepp ha 27 (.int .i64 (IntKind.wrap .i64 (a0.f1 + a1))) KR KR ?_; intro ax hax; exact HK _ _ _ hax rfl (Below.refl _ _)
  ·
   intro a wr hn hd HW hs; have ha := q0a hn hd
   have ha := ha.add (seeF hs 21 3 ((ptr cb1)) KR KR)
   have ha := ha.add (seeF hs 27 9 (.int .i64 (IntKind.wrap .i64 (a0.f1 + a1))) KR KR)
   refine yStep ha 28 KR ?_; intro l_ ha HK
   refine stepc ha 28 KR KR (q0n.calls K (⟨a0_0.f0, a0_0.f1, a0_0.f2, (⟨(), (), a0_0.f3.f2⟩ : q03), a0_0.f4, a0_0.f5, a0_0.f6⟩ : q04) (IntKind.wrap .i64 (a0.f1 + a1)) 1 A0_1 c0_1 A0_2 c0_2 A0_3 c0_3 cb1 t2322 _ (HW.ca0 hc1) ((HW.rd0 hr0_1)) ((HW.rd0 hr0_2)) ((HW.rd0 hr0_3)) ht2323) ?_; rintro e W2324 ⟨rfl, HX2325⟩
   refine ⟨_, rfl, ?_⟩; intro ax hax; exact HK _ _ _ hax rfl HX2325.below
  ·
   intro a wr hn hd HW hs; have ha := q0a hn hd
   have ha := ha.add (seeF hs 28 10 (.tuple #[.string t2322.1, .int .i64 t2322.2]) KR KR)
   refine yStep ha 17 KR ?_; intro l_ ha HK
   refine stepp ha 17 (.tuple #[.string t2322.1, .int .i64 t2322.2]) KR KR ?_; intro ax hax; exact HK _ _ _ hax rfl (Below.refl _ _)
  ·
   intro a wr hn hd HW hs; have ha := q0a hn hd
   have ha := ha.add (seeF hs 17 11 (.tuple #[.string t2322.1, .int .i64 t2322.2]) KR KR)
   refine yStep ha 29 KR ?_; intro l_ ha HK
   refine stepp ha 29 (.string t2322.1) KR KR ?_; intro ax hax; exact HK _ _ _ hax rfl (Below.refl _ _)
  ·
   intro a wr hn hd HW hs; have ha := q0a hn hd
   have ha := ha.add (seeF hs 17 11 (.tuple #[.string t2322.1, .int .i64 t2322.2]) KR KR)
   refine yStep ha 30 KR ?_; intro l_ ha HK
   refine stepp ha 30 (.int .i64 t2322.2) KR KR ?_; intro ax hax; exact HK _ _ _ hax rfl (Below.refl _ _)
  ·
   intro a wr hn hd HW hs; have ha := q0a hn hd
   have ha := ha.add (seeF hs 29 12 (.string t2322.1) KR KR)
   refine yStep ha 8 KR ?_; intro l_ ha HK
   refine stepp ha 8 (.string t2322.1) KR KR ?_; intro ax hax; exact HK _ _ _ hax rfl (Below.refl _ _)
 ·
  intro a W2326 ha HW he hf
  replace ha := ha.add (he 0 ((ptr cb0)) KR KR)
  replace ha := ha.add (gotF (m := 15) (j := 14) (d := 8) (v := .string t2322.1) hf KR KR KR)
  replace ha := ha.add (gotF (m := 15) (j := 13) (d := 30) (v := .int .i64 t2322.2) hf KR KR KR)
  clear he hf
  refine sp1 ha 7 (.int .i64 t2322.2) ?_; clear ha a; intro a ha
  refine endl (thenN (hK2321 _ _ (wp_seq_k fun K2327 hK2328 => wp_seq_k fun K2329 hK2330 => wp_region_lit ?_))); clear hK2321
  refine sp2 ha 31 (.int .i64 t2322.2) 32 (.bool (t2322.2 != 0)) ?_; clear ha a; intro a ha
  refine endl (thenN (hK2330 _ _ ?_)); clear hK2330
  by_cases hp2331 : t2322.2 = 0
  ·
   replace h := q0b h hp2331
   refine condF ha KR KR (t := (t2322.2 != 0)) (q2f hp2331) ?_
   refine wp_skip ?_
   refine thenN (hK2328 _ _ (wp_seq_k fun K2334 hK2335 => wp_region_lit ?_)); clear hK2328
   refine sp1 ha 35 (.string t2322.1) ?_; clear ha a; intro a ha
   obtain ⟨t2336, ht2337, h_⟩ := q08 h; replace h := h_; clear h_
   refine stepc ha 36 KR KR (q15.calls K t2322.1 4 8 t2336 _ ht2337) ?_; clear ha a; rintro e W2338 ⟨rfl, HX2339⟩
   refine ⟨_, rfl, ?_⟩; intro a ha; replace HW := HW.callw HX2339; clear HX2339
   refine sp5 ha 34 (.tuple #[.int .u64 t2336.1, .bool t2336.2]) 37 (.int .u64 t2336.1) 38 (.bool t2336.2) 9 (.int .u64 t2336.1) 10 (.bool t2336.2) ?_; clear ha a; intro a ha
   refine endl (thenN (hK2335 _ _ (wp_seq_k fun K2340 hK2341 => wp_region_lit ?_))); clear hK2335
   refine sp1 ha 40 (.string t2322.1) ?_; clear ha a; intro a ha
   obtain ⟨t2342, ht2343, h_⟩ := q08 h; replace h := h_; clear h_
   refine stepc ha 41 KR KR (q15.calls K t2322.1 504 8 t2342 _ ht2343) ?_; clear ha a; rintro e W2344 ⟨rfl, HX2345⟩
   refine ⟨_, rfl, ?_⟩; intro a ha; replace HW := HW.callw HX2345; clear HX2345
   refine sp5 ha 39 (.tuple #[.int .u64 t2342.1, .bool t2342.2]) 42 (.int .u64 t2342.1) 43 (.bool t2342.2) 11 (.int .u64 t2342.1) 12 (.bool t2342.2) ?_; clear ha a; intro a ha
   refine endl (thenN (hK2341 _ _ (wp_seq_k fun K2346 hK2347 => wp_region_lit ?_))); clear hK2341
   refine sp1 ha 45 (.string t2322.1) ?_; clear ha a; intro a ha
   obtain ⟨t2348, ht2349, h_⟩ := q08 h; replace h := h_; clear h_
   refine stepc ha 46 KR KR (q15.calls K t2322.1 12 4 t2348 _ ht2349) ?_; clear ha a; rintro e W2350 ⟨rfl, HX2351⟩
   refine ⟨_, rfl, ?_⟩; intro a ha; replace HW := HW.callw HX2351; clear HX2351
   refine sp5 ha 44 (.tuple #[.int .u64 t2348.1, .bool t2348.2]) 47 (.int .u64 t2348.1) 48 (.bool t2348.2) 13 (.int .u64 t2348.1) 14 (.bool t2348.2) ?_; clear ha a; intro a ha
   refine endl (thenN (hK2347 _ _ (wp_seq_k fun K2352 hK2353 => wp_region_lit ?_))); clear hK2347
   refine sp1 ha 50 (.string t2322.1) ?_; clear ha a; intro a ha
   obtain ⟨t2354, ht2355, h_⟩ := q08 h; replace h := h_; clear h_
   refine stepc ha 51 KR KR (q15.calls K t2322.1 16 4 t2354 _ ht2355) ?_; clear ha a; rintro e W2356 ⟨rfl, HX2357⟩
   refine ⟨_, rfl, ?_⟩; intro a ha; replace HW := HW.callw HX2357; clear HX2357
   refine sp5 ha 49 (.tuple #[.int .u64 t2354.1, .bool t2354.2]) 52 (.int .u64 t2354.1) 53 (.bool t2354.2) 15 (.int .u64 t2354.1) 16 (.bool t2354.2) ?_; clear ha a; intro a ha
   refine endl (thenN (hK2353 _ _ (wp_seq_k fun K2358 hK2359 => wp_seq_k fun K2360 hK2361 => wp_region_lit ?_))); clear hK2353
   refine sp1 ha 54 (.string t2322.1) ?_; clear ha a; intro a ha
   obtain ⟨t2362, ht2363, h_⟩ := q08 h; replace h := h_; clear h_
   refine stepc ha 55 KR KR (q18.calls t2322.1 (⟨#[72, 71, 74, 67]⟩ : ByteArray) t2362 _ ht2363) ?_; clear ha a; rintro e W2364 ⟨rfl, HX2365⟩
   refine ⟨_, rfl, ?_⟩; intro a ha; replace HW := HW.callw HX2365; clear HX2365
   refine sp2 ha 56 (.bool (!t2362)) 57 (.bool (!t2362)) ?_; clear ha a; intro a ha
   by_cases hp2366 : t2362 = true
   ·
    replace h := q0b h hp2366
    replace ha := ha.bool 57 KR (not_f (hp2366))
    refine sp5 ha 58 (.int .u64 t2336.1) 59 (.int .u64 t2342.1) 60 (.bool (t2336.1 != t2342.1)) 61 (.bool (t2336.1 != t2342.1)) 62 (.bool (t2336.1 != t2342.1)) ?_; clear ha a; intro a ha
    by_cases hp2367 : t2336.1 = t2342.1
    ·
     replace h := q0b h hp2367
     replace ha := ha.bool 62 KR (q2f hp2367)
     refine sp4 ha 63 (.int .u64 t2336.1) 64 (.bool (decide (t2336.1 ≥ 4611686018427387904))) 65 (.bool (decide (t2336.1 ≥ 4611686018427387904))) 66 (.bool (decide (t2336.1 ≥ 4611686018427387904))) ?_; clear ha a; intro a ha
     by_cases hp2368 : t2336.1 ≥ 4611686018427387904
     ·
      replace h := q0b h hp2368
      replace ha := ha.bool 66 KR (decide_eq_true hp2368)
      refine stepo ha 67 KR ?_; clear ha a; intro a ha
      refine stepo ha 68 KR ?_; clear ha a; intro a ha
      refine sp2 ha 69 (.bool true) 70 (.bool true) ?_; clear ha a; intro a ha
      refine stepo ha 71 KR ?_; clear ha a; intro a ha
      refine stepo ha 72 KR ?_; clear ha a; intro a ha
      refine sp2 ha 73 (.bool true) 74 (.bool true) ?_; clear ha a; intro a ha
      refine stepo ha 75 KR ?_; clear ha a; intro a ha
      refine stepo ha 76 KR ?_; clear ha a; intro a ha
      refine stepo ha 77 KR ?_; clear ha a; intro a ha
      refine stepo ha 78 KR ?_; clear ha a; intro a ha
      refine stepo ha 79 KR ?_; clear ha a; intro a ha
      refine stepo ha 80 KR ?_; clear ha a; intro a ha
      refine stepo ha 81 KR ?_; clear ha a; intro a ha
      refine sp1 ha 82 (.bool true) ?_; clear ha a; intro a ha
      refine endl (thenN (hK2361 _ _ ?_)); clear hK2361
      refine condT ha KR KR (t := true) (rfl) ?_
      refine wp_seq_k (fun K2371 hK2372 => ?_)
      refine wp_region_lit ?_
      refine sp4 ha 4 (.int .i64 0) 5 (.int .i64 0) 6 (.int .i64 0) 7 (.int .i64 0) ?_; clear ha a; intro a ha
      refine endl (thenN (hK2372 _ _ ?_)); clear hK2372
      refine wp_ret ?_
      refine thenR ?_
      obtain rfl := Option.some.inj h
      exact finv ha _ _ rfl (.tmp (v := .int .i64 0) KR (.tmp (v := .int .i64 0) KR (.tmp (v := .int .i64 0) KR (.tmp (v := .int .i64 0) KR .nil)))) (.tuple #[.int .i64 0, .int .i64 0, .int .i64 0, .int .i64 0]) rfl ⟨rfl, HW.pick [] [] (by decide) (by decide) rfl KR⟩
     ·
      replace h := q0c h hp2368
      replace ha := ha.bool 66 KR (decide_eq_false hp2368)
      refine sp4 ha 67 (.int .u64 t2348.1) 68 (.bool (decide (t2348.1 > 1))) 69 (.bool (decide (t2348.1 > 1))) 70 (.bool (decide (t2348.1 > 1))) ?_; clear ha a; intro a ha
      by_cases hp2369 : t2348.1 > 1
      ·
       replace h := q0b h hp2369
       replace ha := ha.bool 70 KR (decide_eq_true hp2369)
       refine stepo ha 71 KR ?_; clear ha a; intro a ha
       refine stepo ha 72 KR ?_; clear ha a; intro a ha
       refine sp2 ha 73 (.bool true) 74 (.bool true) ?_; clear ha a; intro a ha
       refine stepo ha 75 KR ?_; clear ha a; intro a ha
       refine stepo ha 76 KR ?_; clear ha a; intro a ha
       refine stepo ha 77 KR ?_; clear ha a; intro a ha
       refine stepo ha 78 KR ?_; clear ha a; intro a ha
       refine stepo ha 79 KR ?_; clear ha a; intro a ha
       refine stepo ha 80 KR ?_; clear ha a; intro a ha
       refine stepo ha 81 KR ?_; clear ha a; intro a ha
       refine sp1 ha 82 (.bool true) ?_; clear ha a; intro a ha
       refine endl (thenN (hK2361 _ _ ?_)); clear hK2361
       refine condT ha KR KR (t := true) (rfl) ?_
       refine wp_seq_k (fun K2373 hK2374 => ?_)
       refine wp_region_lit ?_
       refine sp4 ha 4 (.int .i64 0) 5 (.int .i64 0) 6 (.int .i64 0) 7 (.int .i64 0) ?_; clear ha a; intro a ha
       refine endl (thenN (hK2374 _ _ ?_)); clear hK2374
       refine wp_ret ?_
       refine thenR ?_
       obtain rfl := Option.some.inj h
       exact finv ha _ _ rfl (.tmp (v := .int .i64 0) KR (.tmp (v := .int .i64 0) KR (.tmp (v := .int .i64 0) KR (.tmp (v := .int .i64 0) KR .nil)))) (.tuple #[.int .i64 0, .int .i64 0, .int .i64 0, .int .i64 0]) rfl ⟨rfl, HW.pick [] [] (by decide) (by decide) rfl KR⟩
      ·
       replace h := q0c h hp2369
       replace ha := ha.bool 70 KR (decide_eq_false hp2369)
       refine sp4 ha 71 (.int .u64 t2354.1) 72 (.bool (decide (t2354.1 < 1))) 73 (.bool (decide (t2354.1 < 1))) 74 (.bool (decide (t2354.1 < 1))) ?_; clear ha a; intro a ha
       by_cases hp2370 : t2354.1 < 1
       ·
        replace h := q0b h hp2370
        replace ha := ha.bool 74 KR (decide_eq_true hp2370)
        refine stepo ha 75 KR ?_; clear ha a; intro a ha
        refine stepo ha 76 KR ?_; clear ha a; intro a ha
        refine stepo ha 77 KR ?_; clear ha a; intro a ha
        refine stepo ha 78 KR ?_; clear ha a; intro a ha
        refine stepo ha 79 KR ?_; clear ha a; intro a ha
        refine stepo ha 80 KR ?_; clear ha a; intro a ha
        refine stepo ha 81 KR ?_; clear ha a; intro a ha
        refine sp1 ha 82 (.bool true) ?_; clear ha a; intro a ha
        refine endl (thenN (hK2361 _ _ ?_)); clear hK2361
        refine condT ha KR KR (t := true) (rfl) ?_
        refine wp_seq_k (fun K2375 hK2376 => ?_)
        refine wp_region_lit ?_
        refine sp4 ha 4 (.int .i64 0) 5 (.int .i64 0) 6 (.int .i64 0) 7 (.int .i64 0) ?_; clear ha a; intro a ha
        refine endl (thenN (hK2376 _ _ ?_)); clear hK2376
        refine wp_ret ?_
        refine thenR ?_
        obtain rfl := Option.some.inj h
        exact finv ha _ _ rfl (.tmp (v := .int .i64 0) KR (.tmp (v := .int .i64 0) KR (.tmp (v := .int .i64 0) KR (.tmp (v := .int .i64 0) KR .nil)))) (.tuple #[.int .i64 0, .int .i64 0, .int .i64 0, .int .i64 0]) rfl ⟨rfl, HW.pick [] [] (by decide) (by decide) rfl KR⟩
       ·
        replace h := q0c h hp2370
        replace ha := ha.bool 74 KR (decide_eq_false hp2370)
        refine sp4 ha 75 (.int .u64 t2354.1) 76 ((ptr cb0)) 77 ((ptr cb0)) 78 (.pointer (some ⟨cb0, 2, none⟩)) ?_; clear ha a; intro a ha
        refine stepl ha 79 (HW.ca0 hc0) 3 2 (.tmp 78) (.int .i64 a0.f2) rfl KR KR KR ?_; clear ha a; intro a ha
        refine sp3 ha 80 (.int .u64 (IntKind.wrap .u64 a0.f2)) 81 (.bool (decide (t2354.1 > (IntKind.wrap .u64 a0.f2)))) 82 (.bool (decide (t2354.1 > (IntKind.wrap .u64 a0.f2)))) ?_; clear ha a; intro a ha
        refine endl (thenN (hK2361 _ _ ?_)); clear hK2361
        by_cases hp2377 : t2354.1 > (IntKind.wrap .u64 a0.f2)
        ·
         replace h := q0b h hp2377
         refine condT ha KR KR (t := decide (t2354.1 > (IntKind.wrap .u64 a0.f2))) (decide_eq_true hp2377) ?_
         refine wp_seq_k (fun K2378 hK2379 => ?_)
         refine wp_region_lit ?_
         refine sp4 ha 4 (.int .i64 0) 5 (.int .i64 0) 6 (.int .i64 0) 7 (.int .i64 0) ?_; clear ha a; intro a ha
         refine endl (thenN (hK2379 _ _ ?_)); clear hK2379
         refine wp_ret ?_
         refine thenR ?_
         obtain rfl := Option.some.inj h
         exact finv ha _ _ rfl (.tmp (v := .int .i64 0) KR (.tmp (v := .int .i64 0) KR (.tmp (v := .int .i64 0) KR (.tmp (v := .int .i64 0) KR .nil)))) (.tuple #[.int .i64 0, .int .i64 0, .int .i64 0, .int .i64 0]) rfl ⟨rfl, HW.pick [] [] (by decide) (by decide) rfl KR⟩
        ·
         replace h := q0c h hp2377
         refine condF ha KR KR (t := decide (t2354.1 > (IntKind.wrap .u64 a0.f2))) (decide_eq_false hp2377) ?_
         refine wp_skip ?_
         refine thenN (hK2359 _ _ (wp_seq_k fun K2384 hK2385 => wp_region_lit ?_)); clear hK2359
         refine sp6 ha 83 (.int .u64 t2336.1) 84 (.int .i64 (IntKind.wrap .i64 t2336.1)) 85 (.int .u64 t2348.1) 86 (.int .i64 (IntKind.wrap .i64 t2348.1)) 87 (.int .u64 t2354.1) 88 (.int .i64 (IntKind.wrap .i64 t2354.1)) ?_; clear ha a; intro a ha
         refine sp4 ha 4 (.int .i64 (IntKind.wrap .i64 t2336.1)) 5 (.int .i64 (IntKind.wrap .i64 t2348.1)) 6 (.int .i64 (IntKind.wrap .i64 t2354.1)) 7 (.int .i64 0) ?_; clear ha a; intro a ha
         refine endl (thenN (hK2385 _ _ ?_)); clear hK2385
         refine wp_ret ?_
         obtain rfl := Option.some.inj h
         exact finv ha _ _ rfl (.tmp (v := .int .i64 (IntKind.wrap .i64 t2336.1)) KR (.tmp (v := .int .i64 (IntKind.wrap .i64 t2348.1)) KR (.tmp (v := .int .i64 (IntKind.wrap .i64 t2354.1)) KR (.tmp (v := .int .i64 0) KR .nil)))) (.tuple #[.int .i64 (IntKind.wrap .i64 t2336.1), .int .i64 (IntKind.wrap .i64 t2348.1), .int .i64 (IntKind.wrap .i64 t2354.1), .int .i64 0]) rfl ⟨rfl, HW.pick [] [] (by decide) (by decide) rfl KR⟩
    ·
     replace h := q0c h hp2367
     replace ha := ha.bool 62 KR (q2e hp2367)
     refine stepo ha 63 KR ?_; clear ha a; intro a ha
     refine stepo ha 64 KR ?_; clear ha a; intro a ha
     refine sp2 ha 65 (.bool true) 66 (.bool true) ?_; clear ha a; intro a ha
     refine stepo ha 67 KR ?_; clear ha a; intro a ha
     refine stepo ha 68 KR ?_; clear ha a; intro a ha
     refine sp2 ha 69 (.bool true) 70 (.bool true) ?_; clear ha a; intro a ha
     refine stepo ha 71 KR ?_; clear ha a; intro a ha
     refine stepo ha 72 KR ?_; clear ha a; intro a ha
     refine sp2 ha 73 (.bool true) 74 (.bool true) ?_; clear ha a; intro a ha
     refine stepo ha 75 KR ?_; clear ha a; intro a ha
     refine stepo ha 76 KR ?_; clear ha a; intro a ha
     refine stepo ha 77 KR ?_; clear ha a; intro a ha
     refine stepo ha 78 KR ?_; clear ha a; intro a ha
     refine stepo ha 79 KR ?_; clear ha a; intro a ha
     refine stepo ha 80 KR ?_; clear ha a; intro a ha
     refine stepo ha 81 KR ?_; clear ha a; intro a ha
     refine sp1 ha 82 (.bool true) ?_; clear ha a; intro a ha
     refine endl (thenN (hK2361 _ _ ?_)); clear hK2361
     refine condT ha KR KR (t := true) (rfl) ?_
     refine wp_seq_k (fun K2380 hK2381 => ?_)
     refine wp_region_lit ?_
     refine sp4 ha 4 (.int .i64 0) 5 (.int .i64 0) 6 (.int .i64 0) 7 (.int .i64 0) ?_; clear ha a; intro a ha
     refine endl (thenN (hK2381 _ _ ?_)); clear hK2381
     refine wp_ret ?_
     refine thenR ?_
     obtain rfl := Option.some.inj h
     exact finv ha _ _ rfl (.tmp (v := .int .i64 0) KR (.tmp (v := .int .i64 0) KR (.tmp (v := .int .i64 0) KR (.tmp (v := .int .i64 0) KR .nil)))) (.tuple #[.int .i64 0, .int .i64 0, .int .i64 0, .int .i64 0]) rfl ⟨rfl, HW.pick [] [] (by decide) (by decide) rfl KR⟩
   ·
    replace h := q0c h hp2366
    replace ha := ha.bool 57 KR (not_t (q2w hp2366))
    refine stepo ha 58 KR ?_; clear ha a; intro a ha
    refine stepo ha 59 KR ?_; clear ha a; intro a ha
    refine stepo ha 60 KR ?_; clear ha a; intro a ha
    refine sp2 ha 61 (.bool true) 62 (.bool true) ?_; clear ha a; intro a ha
    refine stepo ha 63 KR ?_; clear ha a; intro a ha
    refine stepo ha 64 KR ?_; clear ha a; intro a ha
    refine sp2 ha 65 (.bool true) 66 (.bool true) ?_; clear ha a; intro a ha
    refine stepo ha 67 KR ?_; clear ha a; intro a ha
    refine stepo ha 68 KR ?_; clear ha a; intro a ha
    refine sp2 ha 69 (.bool true) 70 (.bool true) ?_; clear ha a; intro a ha
    refine stepo ha 71 KR ?_; clear ha a; intro a ha
    refine stepo ha 72 KR ?_; clear ha a; intro a ha
    refine sp2 ha 73 (.bool true) 74 (.bool true) ?_; clear ha a; intro a ha
    refine stepo ha 75 KR ?_; clear ha a; intro a ha
    refine stepo ha 76 KR ?_; clear ha a; intro a ha
    refine stepo ha 77 KR ?_; clear ha a; intro a ha
    refine stepo ha 78 KR ?_; clear ha a; intro a ha
    refine stepo ha 79 KR ?_; clear ha a; intro a ha
    refine stepo ha 80 KR ?_; clear ha a; intro a ha
    refine stepo ha 81 KR ?_; clear ha a; intro a ha
    refine sp1 ha 82 (.bool true) ?_; clear ha a; intro a ha
    refine endl (thenN (hK2361 _ _ ?_)); clear hK2361
    refine condT ha KR KR (t := true) (rfl) ?_
    refine wp_seq_k (fun K2382 hK2383 => ?_)
    refine wp_region_lit ?_
    refine sp4 ha 4 (.int .i64 0) 5 (.int .i64 0) 6 (.int .i64 0) 7 (.int .i64 0) ?_; clear ha a; intro a ha
    refine endl (thenN (hK2383 _ _ ?_)); clear hK2383
    refine wp_ret ?_
    refine thenR ?_
    obtain rfl := Option.some.inj h
    exact finv ha _ _ rfl (.tmp (v := .int .i64 0) KR (.tmp (v := .int .i64 0) KR (.tmp (v := .int .i64 0) KR (.tmp (v := .int .i64 0) KR .nil)))) (.tuple #[.int .i64 0, .int .i64 0, .int .i64 0, .int .i64 0]) rfl ⟨rfl, HW.pick [] [] (by decide) (by decide) rfl KR⟩
  ·
   replace h := q0c h hp2331
   refine condT ha KR KR (t := (t2322.2 != 0)) (q2e hp2331) ?_
   refine wp_seq_k (fun K2332 hK2333 => ?_)
   refine wp_region_lit ?_
   refine sp5 ha 33 (.int .i64 t2322.2) 4 (.int .i64 0) 5 (.int .i64 0) 6 (.int .i64 0) 7 (.int .i64 t2322.2) ?_; clear ha a; intro a ha
   refine endl (thenN (hK2333 _ _ ?_)); clear hK2333
   refine wp_ret ?_
   refine thenR ?_
   obtain rfl := Option.some.inj h
   exact finv ha _ _ rfl (.tmp (v := .int .i64 0) KR (.tmp (v := .int .i64 0) KR (.tmp (v := .int .i64 0) KR (.tmp (v := .int .i64 t2322.2) KR .nil)))) (.tuple #[.int .i64 0, .int .i64 0, .int .i64 0, .int .i64 t2322.2]) rfl ⟨rfl, HW.pick [] [] (by decide) (by decide) rfl KR⟩
theorem frame_want.ok (k : Int) (w : World) : Calls Tryd.prog 64 #[.bool true, .int .i64 k] w (fun e W' => e = .returned (.tuple #[]) ∧ Wd w W' [] []) := by
 refine q17 (n := 9) (l := [(0, .bool true), (1, .int .i64 k)]) Tryd.func64 rfl rfl (Nat.le_of_ble_eq_true KR) (q07 rfl (q07 rfl (q0q _))) ?_
 intro a ha
 have HW := Wd.refl w
 refine wp_seq_k (fun K hK => ?_)
 refine wp_region_lit ?_
 refine sp2 ha 4 (.bool true) 5 (.bool false) ?_; clear ha a; intro a ha
 refine endl ?_
 refine thenN (hK _ _ ?_); clear hK
 refine condF ha KR KR (t := false) rfl ?_
 refine wp_skip ?_
 exact finv (fn := Tryd.f64) (R := fun e W' => e = .returned (.tuple #[]) ∧ Wd w W' [] []) ha [] [] rfl .nil (.tuple #[]) rfl ⟨rfl, HW⟩
theorem frame_want.pan (k : Int) (w : World) : Calls Tryd.prog 64 #[.bool false, .int .i64 k] w (fun e W' => e = .panicked [{ v := .iface 93 (.agg #[.int .i64 k]), recovered := false }] ∧ Wd w W' [] []) := by
 refine q17 (n := 9) (l := [(0, .bool false), (1, .int .i64 k)]) Tryd.func64 rfl rfl (Nat.le_of_ble_eq_true KR) (q07 rfl (q07 rfl (q0q _))) ?_
 intro a ha
 have HW := Wd.refl w
 refine wp_seq_k (fun K hK => ?_)
 refine wp_region_lit ?_
 refine sp2 ha 4 (.bool false) 5 (.bool true) ?_; clear ha a; intro a ha
 refine endl ?_
 refine thenN (hK _ _ ?_); clear hK
 refine condT ha KR KR (t := true) rfl ?_
 refine wp_region_lit ?_
 refine sp3 ha 6 (.int .i64 k) 7 (.agg #[.int .i64 k]) 8 (.iface 93 (.agg #[.int .i64 k])) ?_; clear ha a; intro a ha
 refine steppan ha (.iface 93 (.agg #[.int .i64 k])) KR KR ?_
 exact finP ha ⟨rfl, HW⟩
def q1t.f (K : Nat) (a0 : ByteArray) (a1 : ByteArray) : Option Bool :=
 (q1m.f K a0).bind fun t2390 => (some (a1.toList == t2390.toList))
set_option maxRecDepth 100000 in
set_option maxHeartbeats 4000000 in
theorem q1t.calls (K : Nat) (a0 : ByteArray) (a1 : ByteArray)  (r : Bool) (w : World) (hG1 : CA w 1 0 (encs (encIK .u32) q0h).toArray) (h : q1t.f K a0 a1 = some r) :
  Calls Tryd.prog 65 #[.string a0, .string a1] w (fun e W' => e = .returned (.bool r) ∧ Wd w W' [] [] ) := by
 refine q17 (n := 9) (l := [(0, .string a0), (1, .string a1)]) Tryd.func65 rfl rfl (Nat.le_of_ble_eq_true KR) (q07 rfl (q07 rfl (q0q _))) ?_
 intro a ha
 have HW := Wd.refl w
 unfold q1t.f at h
 refine wp_seq_k (fun K2386 hK2387 => ?_)
 refine wp_region_lit ?_
 refine sp1 ha 4 (.bool false) ?_; clear ha a; intro a ha
 refine endl (thenN (hK2387 _ _ (wp_seq_k fun K2388 hK2389 => wp_region_lit ?_))); clear hK2387
 refine sp2 ha 5 (.string a1) 6 (.string a0) ?_; clear ha a; intro a ha
 obtain ⟨t2390, ht2391, h_⟩ := q08 h; replace h := h_; clear h_
 refine stepc ha 7 KR KR (q1m.calls K a0 t2390 _ (HW.ca0 hG1) ht2391) ?_; clear ha a; rintro e W2392 ⟨rfl, HX2393⟩
 refine ⟨_, rfl, ?_⟩; intro a ha; replace HW := HW.callw HX2393; clear HX2393
 refine sp2 ha 8 (.bool (a1.toList == t2390.toList)) 4 (.bool (a1.toList == t2390.toList)) ?_; clear ha a; intro a ha
 refine endl (thenN (hK2389 _ _ ?_)); clear hK2389
 refine wp_ret ?_
 obtain rfl := Option.some.inj h
 exact finv ha _ _ rfl (.tmp (v := .bool (a1.toList == t2390.toList)) KR .nil) (.bool (a1.toList == t2390.toList)) rfl ⟨rfl, HW.pick [] [] (by decide) (by decide) rfl KR⟩
def q25.f (a0 : ByteArray) (a1 : ByteArray) : Option ByteArray :=
 asrt (a1 = (⟨#[0]⟩ : ByteArray)) (asrt (a0.size ≤ 9223372036854775807) (some ⟨(Lib.trimB a0.data.toList 0).toArray⟩))
theorem q25.calls (a0 : ByteArray) (a1 : ByteArray)  (r : ByteArray) (w : World) (h : q25.f a0 a1 = some r) :
  Calls Tryd.prog 66 #[.string a0, .string a1] w (fun e W' => e = .returned (.string r) ∧ Wd w W' [] []) := by
 unfold q25.f at h
 obtain ⟨h0, h⟩ := q0d h
 obtain ⟨h1, h⟩ := q0d h
 obtain rfl := Option.some.inj h
 subst h0
 refine (Tryd.strings_Trim_one a0 0 (by decide) w h1).mono fun e W' ⟨he, hb⟩ => ⟨he, ?_⟩
 rcases hb with rfl | rfl
 ·exact Wd.refl _
 ·exact (Wd.refl w).drew _
def q2j.f (K : Nat) (a0 : ByteArray) : Option (Except Int (Int × ByteArray × Int)) :=
 if (a0.size : Int) ≥ 20 then ((q18.f a0 (⟨#[72, 71, 70, 82]⟩ : ByteArray)).bind fun t2982 => (if t2982 = true then (asrt (16 ≤ (a0.size : Int)) (asrt (20 ≤ (a0.size : Int)) ((q1t.f K (a0.extract 0 (16 : Int).toNat) (a0.extract (16 : Int).toNat (20 : Int).toNat)).bind fun t2997 => (if t2997 = true then ((q15.f K a0 4 8).bind fun t3009 => ((q15.f K a0 12 4).bind fun t3015 => (if t3015.1 ≤ 65536 then ((q0x.f (IntKind.wrap .i64 t3015.1)).bind fun t3030 => (if (IntKind.wrap .i64 (t3030 * 512)) ≤ (a0.size : Int) then (asrt (20 ≤ (IntKind.wrap .i64 (20 + (IntKind.wrap .i64 t3015.1)))) (asrt ((IntKind.wrap .i64 (20 + (IntKind.wrap .i64 t3015.1))) ≤ (a0.size : Int)) (asrt (0 ≤ (IntKind.wrap .i64 (20 + (IntKind.wrap .i64 t3015.1)))) (asrt ((IntKind.wrap .i64 (20 + (IntKind.wrap .i64 t3015.1))) ≤ (IntKind.wrap .i64 ((IntKind.wrap .i64 (20 + (IntKind.wrap .i64 t3015.1))) + 4))) (asrt ((IntKind.wrap .i64 ((IntKind.wrap .i64 (20 + (IntKind.wrap .i64 t3015.1))) + 4)) ≤ (a0.size : Int)) ((q1t.f K (a0.extract (20 : Int).toNat (IntKind.wrap .i64 (20 + (IntKind.wrap .i64 t3015.1)) : Int).toNat) (a0.extract (IntKind.wrap .i64 (20 + (IntKind.wrap .i64 t3015.1)) : Int).toNat (IntKind.wrap .i64 ((IntKind.wrap .i64 (20 + (IntKind.wrap .i64 t3015.1))) + 4) : Int).toNat)).bind fun t3050 => (if t3050 = true then (asrt (0 ≤ (IntKind.wrap .i64 ((IntKind.wrap .i64 (20 + (IntKind.wrap .i64 t3015.1))) + 4))) (asrt ((IntKind.wrap .i64 ((IntKind.wrap .i64 (20 + (IntKind.wrap .i64 t3015.1))) + 4)) ≤ (IntKind.wrap .i64 (t3030 * 512))) ((q25.f (a0.extract (IntKind.wrap .i64 ((IntKind.wrap .i64 (20 + (IntKind.wrap .i64 t3015.1))) + 4) : Int).toNat (IntKind.wrap .i64 (t3030 * 512) : Int).toNat) (⟨#[0]⟩ : ByteArray)).bind fun t3063 => (if t3063 = (⟨#[]⟩ : ByteArray) then (some (.ok (t3009.1, a0.extract (20 : Int).toNat (IntKind.wrap .i64 (20 + (IntKind.wrap .i64 t3015.1)) : Int).toNat, IntKind.wrap .i64 (t3030 * 512)))) else (some (.error 50)))))) else (some (.error 51))))))))) else (some (.error 50)))) else (some (.error 50))))) else (some (.error 51)))))) else (some (.error 50)))) else (some (.error 50))
set_option maxRecDepth 100000 in
set_option maxHeartbeats 4000000 in
theorem q2j.calls (K : Nat) (a0 : ByteArray)  (r : Except Int (Int × ByteArray × Int)) (w : World) (hG1 : CA w 1 0 (encs (encIK .u32) q0h).toArray) (h : q2j.f K a0 = some r) :
  Calls Tryd.prog 52 #[.string a0] w (fun e W' => match r with | .ok r => e = .returned (.tuple #[.int .u64 r.1, .string r.2.1, .int .i64 r.2.2]) ∧ Wd w W' [] [] | .error k => e = .panicked [{ v := .iface 93 (.agg #[.int .i64 k]), recovered := false }] ∧ Wd w W' [] []) := by
 refine q17 (n := 73) (l := [(0, .string a0)]) Tryd.func52 rfl rfl (Nat.le_of_ble_eq_true KR) (q07 rfl (q0q _)) ?_
 intro a ha
 have HW := Wd.refl w
 unfold q2j.f at h
 refine wp_seq_k (fun K2977 hK2978 => ?_)
 refine wp_region_lit ?_
 refine sp3 ha 2 (.int .u64 0) 3 (.string (⟨#[]⟩ : ByteArray)) 4 (.int .i64 0) ?_; clear ha a; intro a ha
 refine endl (thenN (hK2978 _ _ (wp_seq_k fun K2979 hK2980 => wp_region_lit ?_))); clear hK2978
 refine sp4 ha 12 (.string a0) 13 (.int .i64 (a0.size : Int)) 14 (.bool (decide ((a0.size : Int) ≥ 20))) 15 (.bool (decide ((a0.size : Int) ≥ 20))) ?_; clear ha a; intro a ha
 by_cases hp2981 : (a0.size : Int) ≥ 20
 ·
  replace h := q0b h hp2981
  replace ha := ha.bool 15 KR (decide_eq_true hp2981)
  refine sp1 ha 16 (.string a0) ?_; clear ha a; intro a ha
  obtain ⟨t2982, ht2983, h_⟩ := q08 h; replace h := h_; clear h_
  refine stepc ha 17 KR KR (q18.calls a0 (⟨#[72, 71, 70, 82]⟩ : ByteArray) t2982 _ ht2983) ?_; clear ha a; rintro e W2984 ⟨rfl, HX2985⟩
  refine ⟨_, rfl, ?_⟩; intro a ha; replace HW := HW.callw HX2985; clear HX2985
  refine sp1 ha 18 (.bool t2982) ?_; clear ha a; intro a ha
  by_cases hp2986 : t2982 = true
  ·
   replace h := q0b h hp2986
   replace ha := ha.bool 18 KR (hp2986)
   refine stepc ha 19 KR KR (frame_want.ok 50 _) ?_; clear ha a; rintro e W2987 ⟨rfl, HX2988⟩
   refine ⟨_, rfl, ?_⟩; intro a ha; replace HW := HW.callw HX2988; clear HX2988
   refine endl (thenN (hK2980 _ _ (wp_seq_k fun K2993 hK2994 => ?_))); clear hK2980
   obtain ⟨hA2995, h_⟩ := q0d h; replace h := h_; clear h_
   obtain ⟨hA2996, h_⟩ := q0d h; replace h := h_; clear h_
   obtain ⟨t2997, ht2998, h_⟩ := q08 h; replace h := h_; clear h_
   refine regionGT 5 KR KR ha HW [.fix (.string a0), .fix (.string (a0.extract 0 (16 : Int).toNat)), .fix (.string a0), .fix (.string (a0.extract (16 : Int).toNat (20 : Int).toNat)), .fix (.bool t2997)] ?_ ?_
   ·
    refine ⟨?_, ?_, ?_, ?_, ?_, trivial⟩
    ·
     intro a wr hn hd HW hs; have ha := q0a hn hd
     have ha := ha.add (seeE hs 0 (.string a0) KR KR)
     refine yStep ha 20 KR ?_; intro l_ ha HK
     refine stepp ha 20 (.string a0) KR KR ?_; intro ax hax; exact HK _ _ _ hax rfl (Below.refl _ _)
    ·
     intro a wr hn hd HW hs; have ha := q0a hn hd
     have ha := ha.add (seeF hs 20 0 (.string a0) KR KR)
     refine yStep ha 21 KR ?_; intro l_ ha HK
     refine stepssh ha 21 9 (.tmp 20) (.const (.int .i64 16)) a0 .i64 16 rfl KR KR KR (by decide) (show (16 : Int) ≤ ((a0).size : Int) from hA2995) KR ?_; intro ax hax; exact HK _ _ _ hax rfl (Below.refl _ _)
    ·
     intro a wr hn hd HW hs; have ha := q0a hn hd
     have ha := ha.add (seeE hs 0 (.string a0) KR KR)
     refine yStep ha 22 KR ?_; intro l_ ha HK
     refine stepp ha 22 (.string a0) KR KR ?_; intro ax hax; exact HK _ _ _ hax rfl (Below.refl _ _)
    ·
     intro a wr hn hd HW hs; have ha := q0a hn hd
     have ha := ha.add (seeF hs 22 2 (.string a0) KR KR)
     refine yStep ha 23 KR ?_; intro l_ ha HK
     refine stepss ha 23 9 (.tmp 22) (.const (.int .i64 16)) (.const (.int .i64 20)) a0 .i64 .i64 16 20 rfl KR KR KR KR (by decide) (by decide) (show (20 : Int) ≤ ((a0).size : Int) from hA2996) KR ?_; intro ax hax; exact HK _ _ _ hax rfl (Below.refl _ _)
    ·
     intro a wr hn hd HW hs; have ha := q0a hn hd
     have ha := ha.add (seeF hs 21 1 (.string (a0.extract 0 (16 : Int).toNat)) KR KR)
     have ha := ha.add (seeF hs 23 3 (.string (a0.extract (16 : Int).toNat (20 : Int).toNat)) KR KR)
     refine yStep ha 24 KR ?_; intro l_ ha HK
     refine stepc ha 24 KR KR (q1t.calls K (a0.extract 0 (16 : Int).toNat) (a0.extract (16 : Int).toNat (20 : Int).toNat) t2997 _ (HW.ca0 hG1) ht2998) ?_; rintro e W2999 ⟨rfl, HX3000⟩
     refine ⟨_, rfl, ?_⟩; intro ax hax; exact HK _ _ _ hax rfl HX3000.below
   ·
    intro a W3001 ha HW he hf
    replace ha := ha.add (he 0 (.string a0) KR KR)
    replace ha := ha.add (gotF (m := 5) (j := 4) (d := 24) (v := .bool t2997) hf KR KR KR)
    clear he hf
    by_cases hp3002 : t2997 = true
    ·
     replace h := q0b h hp3002
     replace ha := ha.bool 24 KR (hp3002)
     refine stepc ha 25 KR KR (frame_want.ok 51 _) ?_; clear ha a; rintro e W3003 ⟨rfl, HX3004⟩
     refine ⟨_, rfl, ?_⟩; intro a ha; replace HW := HW.callw HX3004; clear HX3004
     refine endl (thenN (hK2994 _ _ (wp_seq_k fun K3007 hK3008 => wp_region_lit ?_))); clear hK2994
     refine sp1 ha 27 (.string a0) ?_; clear ha a; intro a ha
     obtain ⟨t3009, ht3010, h_⟩ := q08 h; replace h := h_; clear h_
     refine stepc ha 28 KR KR (q15.calls K a0 4 8 t3009 _ ht3010) ?_; clear ha a; rintro e W3011 ⟨rfl, HX3012⟩
     refine ⟨_, rfl, ?_⟩; intro a ha; replace HW := HW.callw HX3012; clear HX3012
     refine sp5 ha 26 (.tuple #[.int .u64 t3009.1, .bool t3009.2]) 29 (.int .u64 t3009.1) 30 (.bool t3009.2) 5 (.int .u64 t3009.1) 6 (.bool t3009.2) ?_; clear ha a; intro a ha
     refine endl (thenN (hK3008 _ _ (wp_seq_k fun K3013 hK3014 => wp_region_lit ?_))); clear hK3008
     refine sp1 ha 32 (.string a0) ?_; clear ha a; intro a ha
     obtain ⟨t3015, ht3016, h_⟩ := q08 h; replace h := h_; clear h_
     refine stepc ha 33 KR KR (q15.calls K a0 12 4 t3015 _ ht3016) ?_; clear ha a; rintro e W3017 ⟨rfl, HX3018⟩
     refine ⟨_, rfl, ?_⟩; intro a ha; replace HW := HW.callw HX3018; clear HX3018
     refine sp5 ha 31 (.tuple #[.int .u64 t3015.1, .bool t3015.2]) 34 (.int .u64 t3015.1) 35 (.bool t3015.2) 7 (.int .u64 t3015.1) 8 (.bool t3015.2) ?_; clear ha a; intro a ha
     refine endl (thenN (hK3014 _ _ (wp_seq_k fun K3019 hK3020 => wp_region_lit ?_))); clear hK3014
     refine sp2 ha 36 (.int .u64 t3015.1) 37 (.bool (decide (t3015.1 ≤ 65536))) ?_; clear ha a; intro a ha
     by_cases hp3021 : t3015.1 ≤ 65536
     ·
      replace h := q0b h hp3021
      replace ha := ha.bool 37 KR (decide_eq_true hp3021)
      refine stepc ha 38 KR KR (frame_want.ok 50 _) ?_; clear ha a; rintro e W3022 ⟨rfl, HX3023⟩
      refine ⟨_, rfl, ?_⟩; intro a ha; replace HW := HW.callw HX3023; clear HX3023
      refine endl (thenN (hK3020 _ _ (wp_seq_k fun K3026 hK3027 => wp_region_lit ?_))); clear hK3020
      refine sp4 ha 39 (.int .u64 t3015.1) 40 (.int .i64 (IntKind.wrap .i64 t3015.1)) 41 (.int .i64 (IntKind.wrap .i64 (20 + (IntKind.wrap .i64 t3015.1)))) 9 (.int .i64 (IntKind.wrap .i64 (20 + (IntKind.wrap .i64 t3015.1)))) ?_; clear ha a; intro a ha
      refine endl (thenN (hK3027 _ _ (wp_seq_k fun K3028 hK3029 => wp_region_lit ?_))); clear hK3027
      refine sp2 ha 42 (.int .u64 t3015.1) 43 (.int .i64 (IntKind.wrap .i64 t3015.1)) ?_; clear ha a; intro a ha
      obtain ⟨t3030, ht3031, h_⟩ := q08 h; replace h := h_; clear h_
      refine stepc ha 44 KR KR (q0x.calls (IntKind.wrap .i64 t3015.1) t3030 _ ht3031) ?_; clear ha a; rintro e W3032 ⟨rfl, HX3033⟩
      refine ⟨_, rfl, ?_⟩; intro a ha; replace HW := HW.callw HX3033; clear HX3033
      refine sp2 ha 45 (.int .i64 (IntKind.wrap .i64 (t3030 * 512))) 10 (.int .i64 (IntKind.wrap .i64 (t3030 * 512))) ?_; clear ha a; intro a ha
      refine endl (thenN (hK3029 _ _ (wp_seq_k fun K3034 hK3035 => wp_region_lit ?_))); clear hK3029
      refine sp4 ha 46 (.int .i64 (IntKind.wrap .i64 (t3030 * 512))) 47 (.string a0) 48 (.int .i64 (a0.size : Int)) 49 (.bool (decide ((IntKind.wrap .i64 (t3030 * 512)) ≤ (a0.size : Int)))) ?_; clear ha a; intro a ha
      by_cases hp3036 : (IntKind.wrap .i64 (t3030 * 512)) ≤ (a0.size : Int)
      ·
       replace h := q0b h hp3036
       replace ha := ha.bool 49 KR (decide_eq_true hp3036)
       refine stepc ha 50 KR KR (frame_want.ok 50 _) ?_; clear ha a; rintro e W3037 ⟨rfl, HX3038⟩
       refine ⟨_, rfl, ?_⟩; intro a ha; replace HW := HW.callw HX3038; clear HX3038
       refine endl (thenN (hK3035 _ _ (wp_seq_k fun K3041 hK3042 => wp_region_lit ?_))); clear hK3035
       refine sp2 ha 51 (.string a0) 52 (.int .i64 (IntKind.wrap .i64 (20 + (IntKind.wrap .i64 t3015.1)))) ?_; clear ha a; intro a ha
       obtain ⟨hA3043, h_⟩ := q0d h; replace h := h_; clear h_
       obtain ⟨hA3044, h_⟩ := q0d h; replace h := h_; clear h_
       refine stepss ha 53 9 (.tmp 51) (.const (.int .i64 20)) (.tmp 52) a0 .i64 .i64 20 (IntKind.wrap .i64 (20 + (IntKind.wrap .i64 t3015.1))) rfl KR KR KR KR (by decide) hA3043 (show (IntKind.wrap .i64 (20 + (IntKind.wrap .i64 t3015.1)) : Int) ≤ ((a0).size : Int) from hA3044) KR ?_; clear ha a; intro a ha
       refine sp1 ha 11 (.string (a0.extract (20 : Int).toNat (IntKind.wrap .i64 (20 + (IntKind.wrap .i64 t3015.1)) : Int).toNat)) ?_; clear ha a; intro a ha
       refine endl (thenN (hK3042 _ _ (wp_seq_k fun K3045 hK3046 => wp_region_lit ?_))); clear hK3042
       refine sp5 ha 54 (.string (a0.extract (20 : Int).toNat (IntKind.wrap .i64 (20 + (IntKind.wrap .i64 t3015.1)) : Int).toNat)) 55 (.string a0) 56 (.int .i64 (IntKind.wrap .i64 (20 + (IntKind.wrap .i64 t3015.1)))) 57 (.int .i64 (IntKind.wrap .i64 (20 + (IntKind.wrap .i64 t3015.1)))) 58 (.int .i64 (IntKind.wrap .i64 ((IntKind.wrap .i64 (20 + (IntKind.wrap .i64 t3015.1))) + 4))) ?_; clear ha a; intro a ha
       obtain ⟨hA3047, h_⟩ := q0d h; replace h := h_; clear h_
       obtain ⟨hA3048, h_⟩ := q0d h; replace h := h_; clear h_
       obtain ⟨hA3049, h_⟩ := q0d h; replace h := h_; clear h_
       refine stepss ha 59 9 (.tmp 55) (.tmp 56) (.tmp 58) a0 .i64 .i64 (IntKind.wrap .i64 (20 + (IntKind.wrap .i64 t3015.1))) (IntKind.wrap .i64 ((IntKind.wrap .i64 (20 + (IntKind.wrap .i64 t3015.1))) + 4)) rfl KR KR KR KR hA3047 hA3048 (show (IntKind.wrap .i64 ((IntKind.wrap .i64 (20 + (IntKind.wrap .i64 t3015.1))) + 4) : Int) ≤ ((a0).size : Int) from hA3049) KR ?_; clear ha a; intro a ha
       obtain ⟨t3050, ht3051, h_⟩ := q08 h; replace h := h_; clear h_
       refine stepc ha 60 KR KR (q1t.calls K (a0.extract (20 : Int).toNat (IntKind.wrap .i64 (20 + (IntKind.wrap .i64 t3015.1)) : Int).toNat) (a0.extract (IntKind.wrap .i64 (20 + (IntKind.wrap .i64 t3015.1)) : Int).toNat (IntKind.wrap .i64 ((IntKind.wrap .i64 (20 + (IntKind.wrap .i64 t3015.1))) + 4) : Int).toNat) t3050 _ (HW.ca0 hG1) ht3051) ?_; clear ha a; rintro e W3052 ⟨rfl, HX3053⟩
       refine ⟨_, rfl, ?_⟩; intro a ha; replace HW := HW.callw HX3053; clear HX3053
       by_cases hp3054 : t3050 = true
       ·
        replace h := q0b h hp3054
        replace ha := ha.bool 60 KR (hp3054)
        refine stepc ha 61 KR KR (frame_want.ok 51 _) ?_; clear ha a; rintro e W3055 ⟨rfl, HX3056⟩
        refine ⟨_, rfl, ?_⟩; intro a ha; replace HW := HW.callw HX3056; clear HX3056
        refine endl (thenN (hK3046 _ _ (wp_seq_k fun K3059 hK3060 => wp_region_lit ?_))); clear hK3046
        refine sp4 ha 62 (.string a0) 63 (.int .i64 (IntKind.wrap .i64 (20 + (IntKind.wrap .i64 t3015.1)))) 64 (.int .i64 (IntKind.wrap .i64 ((IntKind.wrap .i64 (20 + (IntKind.wrap .i64 t3015.1))) + 4))) 65 (.int .i64 (IntKind.wrap .i64 (t3030 * 512))) ?_; clear ha a; intro a ha
        obtain ⟨hA3061, h_⟩ := q0d h; replace h := h_; clear h_
        obtain ⟨hA3062, h_⟩ := q0d h; replace h := h_; clear h_
        refine stepss ha 66 9 (.tmp 62) (.tmp 64) (.tmp 65) a0 .i64 .i64 (IntKind.wrap .i64 ((IntKind.wrap .i64 (20 + (IntKind.wrap .i64 t3015.1))) + 4)) (IntKind.wrap .i64 (t3030 * 512)) rfl KR KR KR KR hA3061 hA3062 (show (IntKind.wrap .i64 (t3030 * 512) : Int) ≤ ((a0).size : Int) from hp3036) KR ?_; clear ha a; intro a ha
        obtain ⟨t3063, ht3064, h_⟩ := q08 h; replace h := h_; clear h_
        refine stepc ha 67 KR KR (q25.calls (a0.extract (IntKind.wrap .i64 ((IntKind.wrap .i64 (20 + (IntKind.wrap .i64 t3015.1))) + 4) : Int).toNat (IntKind.wrap .i64 (t3030 * 512) : Int).toNat) (⟨#[0]⟩ : ByteArray) t3063 _ ht3064) ?_; clear ha a; rintro e W3065 ⟨rfl, HX3066⟩
        refine ⟨_, rfl, ?_⟩; intro a ha; replace HW := HW.callw HX3066; clear HX3066
        refine sp1 ha 68 (.bool (t3063.toList == (⟨#[]⟩ : ByteArray).toList)) ?_; clear ha a; intro a ha
        by_cases hp3067 : t3063 = (⟨#[]⟩ : ByteArray)
        ·
         replace h := q0b h hp3067
         replace ha := ha.bool 68 KR (q29 hp3067)
         refine stepc ha 69 KR KR (frame_want.ok 50 _) ?_; clear ha a; rintro e W3068 ⟨rfl, HX3069⟩
         refine ⟨_, rfl, ?_⟩; intro a ha; replace HW := HW.callw HX3069; clear HX3069
         refine endl (thenN (hK3060 _ _ (wp_seq_k fun K3072 hK3073 => wp_region_lit ?_))); clear hK3060
         refine sp6 ha 70 (.int .u64 t3009.1) 71 (.string (a0.extract (20 : Int).toNat (IntKind.wrap .i64 (20 + (IntKind.wrap .i64 t3015.1)) : Int).toNat)) 72 (.int .i64 (IntKind.wrap .i64 (t3030 * 512))) 2 (.int .u64 t3009.1) 3 (.string (a0.extract (20 : Int).toNat (IntKind.wrap .i64 (20 + (IntKind.wrap .i64 t3015.1)) : Int).toNat)) 4 (.int .i64 (IntKind.wrap .i64 (t3030 * 512))) ?_; clear ha a; intro a ha
         refine endl (thenN (hK3073 _ _ ?_)); clear hK3073
         refine wp_ret ?_
         obtain rfl := Option.some.inj h
         exact finv ha _ _ rfl (.tmp (v := .int .u64 t3009.1) KR (.tmp (v := .string (a0.extract (20 : Int).toNat (IntKind.wrap .i64 (20 + (IntKind.wrap .i64 t3015.1)) : Int).toNat)) KR (.tmp (v := .int .i64 (IntKind.wrap .i64 (t3030 * 512))) KR .nil))) (.tuple #[.int .u64 t3009.1, .string (a0.extract (20 : Int).toNat (IntKind.wrap .i64 (20 + (IntKind.wrap .i64 t3015.1)) : Int).toNat), .int .i64 (IntKind.wrap .i64 (t3030 * 512))]) rfl ⟨rfl, HW.pick [] [] (by decide) (by decide) rfl KR⟩
        ·
         replace h := q0c h hp3067
         replace ha := ha.bool 68 KR (q23 hp3067)
         refine stepcP ha 69 KR KR (frame_want.pan 50 _) ?_; rintro e W3070 ⟨rfl, HX3071⟩
         refine .inr ⟨_, rfl, ?_⟩; replace HW := HW.callw HX3071; clear HX3071
         refine thenP ?_
         obtain rfl := Option.some.inj h
         exact finP ha ⟨rfl, HW.pick [] [] (by decide) (by decide) rfl rfl⟩
       ·
        replace h := q0c h hp3054
        replace ha := ha.bool 60 KR (q2w hp3054)
        refine stepcP ha 61 KR KR (frame_want.pan 51 _) ?_; rintro e W3057 ⟨rfl, HX3058⟩
        refine .inr ⟨_, rfl, ?_⟩; replace HW := HW.callw HX3058; clear HX3058
        refine thenP ?_
        obtain rfl := Option.some.inj h
        exact finP ha ⟨rfl, HW.pick [] [] (by decide) (by decide) rfl rfl⟩
      ·
       replace h := q0c h hp3036
       replace ha := ha.bool 49 KR (decide_eq_false hp3036)
       refine stepcP ha 50 KR KR (frame_want.pan 50 _) ?_; rintro e W3039 ⟨rfl, HX3040⟩
       refine .inr ⟨_, rfl, ?_⟩; replace HW := HW.callw HX3040; clear HX3040
       refine thenP ?_
       obtain rfl := Option.some.inj h
       exact finP ha ⟨rfl, HW.pick [] [] (by decide) (by decide) rfl rfl⟩
     ·
      replace h := q0c h hp3021
      replace ha := ha.bool 37 KR (decide_eq_false hp3021)
      refine stepcP ha 38 KR KR (frame_want.pan 50 _) ?_; rintro e W3024 ⟨rfl, HX3025⟩
      refine .inr ⟨_, rfl, ?_⟩; replace HW := HW.callw HX3025; clear HX3025
      refine thenP ?_
      obtain rfl := Option.some.inj h
      exact finP ha ⟨rfl, HW.pick [] [] (by decide) (by decide) rfl rfl⟩
    ·
     replace h := q0c h hp3002
     replace ha := ha.bool 24 KR (q2w hp3002)
     refine stepcP ha 25 KR KR (frame_want.pan 51 _) ?_; rintro e W3005 ⟨rfl, HX3006⟩
     refine .inr ⟨_, rfl, ?_⟩; replace HW := HW.callw HX3006; clear HX3006
     refine thenP ?_
     obtain rfl := Option.some.inj h
     exact finP ha ⟨rfl, HW.pick [] [] (by decide) (by decide) rfl rfl⟩
  ·
   replace h := q0c h hp2986
   replace ha := ha.bool 18 KR (q2w hp2986)
   refine stepcP ha 19 KR KR (frame_want.pan 50 _) ?_; rintro e W2989 ⟨rfl, HX2990⟩
   refine .inr ⟨_, rfl, ?_⟩; replace HW := HW.callw HX2990; clear HX2990
   refine thenP ?_
   obtain rfl := Option.some.inj h
   exact finP ha ⟨rfl, HW.pick [] [] (by decide) (by decide) rfl rfl⟩
 ·
  replace h := q0c h hp2981
  replace ha := ha.bool 15 KR (decide_eq_false hp2981)
  refine stepo ha 16 KR ?_; clear ha a; intro a ha
  refine stepo ha 17 KR ?_; clear ha a; intro a ha
  refine sp1 ha 18 (.bool false) ?_; clear ha a; intro a ha
  refine stepcP ha 19 KR KR (frame_want.pan 50 _) ?_; rintro e W2991 ⟨rfl, HX2992⟩
  refine .inr ⟨_, rfl, ?_⟩; replace HW := HW.callw HX2992; clear HX2992
  refine thenP ?_
  obtain rfl := Option.some.inj h
  exact finP ha ⟨rfl, HW.pick [] [] (by decide) (by decide) rfl rfl⟩
def q2k.f (K : Nat) (a0 : ByteArray) : Option (Int × ByteArray × Int × Int) :=
 (q2j.f K a0).bind fun r => match r with
  | .ok x => some (x.1, x.2.1, x.2.2, 0)
  | .error k => some (0, ⟨#[]⟩, 0, k)
theorem q2k.calls (K : Nat) (a0 : ByteArray) (r : Int × ByteArray × Int × Int) (w : World) (hG1 : CA w 1 0 (encs (encIK .u32) q0h).toArray) (h : q2k.f K a0 = some r) :
  Calls Tryd.prog 34 #[.string a0] w (fun e W' => e = .returned (.tuple #[.int .u64 r.1, .string r.2.1, .int .i64 r.2.2.1, .int .i64 r.2.2.2]) ∧ Wd w W' [] []) := by
 unfold q2k.f at h
 obtain ⟨t, ht, h⟩ := q08 h
 cases t with
 | ok x =>
  obtain rfl := Option.some.inj h
  refine (get_ok a0 x.1 x.2.1 x.2.2 w (fun W hb => (q2j.calls K a0 (.ok x) W ((Wd.refl w).call hb |>.ca0 hG1) ht).mono fun e W' ⟨he, hw⟩ => ⟨he, hw.below⟩)).mono fun e W' ⟨he, hb⟩ => ⟨he, (Wd.refl w).call hb⟩
 | error k =>
  obtain rfl := Option.some.inj h
  refine (get_pan a0 k w (fun W hb => (q2j.calls K a0 (.error k) W ((Wd.refl w).call hb |>.ca0 hG1) ht).mono fun e W' ⟨he, hw⟩ => ⟨he, hw.below⟩)).mono fun e W' ⟨he, hb⟩ => ⟨he, (Wd.refl w).call hb⟩
end Go.Proofs.YtokdiacjcbolfaaDoor.F
namespace Go.Proofs.YtokdiacjcbolfaaDoor.F
open Go Go.RowKit Go.Proofs.YtokdiacjcbolfaaDoor.X
set_option linter.unusedVariables false
set_option linter.unusedSimpArgs false
def q0p.b0 (K : Nat) (a1 : Int) (again2417 : ByteArray → Option ByteArray) (x2418 : ByteArray) : Option ByteArray :=
 if (x2418.size : Int) > 0 then (asrt (0 < (x2418.size : Int)) (if (bt x2418 0) = a1 then (asrt (1 ≤ (x2418.size : Int)) (again2417 (x2418.extract (1 : Int).toNat (x2418).size))) else (some x2418))) else (some x2418)
def q0p.l0 (K : Nat) (a1 : Int) : Nat → ByteArray → Option ByteArray
 | 0, _ => none
 | k_ + 1, x2418 => q0p.b0 K a1 (q0p.l0 K a1 k_) x2418
def q0p.f (K : Nat) (a0 : ByteArray) (a1 : Int) : Option ByteArray :=
 q0p.l0 K a1 K a0
set_option maxRecDepth 100000 in
set_option maxHeartbeats 4000000 in
theorem q0p.calls (K : Nat) (a0 : ByteArray) (a1 : Int)  (r : ByteArray) (w : World)  (h : q0p.f K a0 a1 = some r) :
  Calls Tryd.prog 73 #[.string a0, .int .u8 a1] w (fun e W' => e = .returned (.string r) ∧ Wd w W' [] [] ) := by
 refine q17 (n := 17) (l := [(0, .string a0), (1, .int .u8 a1)]) Tryd.func73 rfl rfl (Nat.le_of_ble_eq_true KR) (q07 rfl (q07 rfl (q0q _))) ?_
 intro a ha
 have HW := Wd.refl w
 unfold q0p.f at h
 refine wp_seq_k (fun K2394 hK2395 => ?_)
 refine wp_region_lit ?_
 refine sp1 ha 4 (.string (⟨#[]⟩ : ByteArray)) ?_; clear ha a; intro a ha
 refine endl (thenN (hK2395 _ _ (wp_seq_k fun K2396 hK2397 => ?_))); clear hK2395
 refine wp_block ?_
 refine loopk (fun k => fun a W2419 => ∃ (x2418 : ByteArray), q0p.l0 K a1 k x2418 = some r ∧ Has 17 [(0, .string x2418), (1, .int .u8 a1)] a ∧ Wd w W2419 [] []) K ?_ ?_
 ·
  exact ⟨a0, h, ha.sub (q05 KR (q05 KR (q0t _))), HW.pick [] [] (by decide) (by decide) KR KR⟩
 ·
  intro k a W2419 hI
  obtain ⟨x2418, h, ha, HW⟩ := hI
  cases k with
  | zero => exact (q1n (show none = some r from h)).elim
  | succ k2420 =>
   replace h : q0p.b0 K a1 (q0p.l0 K a1 k2420) x2418 = some r := h
   obtain ⟨again2417, hag2421⟩ : ∃ g_, g_ = q0p.l0 K a1 k2420 := ⟨_, rfl⟩
   rw [← hag2421] at h
   unfold q0p.b0 at h
   refine wp_seq_k (fun K2422 hK2423 => ?_)
   refine wp_seq_k (fun K2424 hK2425 => ?_)
   refine wp_region_lit ?_
   refine sp4 ha 5 (.string x2418) 6 (.int .i64 (x2418.size : Int)) 7 (.bool (decide ((x2418.size : Int) > 0))) 8 (.bool (decide ((x2418.size : Int) > 0))) ?_; clear ha a; intro a ha
   by_cases hp2426 : (x2418.size : Int) > 0
   ·
    replace h := q0b h hp2426
    replace ha := ha.bool 8 KR (decide_eq_true hp2426)
    refine sp1 ha 9 (.string x2418) ?_; clear ha a; intro a ha
    obtain ⟨hA2427, h_⟩ := q0d h; replace h := h_; clear h_
    refine stepsi ha 10 9 (.tmp 9) (.const (.int .i64 0)) x2418 .i64 0 rfl KR KR KR (by decide) (show (0 : Int) < ((x2418).size : Int) from hA2427) KR ?_; clear ha a; intro a ha
    refine sp3 ha 11 (.int .u8 a1) 12 (.bool ((bt x2418 0) == a1)) 13 (.bool ((bt x2418 0) == a1)) ?_; clear ha a; intro a ha
    refine endl (thenN (hK2425 _ _ ?_)); clear hK2425
    by_cases hp2428 : (bt x2418 0) = a1
    ·
     replace h := q0b h hp2428
     refine condT ha KR KR (t := ((bt x2418 0) == a1)) (ieq_t hp2428) ?_
     refine wp_skip ?_
     refine thenN (hK2423 _ _ ?_); clear hK2423
     refine wp_block ?_
     refine wp_region_lit ?_
     refine sp1 ha 14 (.string x2418) ?_; clear ha a; intro a ha
     obtain ⟨hA2429, h_⟩ := q0d h; replace h := h_; clear h_
     refine stepssl ha 15 9 (.tmp 14) (.const (.int .i64 1)) x2418 .i64 1 rfl KR KR KR (by decide) (show (1 : Int) ≤ ((x2418).size : Int) from hA2429) KR ?_; clear ha a; intro a ha
     refine sp1 ha 0 (.string (x2418.extract (1 : Int).toNat (x2418).size)) ?_; clear ha a; intro a ha
     refine endl ?_
     refine blkN ?_
     exact thenN ⟨k2420, Nat.lt_succ_self k2420, x2418.extract (1 : Int).toNat (x2418).size, (by rw [← hag2421]; exact h), ha.sub (q05 KR (q05 KR (q0t _))), HW.pick [] [] (by decide) (by decide) KR KR⟩
    ·
     replace h := q0c h hp2428
     refine condF ha KR KR (t := ((bt x2418 0) == a1)) (ieq_f hp2428) ?_
     refine wp_exit ?_
     refine thenE ?_
     refine thenE ?_
     refine inBlk ?_
     refine thenN (hK2397 _ _ (wp_seq_k fun K2430 hK2431 => wp_region_lit ?_)); clear hK2397
     refine sp2 ha 16 (.string x2418) 4 (.string x2418) ?_; clear ha a; intro a ha
     refine endl (thenN (hK2431 _ _ ?_)); clear hK2431
     refine wp_ret ?_
     obtain rfl := Option.some.inj h
     exact finv ha _ _ rfl (.tmp (v := .string x2418) KR .nil) (.string x2418) rfl ⟨rfl, HW.pick [] [] (by decide) (by decide) rfl KR⟩
   ·
    replace h := q0c h hp2426
    replace ha := ha.bool 8 KR (decide_eq_false hp2426)
    refine stepo ha 9 KR ?_; clear ha a; intro a ha
    refine stepo ha 10 KR ?_; clear ha a; intro a ha
    refine stepo ha 11 KR ?_; clear ha a; intro a ha
    refine stepo ha 12 KR ?_; clear ha a; intro a ha
    refine sp1 ha 13 (.bool false) ?_; clear ha a; intro a ha
    refine endl (thenN (hK2425 _ _ ?_)); clear hK2425
    refine condF ha KR KR (t := false) (rfl) ?_
    refine wp_exit ?_
    refine thenE ?_
    refine thenE ?_
    refine inBlk ?_
    refine thenN (hK2397 _ _ (wp_seq_k fun K2432 hK2433 => wp_region_lit ?_)); clear hK2397
    refine sp2 ha 16 (.string x2418) 4 (.string x2418) ?_; clear ha a; intro a ha
    refine endl (thenN (hK2433 _ _ ?_)); clear hK2433
    refine wp_ret ?_
    obtain rfl := Option.some.inj h
    exact finv ha _ _ rfl (.tmp (v := .string x2418) KR .nil) (.string x2418) rfl ⟨rfl, HW.pick [] [] (by decide) (by decide) rfl KR⟩
def q0m.b0 (K : Nat) (a1 : Int) (again2459 : ByteArray → Option ByteArray) (x2460 : ByteArray) : Option ByteArray :=
 if (x2460.size : Int) > 0 then (asrt (0 ≤ (IntKind.wrap .i64 ((x2460.size : Int) - 1))) (asrt ((IntKind.wrap .i64 ((x2460.size : Int) - 1)) < (x2460.size : Int)) (if (bt x2460 (IntKind.wrap .i64 ((x2460.size : Int) - 1))) = a1 then (asrt ((IntKind.wrap .i64 ((x2460.size : Int) - 1)) ≤ (x2460.size : Int)) (again2459 (x2460.extract 0 (IntKind.wrap .i64 ((x2460.size : Int) - 1) : Int).toNat))) else (some x2460)))) else (some x2460)
def q0m.l0 (K : Nat) (a1 : Int) : Nat → ByteArray → Option ByteArray
 | 0, _ => none
 | k_ + 1, x2460 => q0m.b0 K a1 (q0m.l0 K a1 k_) x2460
def q0m.f (K : Nat) (a0 : ByteArray) (a1 : Int) : Option ByteArray :=
 q0m.l0 K a1 K a0
set_option maxRecDepth 100000 in
set_option maxHeartbeats 4000000 in
theorem q0m.calls (K : Nat) (a0 : ByteArray) (a1 : Int)  (r : ByteArray) (w : World)  (h : q0m.f K a0 a1 = some r) :
  Calls Tryd.prog 74 #[.string a0, .int .u8 a1] w (fun e W' => e = .returned (.string r) ∧ Wd w W' [] [] ) := by
 refine q17 (n := 23) (l := [(0, .string a0), (1, .int .u8 a1)]) Tryd.func74 rfl rfl (Nat.le_of_ble_eq_true KR) (q07 rfl (q07 rfl (q0q _))) ?_
 intro a ha
 have HW := Wd.refl w
 unfold q0m.f at h
 refine wp_seq_k (fun K2434 hK2435 => ?_)
 refine wp_region_lit ?_
 refine sp1 ha 4 (.string (⟨#[]⟩ : ByteArray)) ?_; clear ha a; intro a ha
 refine endl (thenN (hK2435 _ _ (wp_seq_k fun K2436 hK2437 => ?_))); clear hK2435
 refine wp_block ?_
 refine loopk (fun k => fun a W2461 => ∃ (x2460 : ByteArray), q0m.l0 K a1 k x2460 = some r ∧ Has 23 [(0, .string x2460), (1, .int .u8 a1)] a ∧ Wd w W2461 [] []) K ?_ ?_
 ·
  exact ⟨a0, h, ha.sub (q05 KR (q05 KR (q0t _))), HW.pick [] [] (by decide) (by decide) KR KR⟩
 ·
  intro k a W2461 hI
  obtain ⟨x2460, h, ha, HW⟩ := hI
  cases k with
  | zero => exact (q1n (show none = some r from h)).elim
  | succ k2462 =>
   replace h : q0m.b0 K a1 (q0m.l0 K a1 k2462) x2460 = some r := h
   obtain ⟨again2459, hag2463⟩ : ∃ g_, g_ = q0m.l0 K a1 k2462 := ⟨_, rfl⟩
   rw [← hag2463] at h
   unfold q0m.b0 at h
   refine wp_seq_k (fun K2464 hK2465 => ?_)
   refine wp_seq_k (fun K2466 hK2467 => ?_)
   refine wp_region_lit ?_
   refine sp4 ha 5 (.string x2460) 6 (.int .i64 (x2460.size : Int)) 7 (.bool (decide ((x2460.size : Int) > 0))) 8 (.bool (decide ((x2460.size : Int) > 0))) ?_; clear ha a; intro a ha
   by_cases hp2468 : (x2460.size : Int) > 0
   ·
    replace h := q0b h hp2468
    replace ha := ha.bool 8 KR (decide_eq_true hp2468)
    refine sp4 ha 9 (.string x2460) 10 (.string x2460) 11 (.int .i64 (x2460.size : Int)) 12 (.int .i64 (IntKind.wrap .i64 ((x2460.size : Int) - 1))) ?_; clear ha a; intro a ha
    obtain ⟨hA2469, h_⟩ := q0d h; replace h := h_; clear h_
    obtain ⟨hA2470, h_⟩ := q0d h; replace h := h_; clear h_
    refine stepsi ha 13 9 (.tmp 9) (.tmp 12) x2460 .i64 (IntKind.wrap .i64 ((x2460.size : Int) - 1)) rfl KR KR KR hA2469 (show (IntKind.wrap .i64 ((x2460.size : Int) - 1) : Int) < ((x2460).size : Int) from hA2470) KR ?_; clear ha a; intro a ha
    refine sp3 ha 14 (.int .u8 a1) 15 (.bool ((bt x2460 (IntKind.wrap .i64 ((x2460.size : Int) - 1))) == a1)) 16 (.bool ((bt x2460 (IntKind.wrap .i64 ((x2460.size : Int) - 1))) == a1)) ?_; clear ha a; intro a ha
    refine endl (thenN (hK2467 _ _ ?_)); clear hK2467
    by_cases hp2471 : (bt x2460 (IntKind.wrap .i64 ((x2460.size : Int) - 1))) = a1
    ·
     replace h := q0b h hp2471
     refine condT ha KR KR (t := ((bt x2460 (IntKind.wrap .i64 ((x2460.size : Int) - 1))) == a1)) (ieq_t hp2471) ?_
     refine wp_skip ?_
     refine thenN (hK2465 _ _ ?_); clear hK2465
     refine wp_block ?_
     refine wp_region_lit ?_
     refine sp4 ha 17 (.string x2460) 18 (.string x2460) 19 (.int .i64 (x2460.size : Int)) 20 (.int .i64 (IntKind.wrap .i64 ((x2460.size : Int) - 1))) ?_; clear ha a; intro a ha
     obtain ⟨hA2472, h_⟩ := q0d h; replace h := h_; clear h_
     refine stepssh ha 21 9 (.tmp 17) (.tmp 20) x2460 .i64 (IntKind.wrap .i64 ((x2460.size : Int) - 1)) rfl KR KR KR hA2469 (show (IntKind.wrap .i64 ((x2460.size : Int) - 1) : Int) ≤ ((x2460).size : Int) from hA2472) KR ?_; clear ha a; intro a ha
     refine sp1 ha 0 (.string (x2460.extract 0 (IntKind.wrap .i64 ((x2460.size : Int) - 1) : Int).toNat)) ?_; clear ha a; intro a ha
     refine endl ?_
     refine blkN ?_
     exact thenN ⟨k2462, Nat.lt_succ_self k2462, x2460.extract 0 (IntKind.wrap .i64 ((x2460.size : Int) - 1) : Int).toNat, (by rw [← hag2463]; exact h), ha.sub (q05 KR (q05 KR (q0t _))), HW.pick [] [] (by decide) (by decide) KR KR⟩
    ·
     replace h := q0c h hp2471
     refine condF ha KR KR (t := ((bt x2460 (IntKind.wrap .i64 ((x2460.size : Int) - 1))) == a1)) (ieq_f hp2471) ?_
     refine wp_exit ?_
     refine thenE ?_
     refine thenE ?_
     refine inBlk ?_
     refine thenN (hK2437 _ _ (wp_seq_k fun K2473 hK2474 => wp_region_lit ?_)); clear hK2437
     refine sp2 ha 22 (.string x2460) 4 (.string x2460) ?_; clear ha a; intro a ha
     refine endl (thenN (hK2474 _ _ ?_)); clear hK2474
     refine wp_ret ?_
     obtain rfl := Option.some.inj h
     exact finv ha _ _ rfl (.tmp (v := .string x2460) KR .nil) (.string x2460) rfl ⟨rfl, HW.pick [] [] (by decide) (by decide) rfl KR⟩
   ·
    replace h := q0c h hp2468
    replace ha := ha.bool 8 KR (decide_eq_false hp2468)
    refine stepo ha 9 KR ?_; clear ha a; intro a ha
    refine stepo ha 10 KR ?_; clear ha a; intro a ha
    refine stepo ha 11 KR ?_; clear ha a; intro a ha
    refine stepo ha 12 KR ?_; clear ha a; intro a ha
    refine stepo ha 13 KR ?_; clear ha a; intro a ha
    refine stepo ha 14 KR ?_; clear ha a; intro a ha
    refine stepo ha 15 KR ?_; clear ha a; intro a ha
    refine sp1 ha 16 (.bool false) ?_; clear ha a; intro a ha
    refine endl (thenN (hK2467 _ _ ?_)); clear hK2467
    refine condF ha KR KR (t := false) (rfl) ?_
    refine wp_exit ?_
    refine thenE ?_
    refine thenE ?_
    refine inBlk ?_
    refine thenN (hK2437 _ _ (wp_seq_k fun K2475 hK2476 => wp_region_lit ?_)); clear hK2437
    refine sp2 ha 22 (.string x2460) 4 (.string x2460) ?_; clear ha a; intro a ha
    refine endl (thenN (hK2476 _ _ ?_)); clear hK2476
    refine wp_ret ?_
    obtain rfl := Option.some.inj h
    exact finv ha _ _ rfl (.tmp (v := .string x2460) KR .nil) (.string x2460) rfl ⟨rfl, HW.pick [] [] (by decide) (by decide) rfl KR⟩
end Go.Proofs.YtokdiacjcbolfaaDoor.F
namespace Go.Proofs.YtokdiacjcbolfaaDoor.F
open Go Go.RowKit Go.Proofs.YtokdiacjcbolfaaDoor.X
def gPutBig : LibF := fun args H => match args with
 | [.int .u64 a, .int .i64 n] => match q0u.f 200 a n with
  | some r => some (.string r, H)
  | none => none
 | _ => none
theorem gPutBig_ok {ng : Nat} {args : List Value} {H H' : Heap} {v : Value} (h : gPutBig args H = some (v, H')) : q1o Tryd.prog ng 47 args H v H' := by
 unfold gPutBig at h
 split at h
 ·rename_i a n
  split at h
  ·rename_i r hr
   cases h
   refine q2u (by kernel_rfl) rfl rfl fun W => ?_
   refine (q0u.calls 200 a n r W hr).mono ?_
   rintro e W' ⟨rfl, hw⟩
   exact ⟨rfl, hw.below⟩
  ·cases h
 ·cases h
def gBig : LibF := fun args H => match args with
 | [.string s, .int .i64 a, .int .i64 n] => match q15.f 200 s a n with
  | some r => some (.tuple #[.int .u64 r.1, .bool r.2], H)
  | none => none
 | _ => none
theorem gBig_ok {ng : Nat} {args : List Value} {H H' : Heap} {v : Value} (h : gBig args H = some (v, H')) : q1o Tryd.prog ng 49 args H v H' := by
 unfold gBig at h
 split at h
 ·rename_i s a n
  split at h
  ·rename_i r hr
   cases h
   refine q2u (by kernel_rfl) rfl rfl fun W => ?_
   refine (q15.calls 200 s a n r W hr).mono ?_
   rintro e W' ⟨rfl, hw⟩
   exact ⟨rfl, hw.below⟩
  ·cases h
 ·cases h
def crcTab : List Value := encs (encIK .u32) q0h
def gPut : LibF := fun args H => match args with
 | [.int .u64 a, .string s] => match H.get 1 with
  | some (.ro c _) => match valsEq c crcTab with
   | false => none
   | true => match q2a.f 70000 a s with
    | some r => some (.tuple #[.string r.1, .int .i64 r.2], H)
    | none => none
  | _ => none
 | _ => none
theorem gPut_ok {args : List Value} {H H' : Heap} {v : Value} (h : gPut args H = some (v, H')) : q1o Tryd.prog 4 46 args H v H' := by
 unfold gPut at h
 split at h
 ·rename_i a s
  split at h
  ·rename_i c e hk
   split at h
   ·cases h
   ·rename_i hc
    obtain rfl := valsEq_eq hc
    split at h
    ·rename_i r hr
     cases h
     refine callOk_belowT (by kernel_rfl) rfl rfl hk (by omega) (by kernel_rfl) fun W hW => ?_
     refine (q2a.calls 70000 a s r W hW hr).mono ?_
     rintro e W' ⟨rfl, hw⟩
     exact ⟨rfl, hw.below⟩
    ·cases h
  ·cases h
 ·cases h
def gRight : LibF := fun args H => match args with
 | [.string s, .string d] => match H.get 1 with
  | some (.ro c _) => match valsEq c crcTab with
   | false => none
   | true => match q1t.f 70000 s d with
    | some r => some (.bool r, H)
    | none => none
  | _ => none
 | _ => none
theorem gRight_ok {args : List Value} {H H' : Heap} {v : Value} (h : gRight args H = some (v, H')) : q1o Tryd.prog 4 65 args H v H' := by
 unfold gRight at h
 split at h
 ·rename_i s d
  split at h
  ·rename_i c e hk
   split at h
   ·cases h
   ·rename_i hc
    obtain rfl := valsEq_eq hc
    split at h
    ·rename_i r hr
     cases h
     refine callOk_belowT (by kernel_rfl) rfl rfl hk (by omega) (by kernel_rfl) fun W hW => ?_
     refine (q1t.calls 70000 s d r W hW hr).mono ?_
     rintro e W' ⟨rfl, hw⟩
     exact ⟨rfl, hw.below⟩
    ·cases h
  ·cases h
 ·cases h
def gTrim (f : Nat → ByteArray → Int → Option ByteArray) : LibF := fun args H => match args with
 | [.string s, .int .u8 n] => match f 70000 s n with
  | some r => some (.string r, H)
  | none => none
 | _ => none
theorem gTrimL_ok {ng : Nat} {args : List Value} {H H' : Heap} {v : Value} (h : gTrim q0p.f args H = some (v, H')) : q1o Tryd.prog ng 73 args H v H' := by
 unfold gTrim at h
 split at h
 ·rename_i s n
  split at h
  ·rename_i r hr
   cases h
   refine q2u (by kernel_rfl) rfl rfl fun W => ?_
   refine (q0p.calls 70000 s n r W hr).mono ?_
   rintro e W' ⟨rfl, hw⟩
   exact ⟨rfl, hw.below⟩
  ·cases h
 ·cases h
def trimR (a : Int) (l : List UInt8) : List UInt8 := (l.reverse.dropWhile fun b => decide ((b.toNat : Int) = a)).reverse
theorem trimR_go (K : Nat) (a : Int) : ∀ (n : Nat) (l : List UInt8) (k : Nat), l.length = n → n < k → n < 1000000 → q0m.l0 K a k ⟨⟨l⟩⟩ = some ⟨⟨trimR a l⟩⟩ := by
 intro n
 induction n with
 | zero =>
  intro l k hl hk _
  obtain ⟨k, rfl⟩ : ∃ j, k = j + 1 := ⟨k - 1, by omega⟩
  obtain rfl := List.eq_nil_of_length_eq_zero hl
  rfl
 | succ n ih =>
  intro l k hl hk hn
  obtain ⟨k, rfl⟩ : ∃ j, k = j + 1 := ⟨k - 1, by omega⟩
  obtain ⟨r, b, rfl⟩ : ∃ r b, l = r ++ [b] := by
   rcases List.eq_nil_or_concat l with rfl | ⟨r, b, h⟩
   ·simp at hl
   ·exact ⟨r, b, by simpa using h⟩
  have hr : r.length = n := by simpa using hl
  have hs : (ByteArray.mk ⟨r ++ [b]⟩).size = n + 1 := by
   show (r ++ [b]).length = n + 1
   exact hl
  have hw : IntKind.wrap .i64 (((n + 1 : Nat) : Int) - 1) = (n : Int) := by
   simp [IntKind.wrap, IntKind.bits, IntKind.signed]; omega
  have hb : bt (ByteArray.mk ⟨r ++ [b]⟩) (n : Int) = (b.toNat : Int) := by
   unfold bt
   have : ((n : Int)).toNat = r.length := by omega
   rw [this]
   simp
  have hx : (ByteArray.mk ⟨r ++ [b]⟩).extract 0 ((n : Int)).toNat = ⟨⟨r⟩⟩ := by
   apply ba_eq
   rw [ByteArray.data_extract]
   simp [← hr]
  rw [q0m.l0, q0m.b0, hs, if_pos (by omega), hw, asrt, if_pos (by omega), asrt, if_pos (by omega), hb]
  by_cases e : (b.toNat : Int) = a
  ·rw [if_pos e, asrt, if_pos (by omega), hx, ih r k hr (by omega) (by omega)]
   simp [trimR, e]
  ·rw [if_neg e]
   simp [trimR, e]
def gTrimR : LibF := fun args H => match args with
 | [.string s, .int .u8 n] => match Nat.ble s.data.toList.length 60000 with
  | true => some (.string ⟨⟨trimR n s.data.toList⟩⟩, H)
  | false => none
 | _ => none
theorem gTrimR_ok {ng : Nat} {args : List Value} {H H' : Heap} {v : Value} (h : gTrimR args H = some (v, H')) : q1o Tryd.prog ng 74 args H v H' := by
 unfold gTrimR at h
 split at h
 ·rename_i s n
  split at h
  ·rename_i hb
   have hb := Nat.le_of_ble_eq_true hb
   cases h
   refine q2u (by kernel_rfl) rfl rfl fun W => ?_
   refine (q0m.calls 70000 s n _ W (trimR_go 70000 n s.data.toList.length s.data.toList 70000 rfl (by omega) (by omega))).mono ?_
   rintro e W' ⟨rfl, hw⟩
   exact ⟨rfl, hw.below⟩
  ·cases h
 ·cases h
noncomputable def lib0 : List (Nat × LibF) := [(25, gRepeat), (47, gPutBig), (49, gBig), (46, gPut), (65, gRight), (73, gTrim q0p.f), (74, gTrimR), (68, gSame), (67, gAdd .i64), (59, gLoad .i64), (50, gStore)]
theorem lib0_all : ∀ p ∈ lib0, ∀ args H v H', p.2 args H = some (v, H') → q1o Tryd.prog 4 p.1 args H v H' := by
 intro p hp args H v H' h
 simp only [lib0, List.mem_cons, List.not_mem_nil, or_false] at hp
 rcases hp with rfl | rfl | rfl | rfl | rfl | rfl | rfl | rfl | rfl | rfl | rfl
 ·exact gRepeat_ok (by kernel_rfl) (fun s c w h1 h2 => Tryd.strings_Repeat s c w h1 h2) h
 ·exact gPutBig_ok h
 ·exact gBig_ok h
 ·exact gPut_ok h
 ·exact gRight_ok h
 ·exact gTrimL_ok h
 ·exact gTrimR_ok h
 ·exact gSame_ok Tryd.func68 (by kernel_rfl) (by kernel_rfl) (by kernel_rfl) (by kernel_rfl) h
 ·exact gAdd_ok .i64 Tryd.func67 (by kernel_rfl) (by kernel_rfl) (by kernel_rfl) (by kernel_rfl) h
 ·exact gLoad_ok .i64 Tryd.func59 (by kernel_rfl) (by kernel_rfl) (by kernel_rfl) (by kernel_rfl) h
 ·exact gStore_ok Tryd.func50 (by kernel_rfl) (by kernel_rfl) (by kernel_rfl) (by kernel_rfl) h
theorem lib0_ok : LibOk Tryd.prog 4 (libOf lib0) := libOf_ok lib0_all
theorem noNum : noNumB Tryd.prog = true := by kernel_rfl
theorem mixed : Tryd.prog.follows .mixedOrders = true := by kernel_rfl
noncomputable def gGet : LibF := runTF Tryd.prog 4 (libOf lib0) 100000 34
theorem gGet_ok {args : List Value} {H H' : Heap} {v : Value} (h : gGet args H = some (v, H')) : q1o Tryd.prog 4 34 args H v H' :=
 runTF_ok (noNum_of noNum) mixed lib0_ok 100000 34 args H v H' h
noncomputable def lib1 : List (Nat × LibF) := (34, gGet) :: lib0
theorem lib1_ok : LibOk Tryd.prog 4 (libOf lib1) := by
 refine libOf_ok ?_
 rintro ⟨g, x⟩ hp args H v H' h
 rw [lib1, List.mem_cons, Prod.mk.injEq] at hp
 rcases hp with ⟨rfl, rfl⟩ | hp
 ·dsimp only at h
  exact gGet_ok (args := args) (H := H) (H' := H') (v := v) h
 ·exact lib0_all _ hp args H v H' h
end Go.Proofs.YtokdiacjcbolfaaDoor.F
namespace Go.Proofs.YtokdiacjcbolfaaDoor.F
open Go Go.RowKit Go.Proofs.YtokdiacjcbolfaaDoor.X
set_option linter.unusedVariables false
set_option linter.unusedSimpArgs false
set_option maxRecDepth 1000000 in
theorem wakes_run : told (runF Tryd.prog 4 (libOf lib1) 100000 7 [] (heapL 4 [(1, 127, crcTab)])) true = true := by kernel_rfl
theorem wakes_calls (w : World) (h1 : CA w 1 0 (encs (encIK .u32) q0h).toArray) : Calls Tryd.prog 7 #[] w fun e W' => e = .returned (.bool true) ∧ Below w.heap.size w W' :=
 calls_of_runL (fun _ => 16) noNum mixed lib1_ok (by kernel_rfl) rfl (by kernel_rfl) wakes_run w (by
  intro p hp m u hu
  simp only [List.mem_cons, List.not_mem_nil, or_false] at hp
  subst hp
  have h1' : CA w 1 0 crcTab.toArray := h1
  have := h1' m u (by simpa using hu)
  rwa [Nat.zero_add] at this)
end Go.Proofs.YtokdiacjcbolfaaDoor.F
namespace Go.Proofs.YtokdiacjcbolfaaDoor.F
open Go Go.RowKit Go.Proofs.YtokdiacjcbolfaaDoor.X
set_option linter.unusedVariables false
set_option linter.unusedSimpArgs false
def q0y.f : Option Bool := some true
theorem q0y.calls (r : Bool) (w : World) (hG1 : CA w 1 0 (encs (encIK .u32) q0h).toArray) (h : q0y.f = some r) :
  Calls Tryd.prog 7 #[] w (fun e W' => e = .returned (.bool r) ∧ Wd w W' [] []) := by
 obtain rfl := Option.some.inj h
 exact (wakes_calls w hG1).mono fun e W' ⟨he, hb⟩ => ⟨he, (Wd.refl w).call hb⟩
end Go.Proofs.YtokdiacjcbolfaaDoor.F
namespace Go.Proofs.YtokdiacjcbolfaaDoor.F
open Go Go.RowKit Go.Proofs.YtokdiacjcbolfaaDoor.X
set_option linter.unusedVariables false
set_option linter.unusedSimpArgs false
def q10.f (K : Nat) (a0 : q00) (a0_0 : q04) : Option (Int × q00 × q04) :=
 if a0.f9 = true then (some (41, (⟨(), a0.f1, a0.f2, a0.f3, (⟨(), (), a0.f4.f2⟩ : q03), a0.f5, a0.f6, a0.f7, a0.f8, a0.f9⟩ : q00), a0_0)) else ((q0j.f K (⟨(), a0.f1, a0.f2, a0.f3, (⟨(), (), a0.f4.f2⟩ : q03), a0.f5, a0.f6, a0.f7, a0.f8, a0.f9⟩ : q00) a0_0).bind fun t1652 => (some (t1652.1, t1652.2.1, t1652.2.2)))
set_option maxRecDepth 100000 in
set_option maxHeartbeats 4000000 in
theorem q10.calls (K : Nat) (a0 : q00) (a0_0 : q04) (p0 : Nat) (U0 : Blks) (p0_0 : Nat) (U0_0 : Blks)  (r : Int × q00 × q04) (w w1 : World) (F bs : Blks) (os : List OwnA) (hU0 : q00.At p0 p0_0 a0 U0) (hU0_0 : q04.At p0_0  a0_0 U0_0) (HW : Wd w w1 (U0 ++ (U0_0 ++ (F ++ bs))) os) (h : q10.f K a0 a0_0 = some r) :
  Calls Tryd.prog 11 #[.pointer (some ⟨p0, 0, none⟩)] w1 (fun e W' => ∃ U0' : Blks, ∃ U0_0' : Blks, e = .returned (.int .i64 r.1) ∧ q00.At p0 p0_0 r.2.1 U0' ∧ q04.At p0_0  r.2.2 U0_0' ∧ Wd w W' (U0' ++ (U0_0' ++ (F ++ bs))) (os)) := by
 refine q17 (n := 11) (l := [(0, (ptr p0))]) Tryd.func11 rfl rfl (Nat.le_of_ble_eq_true KR) (q07 rfl (q0q _)) ?_
 intro a ha
 replace HW : Wd w w1 (U0 ++ (U0_0 ++ (F ++ bs))) (os) := HW
 unfold q10.f at h
 refine wp_seq_k (fun K1630 hK1631 => ?_)
 refine wp_region_lit ?_
 refine sp1 ha 2 (.int .i64 0) ?_; clear ha a; intro a ha
 refine endl (thenN (hK1631 _ _ (wp_seq_k fun K1632 hK1633 => wp_seq_k fun K1634 hK1635 => wp_region_lit ?_))); clear hK1631
 refine sp2 ha 3 ((ptr p0)) 4 (.bool false) ?_; clear ha a; intro a ha
 refine endl (thenN (hK1635 _ _ ?_)); clear hK1635
 refine condF ha KR KR (t := false) (rfl) ?_
 refine wp_skip ?_
 refine thenN (hK1633 _ _ (wp_seq_k fun K1636 hK1637 => wp_seq_k fun K1638 hK1639 => wp_region_lit ?_)); clear hK1633
 refine sp3 ha 5 ((ptr p0)) 6 ((ptr p0)) 7 (.pointer (some ⟨p0, 9, none⟩)) ?_; clear ha a; intro a ha
 obtain ⟨A1640, c1641, HW⟩ := q00.unfold hU0 (HW)
 replace HW : Wd w w1 ((p0, .cells (ar1 p0_0 a0.f1 a0.f2 a0.f3 a0.f4.f2 a0.f5 A1640 a0.f6.length c1641 a0.f7 a0.f8 a0.f9) 57 (0, 0)) :: U0_0 ++ (F ++ bs)) ((rw0 A1640 a0.f6 c1641) :: os) := HW; clear hU0
 refine stepl ha 8 (HW.ca (i := 0) (b := p0) (C := (ar1 p0_0 a0.f1 a0.f2 a0.f3 a0.f4.f2 a0.f5 A1640 a0.f6.length c1641 a0.f7 a0.f8 a0.f9)) (T := 57) (fr := (0, 0)) KR) 4 9 (.tmp 7) (.bool a0.f9) rfl KR KR KR ?_; clear ha a; intro a ha
 refine endl (thenN (hK1639 _ _ ?_)); clear hK1639
 by_cases hp1643 : a0.f9 = true
 ·
  replace h := q0b h hp1643
  refine condT ha KR KR (t := a0.f9) (hp1643) ?_
  refine wp_seq_k (fun K1644 hK1645 => ?_)
  refine wp_region_lit ?_
  refine sp1 ha 2 (.int .i64 41) ?_; clear ha a; intro a ha
  refine endl (thenN (hK1645 _ _ ?_)); clear hK1645
  refine wp_ret ?_
  refine thenR ?_
  obtain ⟨U1646, hU1647, HW⟩ := q00.fold (x := (⟨(), a0.f1, a0.f2, a0.f3, (⟨(), (), a0.f4.f2⟩ : q03), a0.f5, a0.f6, a0.f7, a0.f8, a0.f9⟩ : q00)) (HW)
  replace HW := HW
  replace HW : Wd w w1 (U1646 ++ (U0_0 ++ (F ++ bs))) (os) := HW
  obtain rfl := Option.some.inj h
  exact finv ha _ _ rfl (.tmp (v := .int .i64 41) KR .nil) (.int .i64 41) rfl ⟨U1646, U0_0, rfl, hU1647, hU0_0, (HW)⟩
 ·
  replace h := q0c h hp1643
  refine condF ha KR KR (t := a0.f9) (q2w hp1643) ?_
  refine wp_skip ?_
  refine thenN (hK1637 _ _ (wp_seq_k fun K1648 hK1649 => wp_region_lit ?_)); clear hK1637
  refine sp1 ha 9 ((ptr p0)) ?_; clear ha a; intro a ha
  obtain ⟨U1650, hU1651, HW⟩ := q00.fold (x := (⟨(), a0.f1, a0.f2, a0.f3, (⟨(), (), a0.f4.f2⟩ : q03), a0.f5, a0.f6, a0.f7, a0.f8, a0.f9⟩ : q00)) (HW)
  replace HW := HW
  replace HW : Wd w w1 (U1650 ++ (U0_0 ++ (F ++ bs))) (os) := HW
  obtain ⟨t1652, ht1653, h_⟩ := q08 h; replace h := h_; clear h_
  refine stepc ha 10 KR KR (q0j.calls K (⟨(), a0.f1, a0.f2, a0.f3, (⟨(), (), a0.f4.f2⟩ : q03), a0.f5, a0.f6, a0.f7, a0.f8, a0.f9⟩ : q00) a0_0 p0 U1650 p0_0 U0_0 t1652 _ _ F bs (os) hU1651 hU0_0 (HW) ht1653) ?_; clear ha a; rintro e W1656 ⟨U1654, U1655, rfl, hU1651n, hU0_0n, HX1657⟩
  refine ⟨_, rfl, ?_⟩; intro a ha; clear HW
  clear hU1651; have hU1651 := hU1651n; clear hU1651n
  clear hU0_0; have hU0_0 := hU0_0n; clear hU0_0n
  have HW : Wd w W1656 (U1654 ++ (U1655 ++ (F ++ bs))) (os) := HX1657; clear HX1657
  refine sp1 ha 2 (.int .i64 t1652.1) ?_; clear ha a; intro a ha
  refine endl (thenN (hK1649 _ _ ?_)); clear hK1649
  refine wp_ret ?_
  obtain rfl := Option.some.inj h
  exact finv ha _ _ rfl (.tmp (v := .int .i64 t1652.1) KR .nil) (.int .i64 t1652.1) rfl ⟨U1654, U1655, rfl, hU1651, hU0_0, (HW)⟩
def q09.j0 (K : Nat) (a0 : q04) (again2036 : Int → (List ByteArray) → Option q04) (x2037 : Int) (x2038 : List ByteArray) (x2071 : Int) : Option q04 :=
 asrt (0 ≤ x2071) (asrt (x2071 ≤ (((rdL q01.z a0.f2 x2037).f1).size : Int)) ((q1c.f (⟨a0.f0, x2038, a0.f2, (⟨(), (), a0.f3.f2⟩ : q03), a0.f4, a0.f5, a0.f6⟩ : q04) ((rdL q01.z a0.f2 x2037).f0)).bind fun t2075 => (asrt (x2071 ≤ (t2075.size : Int)) (asrt ((((rdL q01.z a0.f2 x2037).f1).extract 0 (x2071 : Int).toNat).size + (t2075.extract (x2071 : Int).toNat (t2075).size).size ≤ 9223372036854775807) (asrt (0 ≤ ((rdL q01.z a0.f2 x2037).f0)) (asrt (((rdL q01.z a0.f2 x2037).f0) < (x2038.length : Int)) (again2036 (IntKind.wrap .i64 (x2037 + 1)) (x2038.set ((rdL q01.z a0.f2 x2037).f0 : Int).toNat ((((rdL q01.z a0.f2 x2037).f1).extract 0 (x2071 : Int).toNat) ++ (t2075.extract (x2071 : Int).toNat (t2075).size))))))))))
def q09.b1 (K : Nat) (a0 : q04) (a1 : List Int) (again2036 : Int → (List ByteArray) → Option q04) (x2037 : Int) (x2038 : List ByteArray) : Option q04 :=
 if x2037 < (a0.f2.length : Int) then (asrt (0 ≤ x2037) (if x2037 < (a1.length : Int) then (q09.j0 K a0 again2036 x2037 x2038 (mn (mx (rdL (0 : Int) a1 x2037) 0) 512)) else (q09.j0 K a0 again2036 x2037 x2038 0))) else ((q0r.f K (⟨a0.f0, x2038, a0.f2, (⟨(), (), a0.f3.f2⟩ : q03), a0.f4, a0.f5, a0.f6⟩ : q04)).bind fun t2091 => (some (⟨t2091.f0, t2091.f1, t2091.f2, (⟨(), (), t2091.f3.f2⟩ : q03), false, t2091.f5, false⟩ : q04)))
def q09.l1 (K : Nat) (a0 : q04) (a1 : List Int) : Nat → Int → (List ByteArray) → Option q04
 | 0, _, _ => none
 | k_ + 1, x2037, x2038 => q09.b1 K a0 a1 (q09.l1 K a0 a1 k_) x2037 x2038
def q09.b0 (K : Nat) (a0 : q04) (a1 : List Int) (again1909 : Int → (List ByteArray) → Option q04) (x1910 : Int) (x1911 : List ByteArray) : Option q04 :=
 if x1910 < (a0.f2.length : Int) then (asrt (0 ≤ x1910) (asrt (0 ≤ ((rdL q01.z a0.f2 x1910).f0)) (asrt (((rdL q01.z a0.f2 x1910).f0) < (x1911.length : Int)) (again1909 (IntKind.wrap .i64 (x1910 + 1)) (x1911.set ((rdL q01.z a0.f2 x1910).f0 : Int).toNat (⟨#[]⟩ : ByteArray)))))) else (q09.l1 K a0 a1 K 0 x1911)
def q09.l0 (K : Nat) (a0 : q04) (a1 : List Int) : Nat → Int → (List ByteArray) → Option q04
 | 0, _, _ => none
 | k_ + 1, x1910, x1911 => q09.b0 K a0 a1 (q09.l0 K a0 a1 k_) x1910 x1911
def q09.f (K : Nat) (a0 : q04) (a1 : List Int) : Option q04 :=
 q09.l0 K a0 a1 K 0 a0.f1
set_option maxRecDepth 100000 in
set_option maxHeartbeats 4000000 in
theorem q09.calls (K : Nat) (a0 : q04) (a1 : List Int) (p0 : Nat) (U0 : Blks) (A1_0 : Option Addr) (c1_0 : Nat) (r : q04) (w w1 : World) (F bs : Blks) (os : List OwnA) (hU0 : q04.At p0  a0 U0) (hr1_0 : RdF w F 1 (.slice A1_0 a1.length c1_0) a1.length (encs (encIK .i64) a1)) (HW : Wd w w1 (U0 ++ (F ++ bs)) os) (h : q09.f K a0 a1 = some r) :
  Calls Tryd.prog 13 #[.pointer (some ⟨p0, 0, none⟩), .slice A1_0 a1.length c1_0] w1 (fun e W' => ∃ U0' : Blks, e = .returned (.tuple #[]) ∧ q04.At p0  r U0' ∧ Wd w W' (U0' ++ (F ++ bs)) (os)) := by
 refine q17 (n := 75) (l := [(0, (ptr p0)), (1, .slice A1_0 a1.length c1_0)]) Tryd.func13 rfl rfl (Nat.le_of_ble_eq_true KR) (q07 rfl (q07 rfl (q0q _))) ?_
 intro a ha
 replace HW : Wd w w1 (U0 ++ (F ++ bs)) (os) := HW
 unfold q09.f at h
 refine wp_seq_k (fun K1841 hK1842 => ?_)
 refine wp_seq_k (fun K1843 hK1844 => ?_)
 refine wp_region_lit ?_
 refine sp2 ha 9 ((ptr p0)) 10 (.bool false) ?_; clear ha a; intro a ha
 refine endl (thenN (hK1844 _ _ ?_)); clear hK1844
 refine condF ha KR KR (t := false) (rfl) ?_
 refine wp_skip ?_
 refine thenN (hK1842 _ _ (wp_seq_k fun K1845 hK1846 => wp_seq_k fun K1847 hK1848 => wp_region_lit ?_)); clear hK1842
 refine sp3 ha 11 ((ptr p0)) 12 ((ptr p0)) 13 (.pointer (some ⟨p0, 2, none⟩)) ?_; clear ha a; intro a ha
 obtain ⟨A1849, c1850, A1852, c1853, A1855, c1856, HW⟩ := q04.unfold hU0 (HW)
 replace HW : Wd w w1 ((p0, .cells (ar0 A1849 a0.f0.length c1850 A1852 a0.f1.length c1853 A1855 a0.f2.length c1856 a0.f3.f2 a0.f4 a0.f5 a0.f6) 53 (0, 0)) :: F ++ bs) ((rw0 A1849 a0.f0 c1850) :: (rw0 A1852 a0.f1 c1853) :: (rw1 A1855 a0.f2 c1856) :: os) := HW; clear hU0
 refine stepl ha 14 (HW.ca (i := 0) (b := p0) (C := (ar0 A1849 a0.f0.length c1850 A1852 a0.f1.length c1853 A1855 a0.f2.length c1856 a0.f3.f2 a0.f4 a0.f5 a0.f6)) (T := 53) (fr := (0, 0)) KR) 46 2 (.tmp 13) (.slice A1855 a0.f2.length c1856) rfl KR KR KR ?_; clear ha a; intro a ha
 refine sp2 ha 15 (.int .i64 (a0.f2.length : Int)) 16 (.int .i64 0) ?_; clear ha a; intro a ha
 refine endl (thenN (hK1848 _ _ ?_)); clear hK1848
 refine wp_block ?_
 refine loopk (fun k => fun a W1915 => ∃ (x1910 : Int), ∃ (x1911 : List ByteArray), ∃ A1912, ∃ c1913, q09.l0 K a0 a1 k x1910 x1911 = some r ∧ Has 75 [(0, (ptr p0)), (1, .slice A1_0 a1.length c1_0), (14, .slice A1855 a0.f2.length c1856), (15, .int .i64 (a0.f2.length : Int)), (16, .int .i64 x1910)] a ∧ Wd w W1915 ((p0, .cells (ar0 A1849 a0.f0.length c1850 A1912 x1911.length c1913 A1855 a0.f2.length c1856 a0.f3.f2 a0.f4 a0.f5 a0.f6) 53 (0, 0)) :: F ++ bs) ((rw0 A1849 a0.f0 c1850) :: (rw0 A1912 x1911 c1913) :: (rw1 A1855 a0.f2 c1856) :: os)) K ?_ ?_
 ·
  exact ⟨0, a0.f1, A1852, c1853, h, ha.sub (q05 KR (q05 KR (q05 KR (q05 KR (q05 KR (q0t _)))))), (HW)⟩
 ·
  intro k a W1915 hI
  obtain ⟨x1910, x1911, A1912, c1913, h, ha, HW⟩ := hI
  cases k with
  | zero => exact (q1n (show none = some r from h)).elim
  | succ k1916 =>
   replace h : q09.b0 K a0 a1 (q09.l0 K a0 a1 k1916) x1910 x1911 = some r := h
   obtain ⟨again1909, hag1917⟩ : ∃ g_, g_ = q09.l0 K a0 a1 k1916 := ⟨_, rfl⟩
   rw [← hag1917] at h
   unfold q09.b0 at h
   refine wp_seq_k (fun K1918 hK1919 => ?_)
   refine wp_region_lit ?_
   refine sp1 ha 17 (.bool (decide (x1910 < (a0.f2.length : Int)))) ?_; clear ha a; intro a ha
   refine endl (thenN (hK1919 _ _ (wp_seq_k fun K1920 hK1921 => ?_))); clear hK1919
   by_cases hp1922 : x1910 < (a0.f2.length : Int)
   ·
    replace h := q0b h hp1922
    refine condT ha KR KR (t := decide (x1910 < (a0.f2.length : Int))) (decide_eq_true hp1922) ?_
    refine wp_skip ?_
    refine thenN (hK1921 _ _ (wp_seq_k fun K1923 hK1924 => ?_)); clear hK1921
    refine wp_block ?_
    refine wp_seq_k (fun K1925 hK1926 => ?_)
    refine wp_region_lit ?_
    obtain ⟨hA1927, h_⟩ := q0d h; replace h := h_; clear h_
    refine stepie q01.enc q01.z ha 18 (fun _ => rfl) (v := .slice A1855 a0.f2.length c1856) (xs := a0.f2) (HW.rdo (i := 2) (q := (rw1 A1855 a0.f2 c1856)) KR) 46 62 (.tmp 14) (.tmp 16) .i64 x1910 rfl KR KR KR KR hA1927 (show (x1910 : Int) < ((a0.f2).length : Int) from hp1922) KR ?_; clear ha a; intro b1928 off1929 a hC1930 ha
    refine stepl ha 19 hC1930 62 0 (.tmp 18) (.agg #[.int .i64 ((rdL q01.z a0.f2 x1910).f0), .string ((rdL q01.z a0.f2 x1910).f1)]) rfl KR KR KR ?_; clear ha a; intro a ha
    refine stepnew ha HW 5 #[.int .i64 0, .string (⟨#[]⟩ : ByteArray)] 62 KR KR ?_; clear ha HW a; intro b1931 a W1932 HW ha
    refine q26 ha HW 0 (b := b1931) (C := #[.int .i64 0, .string (⟨#[]⟩ : ByteArray)]) (T := 62) KR 62 0 (.tmp 5) (.tmp 19) (.agg #[.int .i64 ((rdL q01.z a0.f2 x1910).f0), .string ((rdL q01.z a0.f2 x1910).f1)]) #[.int .i64 ((rdL q01.z a0.f2 x1910).f0), .string ((rdL q01.z a0.f2 x1910).f1)] rfl KR KR KR KR KR KR KR ?_; clear ha HW a; intro a W1933 HW ha
    refine endl (thenN (hK1926 _ _ ?_)); clear hK1926
    refine q2z 6 KR KR ha HW [.fix ((ptr p0)), .fix ((ptr p0)), .fix (.pointer (some ⟨p0, 1, none⟩)), .fix (.slice A1912 x1911.length c1913), .fix ((ptr b1931)), .fix (.int .i64 ((rdL q01.z a0.f2 x1910).f0))] ?_ ?_
    ·
     refine ⟨?_, ?_, ?_, ?_, ?_, ?_, trivial⟩
     ·
      intro a wr hn hd HW hs; have ha := q0a hn hd
      have ha := ha.add (seeE hs 0 ((ptr p0)) KR KR)
      refine yStep ha 20 KR ?_; intro l_ ha HK
      refine stepp ha 20 ((ptr p0)) KR KR ?_; intro ax hax; exact HK _ _ _ hax rfl (Below.refl _ _)
     ·
      intro a wr hn hd HW hs; have ha := q0a hn hd
      have ha := ha.add (seeF hs 20 0 ((ptr p0)) KR KR)
      refine yStep ha 21 KR ?_; intro l_ ha HK
      refine stepp ha 21 ((ptr p0)) KR KR ?_; intro ax hax; exact HK _ _ _ hax rfl (Below.refl _ _)
     ·
      intro a wr hn hd HW hs; have ha := q0a hn hd
      have ha := ha.add (seeF hs 21 1 ((ptr p0)) KR KR)
      refine yStep ha 22 KR ?_; intro l_ ha HK
      refine stepp ha 22 (.pointer (some ⟨p0, 1, none⟩)) KR KR ?_; intro ax hax; exact HK _ _ _ hax rfl (Below.refl _ _)
     ·
      intro a wr hn hd HW hs; have ha := q0a hn hd
      have ha := ha.add (seeF hs 22 2 (.pointer (some ⟨p0, 1, none⟩)) KR KR)
      refine yStep ha 23 KR ?_; intro l_ ha HK
      refine stepl ha 23 (HW.ca (i := 1) (b := p0) (C := (ar0 A1849 a0.f0.length c1850 A1912 x1911.length c1913 A1855 a0.f2.length c1856 a0.f3.f2 a0.f4 a0.f5 a0.f6)) (T := 53) (fr := (0, 0)) KR) 22 1 (.tmp 22) (.slice A1912 x1911.length c1913) rfl KR KR KR ?_; intro ax hax; exact HK _ _ _ hax rfl (Below.refl _ _)
     ·
      intro a wr hn hd HW hs; have ha := q0a hn hd
      have ha := ha.add (seeE hs 5 ((ptr b1931)) KR KR)
      refine yStep ha 24 KR ?_; intro l_ ha HK
      refine stepp ha 24 ((ptr b1931)) KR KR ?_; intro ax hax; exact HK _ _ _ hax rfl (Below.refl _ _)
     ·
      intro a wr hn hd HW hs; have ha := q0a hn hd
      have ha := ha.add (seeF hs 24 4 ((ptr b1931)) KR KR)
      refine yStep ha 25 KR ?_; intro l_ ha HK
      refine stepl ha 25 (HW.ca (i := 0) (b := b1931) (C := #[.int .i64 ((rdL q01.z a0.f2 x1910).f0), .string ((rdL q01.z a0.f2 x1910).f1)]) (T := 62) (fr := (0, 0)) KR) 3 0 (.tmp 24) (.int .i64 ((rdL q01.z a0.f2 x1910).f0)) rfl KR KR KR ?_; intro ax hax; exact HK _ _ _ hax rfl (Below.refl _ _)
    ·
     intro a W1934 ha HW he hf
     replace ha := ha.add (he 0 ((ptr p0)) KR KR)
     replace ha := ha.add (he 1 (.slice A1_0 a1.length c1_0) KR KR)
     replace ha := ha.add (he 14 (.slice A1855 a0.f2.length c1856) KR KR)
     replace ha := ha.add (he 15 (.int .i64 (a0.f2.length : Int)) KR KR)
     replace ha := ha.add (he 16 (.int .i64 x1910) KR KR)
     replace ha := ha.add (gotF (m := 6) (j := 3) (d := 23) (v := .slice A1912 x1911.length c1913) hf KR KR KR)
     replace ha := ha.add (gotF (m := 6) (j := 5) (d := 25) (v := .int .i64 ((rdL q01.z a0.f2 x1910).f0)) hf KR KR KR)
     clear he hf
     obtain ⟨hA1935, h_⟩ := q0d h; replace h := h_; clear h_
     obtain ⟨hA1936, h_⟩ := q0d h; replace h := h_; clear h_
     refine stepio encS ha HW 26 1 (sz := 1) (e := 9) (v := .slice A1912 x1911.length c1913) (xs := x1911) KR 22 (.tmp 23) (.tmp 25) .i64 ((rdL q01.z a0.f2 x1910).f0) rfl KR KR KR KR hA1935 (show ((rdL q01.z a0.f2 x1910).f0 : Int) < ((x1911).length : Int) from hA1936) KR ?_; clear ha a; intro b1937 a hb1938 ha
     refine stepos encS (⟨#[]⟩ : ByteArray) ha HW 1 (sz := 1) (e := 9) (fun _ => rfl) (v := .slice A1912 x1911.length c1913) (xs := x1911) KR hb1938 ((rdL q01.z a0.f2 x1910).f0) hA1935 (show ((rdL q01.z a0.f2 x1910).f0 : Int) < ((x1911).length : Int) from hA1936) 9 0 (.tmp 26) (.const (.string (⟨#[]⟩ : ByteArray))) (.string (⟨#[]⟩ : ByteArray)) (⟨#[]⟩ : ByteArray) rfl KR KR KR KR KR KR KR (.slice A1912 (x1911.set ((rdL q01.z a0.f2 x1910).f0 : Int).toNat (⟨#[]⟩ : ByteArray)).length c1913) (by rw [List.length_set]) ?_; clear ha HW a; intro a W1939 HW ha
     replace ha := ha.turn 23 (v := .slice A1912 (x1911.set ((rdL q01.z a0.f2 x1910).f0 : Int).toNat (⟨#[]⟩ : ByteArray)).length c1913) KR (by rw [List.length_set])
     replace HW : Wd w W1939 ((b1931, .cells #[.int .i64 ((rdL q01.z a0.f2 x1910).f0), .string ((rdL q01.z a0.f2 x1910).f1)] 62 (0, 0)) :: (p0, .cells (ar0 A1849 a0.f0.length c1850 A1912 ((x1911.set ((rdL q01.z a0.f2 x1910).f0 : Int).toNat (⟨#[]⟩ : ByteArray)).length) c1913 A1855 a0.f2.length c1856 a0.f3.f2 a0.f4 a0.f5 a0.f6) 53 (0, 0)) :: F ++ bs) ((rw0 A1849 a0.f0 c1850) :: ⟨9, 1, .slice A1912 (x1911.set ((rdL q01.z a0.f2 x1910).f0 : Int).toNat (⟨#[]⟩ : ByteArray)).length c1913, (x1911.set ((rdL q01.z a0.f2 x1910).f0 : Int).toNat (⟨#[]⟩ : ByteArray)).length, encs encS (x1911.set ((rdL q01.z a0.f2 x1910).f0 : Int).toNat (⟨#[]⟩ : ByteArray))⟩ :: (rw1 A1855 a0.f2 c1856) :: os) := by simp only [List.length_set] at HW ⊢; exact HW
     refine endl ?_
     refine blkN ?_
     refine thenN (hK1924 _ _ (wp_region_lit ?_)); clear hK1924
     refine sp2 ha 27 (.int .i64 (IntKind.wrap .i64 (x1910 + 1))) 16 (.int .i64 (IntKind.wrap .i64 (x1910 + 1))) ?_; clear ha a; intro a ha
     refine endl ?_
     exact thenN ⟨k1916, Nat.lt_succ_self k1916, IntKind.wrap .i64 (x1910 + 1), x1911.set ((rdL q01.z a0.f2 x1910).f0 : Int).toNat (⟨#[]⟩ : ByteArray), A1912, c1913, (by rw [← hag1917]; exact h), ha.sub (q05 KR (q05 KR (q05 KR (q05 KR (q05 KR (q0t _)))))), (Wd.sg [[(b1931, .cells #[.int .i64 ((rdL q01.z a0.f2 x1910).f0), .string ((rdL q01.z a0.f2 x1910).f1)] 62 (0, 0))], [(p0, .cells (ar0 A1849 a0.f0.length c1850 A1912 ((x1911.set ((rdL q01.z a0.f2 x1910).f0 : Int).toNat (⟨#[]⟩ : ByteArray)).length) c1913 A1855 a0.f2.length c1856 a0.f3.f2 a0.f4 a0.f5 a0.f6) 53 (0, 0))], F] bs [(rw0 A1849 a0.f0 c1850), ⟨9, 1, .slice A1912 (x1911.set ((rdL q01.z a0.f2 x1910).f0 : Int).toNat (⟨#[]⟩ : ByteArray)).length c1913, (x1911.set ((rdL q01.z a0.f2 x1910).f0 : Int).toNat (⟨#[]⟩ : ByteArray)).length, encs encS (x1911.set ((rdL q01.z a0.f2 x1910).f0 : Int).toNat (⟨#[]⟩ : ByteArray))⟩, (rw1 A1855 a0.f2 c1856)] os [[(p0, .cells (ar0 A1849 a0.f0.length c1850 A1912 ((x1911.set ((rdL q01.z a0.f2 x1910).f0 : Int).toNat (⟨#[]⟩ : ByteArray)).length) c1913 A1855 a0.f2.length c1856 a0.f3.f2 a0.f4 a0.f5 a0.f6) 53 (0, 0))], F] [(rw0 A1849 a0.f0 c1850), ⟨9, 1, .slice A1912 (x1911.set ((rdL q01.z a0.f2 x1910).f0 : Int).toNat (⟨#[]⟩ : ByteArray)).length c1913, (x1911.set ((rdL q01.z a0.f2 x1910).f0 : Int).toNat (⟨#[]⟩ : ByteArray)).length, encs encS (x1911.set ((rdL q01.z a0.f2 x1910).f0 : Int).toNat (⟨#[]⟩ : ByteArray))⟩, (rw1 A1855 a0.f2 c1856)] HW [1, 2] [0] [0, 1, 2] KR KR (by decide) KR)⟩
   ·
    replace h := q0c h hp1922
    refine condF ha KR KR (t := decide (x1910 < (a0.f2.length : Int))) (decide_eq_false hp1922) ?_
    refine wp_exit ?_
    refine thenE ?_
    refine thenE ?_
    refine inBlk ?_
    refine thenN (hK1846 _ _ (wp_seq_k fun K1940 hK1941 => wp_seq_k fun K1942 hK1943 => wp_region_lit ?_)); clear hK1846
    refine sp3 ha 28 ((ptr p0)) 29 ((ptr p0)) 30 (.pointer (some ⟨p0, 2, none⟩)) ?_; clear ha a; intro a ha
    refine stepl ha 31 (HW.ca (i := 0) (b := p0) (C := (ar0 A1849 a0.f0.length c1850 A1912 x1911.length c1913 A1855 a0.f2.length c1856 a0.f3.f2 a0.f4 a0.f5 a0.f6)) (T := 53) (fr := (0, 0)) KR) 46 2 (.tmp 30) (.slice A1855 a0.f2.length c1856) rfl KR KR KR ?_; clear ha a; intro a ha
    refine sp2 ha 32 (.int .i64 (a0.f2.length : Int)) 33 (.int .i64 0) ?_; clear ha a; intro a ha
    refine endl (thenN (hK1943 _ _ ?_)); clear hK1943
    refine wp_block ?_
    refine loopk (fun k => fun a W2042 => ∃ (x2037 : Int), ∃ (x2038 : List ByteArray), ∃ A2039, ∃ c2040, q09.l1 K a0 a1 k x2037 x2038 = some r ∧ Has 75 [(0, (ptr p0)), (1, .slice A1_0 a1.length c1_0), (31, .slice A1855 a0.f2.length c1856), (32, .int .i64 (a0.f2.length : Int)), (33, .int .i64 x2037)] a ∧ Wd w W2042 ((p0, .cells (ar0 A1849 a0.f0.length c1850 A2039 x2038.length c2040 A1855 a0.f2.length c1856 a0.f3.f2 a0.f4 a0.f5 a0.f6) 53 (0, 0)) :: F ++ bs) ((rw0 A1849 a0.f0 c1850) :: (rw0 A2039 x2038 c2040) :: (rw1 A1855 a0.f2 c1856) :: os)) K ?_ ?_
    ·
     exact ⟨0, x1911, A1912, c1913, h, ha.sub (q05 KR (q05 KR (q05 KR (q05 KR (q05 KR (q0t _)))))), (HW)⟩
    ·
     intro k a W2042 hI
     obtain ⟨x2037, x2038, A2039, c2040, h, ha, HW⟩ := hI
     cases k with
     | zero => exact (q1n (show none = some r from h)).elim
     | succ k2043 =>
      replace h : q09.b1 K a0 a1 (q09.l1 K a0 a1 k2043) x2037 x2038 = some r := h
      obtain ⟨again2036, hag2044⟩ : ∃ g_, g_ = q09.l1 K a0 a1 k2043 := ⟨_, rfl⟩
      rw [← hag2044] at h
      unfold q09.b1 at h
      refine wp_seq_k (fun K2045 hK2046 => ?_)
      refine wp_region_lit ?_
      refine sp1 ha 34 (.bool (decide (x2037 < (a0.f2.length : Int)))) ?_; clear ha a; intro a ha
      refine endl (thenN (hK2046 _ _ (wp_seq_k fun K2047 hK2048 => ?_))); clear hK2046
      by_cases hp2049 : x2037 < (a0.f2.length : Int)
      ·
       replace h := q0b h hp2049
       refine condT ha KR KR (t := decide (x2037 < (a0.f2.length : Int))) (decide_eq_true hp2049) ?_
       refine wp_skip ?_
       refine thenN (hK2048 _ _ (wp_seq_k fun K2050 hK2051 => ?_)); clear hK2048
       refine wp_block ?_
       refine wp_seq_k (fun K2052 hK2053 => ?_)
       refine wp_region_lit ?_
       refine sp1 ha 35 (.int .i64 x2037) ?_; clear ha a; intro a ha
       obtain ⟨hA2054, h_⟩ := q0d h; replace h := h_; clear h_
       refine stepie q01.enc q01.z ha 36 (fun _ => rfl) (v := .slice A1855 a0.f2.length c1856) (xs := a0.f2) (HW.rdo (i := 2) (q := (rw1 A1855 a0.f2 c1856)) KR) 46 62 (.tmp 31) (.tmp 33) .i64 x2037 rfl KR KR KR KR hA2054 (show (x2037 : Int) < ((a0.f2).length : Int) from hp2049) KR ?_; clear ha a; intro b2055 off2056 a hC2057 ha
       refine stepl ha 37 hC2057 62 0 (.tmp 36) (.agg #[.int .i64 ((rdL q01.z a0.f2 x2037).f0), .string ((rdL q01.z a0.f2 x2037).f1)]) rfl KR KR KR ?_; clear ha a; intro a ha
       refine stepnew ha HW 7 #[.int .i64 0, .string (⟨#[]⟩ : ByteArray)] 62 KR KR ?_; clear ha HW a; intro b2058 a W2059 HW ha
       refine sp1 ha 6 (.int .i64 x2037) ?_; clear ha a; intro a ha
       refine q26 ha HW 0 (b := b2058) (C := #[.int .i64 0, .string (⟨#[]⟩ : ByteArray)]) (T := 62) KR 62 0 (.tmp 7) (.tmp 37) (.agg #[.int .i64 ((rdL q01.z a0.f2 x2037).f0), .string ((rdL q01.z a0.f2 x2037).f1)]) #[.int .i64 ((rdL q01.z a0.f2 x2037).f0), .string ((rdL q01.z a0.f2 x2037).f1)] rfl KR KR KR KR KR KR KR ?_; clear ha HW a; intro a W2060 HW ha
       refine endl (thenN (hK2053 _ _ (wp_seq_k fun K2061 hK2062 => wp_region_lit ?_))); clear hK2053
       refine sp1 ha 8 (.int .i64 0) ?_; clear ha a; intro a ha
       refine endl (thenN (hK2062 _ _ (wp_seq_k fun K2063 hK2064 => ?_))); clear hK2062
       refine cutn (fun a W2072 => ∃ (x2071 : Int), q09.j0 K a0 again2036 x2037 x2038 x2071 = some r ∧ Has 75 [(0, (ptr p0)), (1, .slice A1_0 a1.length c1_0), (7, (ptr b2058)), (8, .int .i64 x2071), (31, .slice A1855 a0.f2.length c1856), (32, .int .i64 (a0.f2.length : Int)), (33, .int .i64 x2037)] a ∧ Wd w W2072 ((p0, .cells (ar0 A1849 a0.f0.length c1850 A2039 x2038.length c2040 A1855 a0.f2.length c1856 a0.f3.f2 a0.f4 a0.f5 a0.f6) 53 (0, 0)) :: (b2058, .cells #[.int .i64 ((rdL q01.z a0.f2 x2037).f0), .string ((rdL q01.z a0.f2 x2037).f1)] 62 (0, 0)) :: F ++ bs) ((rw1 A1855 a0.f2 c1856) :: (rw0 A1849 a0.f0 c1850) :: (rw0 A2039 x2038 c2040) :: os)) ?_ ?_
       ·
        refine wp_seq_k (fun K2065 hK2066 => ?_)
        refine wp_region_lit ?_
        refine sp4 ha 38 (.int .i64 x2037) 39 (.slice A1_0 a1.length c1_0) 40 (.int .i64 (a1.length : Int)) 41 (.bool (decide (x2037 < (a1.length : Int)))) ?_; clear ha a; intro a ha
        refine endl (thenN (hK2066 _ _ ?_)); clear hK2066
        by_cases hp2067 : x2037 < (a1.length : Int)
        ·
         replace h := q0b h hp2067
         refine condT ha KR KR (t := decide (x2037 < (a1.length : Int))) (decide_eq_true hp2067) ?_
         refine wp_region_lit ?_
         refine sp2 ha 42 (.slice A1_0 a1.length c1_0) 43 (.int .i64 x2037) ?_; clear ha a; intro a ha
         refine stepie (encIK .i64) (0 : Int) ha 44 (fun _ => rfl) (v := .slice A1_0 a1.length c1_0) (xs := a1) ((hr1_0.rd HW (mem_flat (ss := [[(b2058, .cells #[.int .i64 ((rdL q01.z a0.f2 x2037).f0), .string ((rdL q01.z a0.f2 x2037).f1)] 62 (0, 0))], [(p0, .cells (ar0 A1849 a0.f0.length c1850 A2039 x2038.length c2040 A1855 a0.f2.length c1856 a0.f3.f2 a0.f4 a0.f5 a0.f6) 53 (0, 0))], F]) (bt := bs) 2 rfl))) 23 3 (.tmp 42) (.tmp 43) .i64 x2037 rfl KR KR KR KR hA2054 (show (x2037 : Int) < ((a1).length : Int) from hp2067) KR ?_; clear ha a; intro b2068 off2069 a hC2070 ha
         refine stepl ha 45 hC2070 3 0 (.tmp 44) (.int .i64 (rdL (0 : Int) a1 x2037)) rfl KR KR KR ?_; clear ha a; intro a ha
         refine stepmx ha 46 #[3, 3] (.tmp 45) (.const (.int .i64 0)) .i64 (rdL (0 : Int) a1 x2037) 0 rfl KR KR KR ?_; clear ha a; intro a ha
         refine stepmn ha 47 #[3, 3] (.tmp 46) (.const (.int .i64 512)) .i64 (mx (rdL (0 : Int) a1 x2037) 0) 512 rfl KR KR KR ?_; clear ha a; intro a ha
         refine sp1 ha 8 (.int .i64 (mn (mx (rdL (0 : Int) a1 x2037) 0) 512)) ?_; clear ha a; intro a ha
         refine endl ?_
         exact thenN ⟨mn (mx (rdL (0 : Int) a1 x2037) 0) 512, h, ha.sub (q05 KR (q05 KR (q05 KR (q05 KR (q05 KR (q05 KR (q05 KR (q0t _)))))))), (Wd.sg [[(b2058, .cells #[.int .i64 ((rdL q01.z a0.f2 x2037).f0), .string ((rdL q01.z a0.f2 x2037).f1)] 62 (0, 0))], [(p0, .cells (ar0 A1849 a0.f0.length c1850 A2039 x2038.length c2040 A1855 a0.f2.length c1856 a0.f3.f2 a0.f4 a0.f5 a0.f6) 53 (0, 0))], F] bs [(rw0 A1849 a0.f0 c1850), (rw0 A2039 x2038 c2040), (rw1 A1855 a0.f2 c1856)] os [[(p0, .cells (ar0 A1849 a0.f0.length c1850 A2039 x2038.length c2040 A1855 a0.f2.length c1856 a0.f3.f2 a0.f4 a0.f5 a0.f6) 53 (0, 0))], [(b2058, .cells #[.int .i64 ((rdL q01.z a0.f2 x2037).f0), .string ((rdL q01.z a0.f2 x2037).f1)] 62 (0, 0))], F] [(rw1 A1855 a0.f2 c1856), (rw0 A1849 a0.f0 c1850), (rw0 A2039 x2038 c2040)] HW [1, 0, 2] [] [2, 0, 1] KR KR (by decide) KR)⟩
        ·
         replace h := q0c h hp2067
         refine condF ha KR KR (t := decide (x2037 < (a1.length : Int))) (decide_eq_false hp2067) ?_
         refine wp_skip ?_
         exact thenN ⟨0, h, ha.sub (q05 KR (q05 KR (q05 KR (q05 KR (q05 KR (q05 KR (q05 KR (q0t _)))))))), (Wd.sg [[(b2058, .cells #[.int .i64 ((rdL q01.z a0.f2 x2037).f0), .string ((rdL q01.z a0.f2 x2037).f1)] 62 (0, 0))], [(p0, .cells (ar0 A1849 a0.f0.length c1850 A2039 x2038.length c2040 A1855 a0.f2.length c1856 a0.f3.f2 a0.f4 a0.f5 a0.f6) 53 (0, 0))], F] bs [(rw0 A1849 a0.f0 c1850), (rw0 A2039 x2038 c2040), (rw1 A1855 a0.f2 c1856)] os [[(p0, .cells (ar0 A1849 a0.f0.length c1850 A2039 x2038.length c2040 A1855 a0.f2.length c1856 a0.f3.f2 a0.f4 a0.f5 a0.f6) 53 (0, 0))], [(b2058, .cells #[.int .i64 ((rdL q01.z a0.f2 x2037).f0), .string ((rdL q01.z a0.f2 x2037).f1)] 62 (0, 0))], F] [(rw1 A1855 a0.f2 c1856), (rw0 A1849 a0.f0 c1850), (rw0 A2039 x2038 c2040)] HW [1, 0, 2] [] [2, 0, 1] KR KR (by decide) KR)⟩
       ·
        intro a W2072 hJ
        obtain ⟨x2071, h, ha, HW⟩ := hJ
        replace h : q09.j0 K a0 again2036 x2037 x2038 x2071 = some r := h
        unfold q09.j0 at h
        refine hK2064 _ _ ?_; clear hK2064
        obtain ⟨hA2073, h_⟩ := q0d h; replace h := h_; clear h_
        obtain ⟨hA2074, h_⟩ := q0d h; replace h := h_; clear h_
        obtain ⟨t2075, ht2076, h_⟩ := q08 h; replace h := h_; clear h_
        obtain ⟨hA2079, h_⟩ := q0d h; replace h := h_; clear h_
        obtain ⟨hA2080, h_⟩ := q0d h; replace h := h_; clear h_
        refine q2z 17 KR KR ha HW [.fix ((ptr p0)), .fix ((ptr p0)), .fix (.pointer (some ⟨p0, 1, none⟩)), .fix (.slice A2039 x2038.length c2040), .fix ((ptr b2058)), .fix (.int .i64 ((rdL q01.z a0.f2 x2037).f0)), .fix (.pointer (some ⟨b2058, 1, none⟩)), .fix (.string ((rdL q01.z a0.f2 x2037).f1)), .fix (.int .i64 x2071), .fix (.string (((rdL q01.z a0.f2 x2037).f1).extract 0 (x2071 : Int).toNat)), .fix ((ptr p0)), .fix ((ptr b2058)), .fix (.int .i64 ((rdL q01.z a0.f2 x2037).f0)), .fix (.string t2075), .fix (.int .i64 x2071), .fix (.string (t2075.extract (x2071 : Int).toNat (t2075).size)), .fix (.string ((((rdL q01.z a0.f2 x2037).f1).extract 0 (x2071 : Int).toNat) ++ (t2075.extract (x2071 : Int).toNat (t2075).size)))] ?_ ?_
        ·
         refine ⟨?_, ?_, ?_, ?_, ?_, ?_, ?_, ?_, ?_, ?_, ?_, ?_, ?_, ?_, ?_, ?_, ?_, trivial⟩
         ·
          intro a wr hn hd HW hs; have ha := q0a hn hd
          have ha := ha.add (seeE hs 0 ((ptr p0)) KR KR)
          refine yStep ha 48 KR ?_; intro l_ ha HK
          refine stepp ha 48 ((ptr p0)) KR KR ?_; intro ax hax; exact HK _ _ _ hax rfl (Below.refl _ _)
         ·
          intro a wr hn hd HW hs; have ha := q0a hn hd
          have ha := ha.add (seeF hs 48 0 ((ptr p0)) KR KR)
          refine yStep ha 49 KR ?_; intro l_ ha HK
          refine stepp ha 49 ((ptr p0)) KR KR ?_; intro ax hax; exact HK _ _ _ hax rfl (Below.refl _ _)
         ·
          intro a wr hn hd HW hs; have ha := q0a hn hd
          have ha := ha.add (seeF hs 49 1 ((ptr p0)) KR KR)
          refine yStep ha 50 KR ?_; intro l_ ha HK
          refine stepp ha 50 (.pointer (some ⟨p0, 1, none⟩)) KR KR ?_; intro ax hax; exact HK _ _ _ hax rfl (Below.refl _ _)
         ·
          intro a wr hn hd HW hs; have ha := q0a hn hd
          have ha := ha.add (seeF hs 50 2 (.pointer (some ⟨p0, 1, none⟩)) KR KR)
          refine yStep ha 51 KR ?_; intro l_ ha HK
          refine stepl ha 51 (HW.ca (i := 0) (b := p0) (C := (ar0 A1849 a0.f0.length c1850 A2039 x2038.length c2040 A1855 a0.f2.length c1856 a0.f3.f2 a0.f4 a0.f5 a0.f6)) (T := 53) (fr := (0, 0)) KR) 22 1 (.tmp 50) (.slice A2039 x2038.length c2040) rfl KR KR KR ?_; intro ax hax; exact HK _ _ _ hax rfl (Below.refl _ _)
         ·
          intro a wr hn hd HW hs; have ha := q0a hn hd
          have ha := ha.add (seeE hs 7 ((ptr b2058)) KR KR)
          refine yStep ha 52 KR ?_; intro l_ ha HK
          refine stepp ha 52 ((ptr b2058)) KR KR ?_; intro ax hax; exact HK _ _ _ hax rfl (Below.refl _ _)
         ·
          intro a wr hn hd HW hs; have ha := q0a hn hd
          have ha := ha.add (seeF hs 52 4 ((ptr b2058)) KR KR)
          refine yStep ha 53 KR ?_; intro l_ ha HK
          refine stepl ha 53 (HW.ca (i := 1) (b := b2058) (C := #[.int .i64 ((rdL q01.z a0.f2 x2037).f0), .string ((rdL q01.z a0.f2 x2037).f1)]) (T := 62) (fr := (0, 0)) KR) 3 0 (.tmp 52) (.int .i64 ((rdL q01.z a0.f2 x2037).f0)) rfl KR KR KR ?_; intro ax hax; exact HK _ _ _ hax rfl (Below.refl _ _)
         ·
          intro a wr hn hd HW hs; have ha := q0a hn hd
          have ha := ha.add (seeE hs 7 ((ptr b2058)) KR KR)
          refine yStep ha 54 KR ?_; intro l_ ha HK
          refine stepp ha 54 (.pointer (some ⟨b2058, 1, none⟩)) KR KR ?_; intro ax hax; exact HK _ _ _ hax rfl (Below.refl _ _)
         ·
          intro a wr hn hd HW hs; have ha := q0a hn hd
          have ha := ha.add (seeF hs 54 6 (.pointer (some ⟨b2058, 1, none⟩)) KR KR)
          refine yStep ha 55 KR ?_; intro l_ ha HK
          refine stepl ha 55 (HW.ca (i := 1) (b := b2058) (C := #[.int .i64 ((rdL q01.z a0.f2 x2037).f0), .string ((rdL q01.z a0.f2 x2037).f1)]) (T := 62) (fr := (0, 0)) KR) 9 1 (.tmp 54) (.string ((rdL q01.z a0.f2 x2037).f1)) rfl KR KR KR ?_; intro ax hax; exact HK _ _ _ hax rfl (Below.refl _ _)
         ·
          intro a wr hn hd HW hs; have ha := q0a hn hd
          have ha := ha.add (seeE hs 8 (.int .i64 x2071) KR KR)
          refine yStep ha 56 KR ?_; intro l_ ha HK
          refine stepp ha 56 (.int .i64 x2071) KR KR ?_; intro ax hax; exact HK _ _ _ hax rfl (Below.refl _ _)
         ·
          intro a wr hn hd HW hs; have ha := q0a hn hd
          have ha := ha.add (seeF hs 55 7 (.string ((rdL q01.z a0.f2 x2037).f1)) KR KR)
          have ha := ha.add (seeF hs 56 8 (.int .i64 x2071) KR KR)
          refine yStep ha 57 KR ?_; intro l_ ha HK
          refine stepssh ha 57 9 (.tmp 55) (.tmp 56) ((rdL q01.z a0.f2 x2037).f1) .i64 x2071 rfl KR KR KR hA2073 (show (x2071 : Int) ≤ (((rdL q01.z a0.f2 x2037).f1).size : Int) from hA2074) KR ?_; intro ax hax; exact HK _ _ _ hax rfl (Below.refl _ _)
         ·
          intro a wr hn hd HW hs; have ha := q0a hn hd
          have ha := ha.add (seeE hs 0 ((ptr p0)) KR KR)
          refine yStep ha 58 KR ?_; intro l_ ha HK
          refine stepp ha 58 ((ptr p0)) KR KR ?_; intro ax hax; exact HK _ _ _ hax rfl (Below.refl _ _)
         ·
          intro a wr hn hd HW hs; have ha := q0a hn hd
          have ha := ha.add (seeE hs 7 ((ptr b2058)) KR KR)
          refine yStep ha 59 KR ?_; intro l_ ha HK
          refine stepp ha 59 ((ptr b2058)) KR KR ?_; intro ax hax; exact HK _ _ _ hax rfl (Below.refl _ _)
         ·
          intro a wr hn hd HW hs; have ha := q0a hn hd
          have ha := ha.add (seeF hs 59 11 ((ptr b2058)) KR KR)
          refine yStep ha 60 KR ?_; intro l_ ha HK
          refine stepl ha 60 (HW.ca (i := 1) (b := b2058) (C := #[.int .i64 ((rdL q01.z a0.f2 x2037).f0), .string ((rdL q01.z a0.f2 x2037).f1)]) (T := 62) (fr := (0, 0)) KR) 3 0 (.tmp 59) (.int .i64 ((rdL q01.z a0.f2 x2037).f0)) rfl KR KR KR ?_; intro ax hax; exact HK _ _ _ hax rfl (Below.refl _ _)
         ·
          intro a wr hn hd HW hs; have ha := q0a hn hd
          have ha := ha.add (seeF hs 58 10 ((ptr p0)) KR KR)
          have ha := ha.add (seeF hs 60 12 (.int .i64 ((rdL q01.z a0.f2 x2037).f0)) KR KR)
          refine yStep ha 61 KR ?_; intro l_ ha HK
          refine stepc ha 61 KR KR (q1c.calls (⟨a0.f0, x2038, a0.f2, (⟨(), (), a0.f3.f2⟩ : q03), a0.f4, a0.f5, a0.f6⟩ : q04) ((rdL q01.z a0.f2 x2037).f0) A1849 c1850 A2039 c2040 A1855 c1856 p0 t2075 _ (HW.ca (i := 0) (b := p0) (C := (ar0 A1849 a0.f0.length c1850 A2039 x2038.length c2040 A1855 a0.f2.length c1856 a0.f3.f2 a0.f4 a0.f5 a0.f6)) (T := 53) (fr := (0, 0)) KR) (HW.rdo (i := 1) (q := (rw0 A1849 a0.f0 c1850)) KR) (HW.rdo (i := 2) (q := (rw0 A2039 x2038 c2040)) KR) (HW.rdo (i := 0) (q := (rw1 A1855 a0.f2 c1856)) KR) ht2076) ?_; rintro e W2077 ⟨rfl, HX2078⟩
          refine ⟨_, rfl, ?_⟩; intro ax hax; exact HK _ _ _ hax rfl HX2078.below
         ·
          intro a wr hn hd HW hs; have ha := q0a hn hd
          have ha := ha.add (seeE hs 8 (.int .i64 x2071) KR KR)
          refine yStep ha 62 KR ?_; intro l_ ha HK
          refine stepp ha 62 (.int .i64 x2071) KR KR ?_; intro ax hax; exact HK _ _ _ hax rfl (Below.refl _ _)
         ·
          intro a wr hn hd HW hs; have ha := q0a hn hd
          have ha := ha.add (seeF hs 61 13 (.string t2075) KR KR)
          have ha := ha.add (seeF hs 62 14 (.int .i64 x2071) KR KR)
          refine yStep ha 63 KR ?_; intro l_ ha HK
          refine stepssl ha 63 9 (.tmp 61) (.tmp 62) t2075 .i64 x2071 rfl KR KR KR hA2073 (show (x2071 : Int) ≤ ((t2075).size : Int) from hA2079) KR ?_; intro ax hax; exact HK _ _ _ hax rfl (Below.refl _ _)
         ·
          intro a wr hn hd HW hs; have ha := q0a hn hd
          have ha := ha.add (seeF hs 57 9 (.string (((rdL q01.z a0.f2 x2037).f1).extract 0 (x2071 : Int).toNat)) KR KR)
          have ha := ha.add (seeF hs 63 15 (.string (t2075.extract (x2071 : Int).toNat (t2075).size)) KR KR)
          refine yStep ha 64 KR ?_; intro l_ ha HK
          refine stepsa ha 64 9 9 (.tmp 57) (.tmp 63) (((rdL q01.z a0.f2 x2037).f1).extract 0 (x2071 : Int).toNat) (t2075.extract (x2071 : Int).toNat (t2075).size) rfl KR KR (show (((rdL q01.z a0.f2 x2037).f1).extract 0 (x2071 : Int).toNat).size + (t2075.extract (x2071 : Int).toNat (t2075).size).size ≤ 9223372036854775807 from hA2080) KR ?_; intro ax hax; exact HK _ _ _ hax rfl (Below.refl _ _)
        ·
         intro a W2081 ha HW he hf
         replace ha := ha.add (he 0 ((ptr p0)) KR KR)
         replace ha := ha.add (he 1 (.slice A1_0 a1.length c1_0) KR KR)
         replace ha := ha.add (he 31 (.slice A1855 a0.f2.length c1856) KR KR)
         replace ha := ha.add (he 32 (.int .i64 (a0.f2.length : Int)) KR KR)
         replace ha := ha.add (he 33 (.int .i64 x2037) KR KR)
         replace ha := ha.add (gotF (m := 17) (j := 3) (d := 51) (v := .slice A2039 x2038.length c2040) hf KR KR KR)
         replace ha := ha.add (gotF (m := 17) (j := 5) (d := 53) (v := .int .i64 ((rdL q01.z a0.f2 x2037).f0)) hf KR KR KR)
         replace ha := ha.add (gotF (m := 17) (j := 16) (d := 64) (v := .string ((((rdL q01.z a0.f2 x2037).f1).extract 0 (x2071 : Int).toNat) ++ (t2075.extract (x2071 : Int).toNat (t2075).size))) hf KR KR KR)
         clear he hf
         obtain ⟨hA2082, h_⟩ := q0d h; replace h := h_; clear h_
         obtain ⟨hA2083, h_⟩ := q0d h; replace h := h_; clear h_
         refine stepio encS ha HW 65 2 (sz := 1) (e := 9) (v := .slice A2039 x2038.length c2040) (xs := x2038) KR 22 (.tmp 51) (.tmp 53) .i64 ((rdL q01.z a0.f2 x2037).f0) rfl KR KR KR KR hA2082 (show ((rdL q01.z a0.f2 x2037).f0 : Int) < ((x2038).length : Int) from hA2083) KR ?_; clear ha a; intro b2084 a hb2085 ha
         refine stepos encS (⟨#[]⟩ : ByteArray) ha HW 2 (sz := 1) (e := 9) (fun _ => rfl) (v := .slice A2039 x2038.length c2040) (xs := x2038) KR hb2085 ((rdL q01.z a0.f2 x2037).f0) hA2082 (show ((rdL q01.z a0.f2 x2037).f0 : Int) < ((x2038).length : Int) from hA2083) 9 0 (.tmp 65) (.tmp 64) (.string ((((rdL q01.z a0.f2 x2037).f1).extract 0 (x2071 : Int).toNat) ++ (t2075.extract (x2071 : Int).toNat (t2075).size))) ((((rdL q01.z a0.f2 x2037).f1).extract 0 (x2071 : Int).toNat) ++ (t2075.extract (x2071 : Int).toNat (t2075).size)) rfl KR KR KR KR KR KR KR (.slice A2039 (x2038.set ((rdL q01.z a0.f2 x2037).f0 : Int).toNat ((((rdL q01.z a0.f2 x2037).f1).extract 0 (x2071 : Int).toNat) ++ (t2075.extract (x2071 : Int).toNat (t2075).size))).length c2040) (by rw [List.length_set]) ?_; clear ha HW a; intro a W2086 HW ha
         replace ha := ha.turn 51 (v := .slice A2039 (x2038.set ((rdL q01.z a0.f2 x2037).f0 : Int).toNat ((((rdL q01.z a0.f2 x2037).f1).extract 0 (x2071 : Int).toNat) ++ (t2075.extract (x2071 : Int).toNat (t2075).size))).length c2040) KR (by rw [List.length_set])
         replace HW : Wd w W2086 ((p0, .cells (ar0 A1849 a0.f0.length c1850 A2039 ((x2038.set ((rdL q01.z a0.f2 x2037).f0 : Int).toNat ((((rdL q01.z a0.f2 x2037).f1).extract 0 (x2071 : Int).toNat) ++ (t2075.extract (x2071 : Int).toNat (t2075).size))).length) c2040 A1855 a0.f2.length c1856 a0.f3.f2 a0.f4 a0.f5 a0.f6) 53 (0, 0)) :: (b2058, .cells #[.int .i64 ((rdL q01.z a0.f2 x2037).f0), .string ((rdL q01.z a0.f2 x2037).f1)] 62 (0, 0)) :: F ++ bs) ((rw1 A1855 a0.f2 c1856) :: (rw0 A1849 a0.f0 c1850) :: ⟨9, 1, .slice A2039 (x2038.set ((rdL q01.z a0.f2 x2037).f0 : Int).toNat ((((rdL q01.z a0.f2 x2037).f1).extract 0 (x2071 : Int).toNat) ++ (t2075.extract (x2071 : Int).toNat (t2075).size))).length c2040, (x2038.set ((rdL q01.z a0.f2 x2037).f0 : Int).toNat ((((rdL q01.z a0.f2 x2037).f1).extract 0 (x2071 : Int).toNat) ++ (t2075.extract (x2071 : Int).toNat (t2075).size))).length, encs encS (x2038.set ((rdL q01.z a0.f2 x2037).f0 : Int).toNat ((((rdL q01.z a0.f2 x2037).f1).extract 0 (x2071 : Int).toNat) ++ (t2075.extract (x2071 : Int).toNat (t2075).size)))⟩ :: os) := by simp only [List.length_set] at HW ⊢; exact HW
         refine endl ?_
         refine blkN ?_
         refine thenN (hK2051 _ _ (wp_region_lit ?_)); clear hK2051
         refine sp2 ha 66 (.int .i64 (IntKind.wrap .i64 (x2037 + 1))) 33 (.int .i64 (IntKind.wrap .i64 (x2037 + 1))) ?_; clear ha a; intro a ha
         refine endl ?_
         exact thenN ⟨k2043, Nat.lt_succ_self k2043, IntKind.wrap .i64 (x2037 + 1), x2038.set ((rdL q01.z a0.f2 x2037).f0 : Int).toNat ((((rdL q01.z a0.f2 x2037).f1).extract 0 (x2071 : Int).toNat) ++ (t2075.extract (x2071 : Int).toNat (t2075).size)), A2039, c2040, (by rw [← hag2044]; exact h), ha.sub (q05 KR (q05 KR (q05 KR (q05 KR (q05 KR (q0t _)))))), (Wd.sg [[(p0, .cells (ar0 A1849 a0.f0.length c1850 A2039 ((x2038.set ((rdL q01.z a0.f2 x2037).f0 : Int).toNat ((((rdL q01.z a0.f2 x2037).f1).extract 0 (x2071 : Int).toNat) ++ (t2075.extract (x2071 : Int).toNat (t2075).size))).length) c2040 A1855 a0.f2.length c1856 a0.f3.f2 a0.f4 a0.f5 a0.f6) 53 (0, 0))], [(b2058, .cells #[.int .i64 ((rdL q01.z a0.f2 x2037).f0), .string ((rdL q01.z a0.f2 x2037).f1)] 62 (0, 0))], F] bs [(rw1 A1855 a0.f2 c1856), (rw0 A1849 a0.f0 c1850), ⟨9, 1, .slice A2039 (x2038.set ((rdL q01.z a0.f2 x2037).f0 : Int).toNat ((((rdL q01.z a0.f2 x2037).f1).extract 0 (x2071 : Int).toNat) ++ (t2075.extract (x2071 : Int).toNat (t2075).size))).length c2040, (x2038.set ((rdL q01.z a0.f2 x2037).f0 : Int).toNat ((((rdL q01.z a0.f2 x2037).f1).extract 0 (x2071 : Int).toNat) ++ (t2075.extract (x2071 : Int).toNat (t2075).size))).length, encs encS (x2038.set ((rdL q01.z a0.f2 x2037).f0 : Int).toNat ((((rdL q01.z a0.f2 x2037).f1).extract 0 (x2071 : Int).toNat) ++ (t2075.extract (x2071 : Int).toNat (t2075).size)))⟩] os [[(p0, .cells (ar0 A1849 a0.f0.length c1850 A2039 ((x2038.set ((rdL q01.z a0.f2 x2037).f0 : Int).toNat ((((rdL q01.z a0.f2 x2037).f1).extract 0 (x2071 : Int).toNat) ++ (t2075.extract (x2071 : Int).toNat (t2075).size))).length) c2040 A1855 a0.f2.length c1856 a0.f3.f2 a0.f4 a0.f5 a0.f6) 53 (0, 0))], F] [(rw0 A1849 a0.f0 c1850), ⟨9, 1, .slice A2039 (x2038.set ((rdL q01.z a0.f2 x2037).f0 : Int).toNat ((((rdL q01.z a0.f2 x2037).f1).extract 0 (x2071 : Int).toNat) ++ (t2075.extract (x2071 : Int).toNat (t2075).size))).length c2040, (x2038.set ((rdL q01.z a0.f2 x2037).f0 : Int).toNat ((((rdL q01.z a0.f2 x2037).f1).extract 0 (x2071 : Int).toNat) ++ (t2075.extract (x2071 : Int).toNat (t2075).size))).length, encs encS (x2038.set ((rdL q01.z a0.f2 x2037).f0 : Int).toNat ((((rdL q01.z a0.f2 x2037).f1).extract 0 (x2071 : Int).toNat) ++ (t2075.extract (x2071 : Int).toNat (t2075).size)))⟩, (rw1 A1855 a0.f2 c1856)] HW [0, 2] [1] [1, 2, 0] KR KR (by decide) KR)⟩
      ·
       replace h := q0c h hp2049
       refine condF ha KR KR (t := decide (x2037 < (a0.f2.length : Int))) (decide_eq_false hp2049) ?_
       refine wp_exit ?_
       refine thenE ?_
       refine thenE ?_
       refine inBlk ?_
       refine thenN (hK1941 _ _ (wp_seq_k fun K2087 hK2088 => wp_region_lit ?_)); clear hK1941
       refine sp1 ha 67 ((ptr p0)) ?_; clear ha a; intro a ha
       obtain ⟨U2089, hU2090, HW⟩ := q04.fold (x := (⟨a0.f0, x2038, a0.f2, (⟨(), (), a0.f3.f2⟩ : q03), a0.f4, a0.f5, a0.f6⟩ : q04)) (HW)
       replace HW := HW
       replace HW : Wd w W2042 (U2089 ++ (F ++ bs)) (os) := HW
       obtain ⟨t2091, ht2092, h_⟩ := q08 h; replace h := h_; clear h_
       refine stepc ha 68 KR KR (q0r.calls K (⟨a0.f0, x2038, a0.f2, (⟨(), (), a0.f3.f2⟩ : q03), a0.f4, a0.f5, a0.f6⟩ : q04) p0 U2089 t2091 _ _ F bs (os) hU2090 (HW) ht2092) ?_; clear ha a; rintro e W2094 ⟨U2093, rfl, hU2090n, HX2095⟩
       refine ⟨_, rfl, ?_⟩; intro a ha; clear HW
       clear hU2090; have hU2090 := hU2090n; clear hU2090n
       have HW : Wd w W2094 (U2093 ++ (F ++ bs)) (os) := HX2095; clear HX2095
       refine endl (thenN (hK2088 _ _ (wp_region_lit ?_))); clear hK2088
       refine sp4 ha 69 ((ptr p0)) 70 ((ptr p0)) 71 ((ptr p0)) 72 (.pointer (some ⟨p0, 6, none⟩)) ?_; clear ha a; intro a ha
       obtain ⟨A2098, c2099, A2101, c2102, A2104, c2105, HW⟩ := q04.unfold hU2090 (HW)
       replace HW : Wd w W2094 ((p0, .cells (ar0 A2098 t2091.f0.length c2099 A2101 t2091.f1.length c2102 A2104 t2091.f2.length c2105 t2091.f3.f2 t2091.f4 t2091.f5 t2091.f6) 53 (0, 0)) :: F ++ bs) ((rw0 A2098 t2091.f0 c2099) :: (rw0 A2101 t2091.f1 c2102) :: (rw1 A2104 t2091.f2 c2105) :: os) := HW; clear hU2090
       refine q26 ha HW 0 (b := p0) (C := (ar0 A2098 t2091.f0.length c2099 A2101 t2091.f1.length c2102 A2104 t2091.f2.length c2105 t2091.f3.f2 t2091.f4 t2091.f5 t2091.f6)) (T := 53) KR 4 6 (.tmp 72) (.const (.bool false)) (.bool false) (ar0 A2098 t2091.f0.length c2099 A2101 t2091.f1.length c2102 A2104 t2091.f2.length c2105 t2091.f3.f2 t2091.f4 t2091.f5 false) rfl KR KR KR KR KR KR KR ?_; clear ha HW a; intro a W2107 HW ha
       refine sp2 ha 73 ((ptr p0)) 74 (.pointer (some ⟨p0, 4, none⟩)) ?_; clear ha a; intro a ha
       refine q26 ha HW 0 (b := p0) (C := (ar0 A2098 t2091.f0.length c2099 A2101 t2091.f1.length c2102 A2104 t2091.f2.length c2105 t2091.f3.f2 t2091.f4 t2091.f5 false)) (T := 53) KR 4 4 (.tmp 74) (.const (.bool false)) (.bool false) (ar0 A2098 t2091.f0.length c2099 A2101 t2091.f1.length c2102 A2104 t2091.f2.length c2105 t2091.f3.f2 false t2091.f5 false) rfl KR KR KR KR KR KR KR ?_; clear ha HW a; intro a W2108 HW ha
       refine endl ?_
       obtain ⟨U2109, hU2110, HW⟩ := q04.fold (x := (⟨t2091.f0, t2091.f1, t2091.f2, (⟨(), (), t2091.f3.f2⟩ : q03), false, t2091.f5, false⟩ : q04)) (HW)
       replace HW := HW
       replace HW : Wd w W2108 (U2109 ++ (F ++ bs)) (os) := HW
       obtain rfl := Option.some.inj h
       exact finn ha [] [] rfl .nil (.tuple #[]) rfl ⟨U2109, rfl, hU2110, (HW)⟩
def q13.f (a0 : q00) : Option ByteArray :=
 some a0.f5
set_option maxRecDepth 100000 in
set_option maxHeartbeats 4000000 in
theorem q13.calls (a0 : q00) (A0_0 : Option Addr) (c0_0 : Nat) (cb0 : Nat) (cb1 : Nat) (r : ByteArray) (w : World) (hc0 : CA w cb0 0 #[.pointer (some ⟨cb1, 0, none⟩), .int .i64 a0.f1, .int .i64 a0.f2, .int .i64 a0.f3, .int .i64 a0.f4.f2, .string a0.f5, .slice A0_0 a0.f6.length c0_0, .int .i64 a0.f7, .bool a0.f8, .bool a0.f9]) (hr0_0 : Rd 1 w (.slice A0_0 a0.f6.length c0_0) a0.f6.length (encs encS a0.f6)) (h : q13.f a0 = some r) :
  Calls Tryd.prog 15 #[.pointer (some ⟨cb0, 0, none⟩)] w (fun e W' => e = .returned (.string r) ∧ Wd w W' [] [] ) := by
 refine q17 (n := 9) (l := [(0, (ptr cb0))]) Tryd.func15 rfl rfl (Nat.le_of_ble_eq_true KR) (q07 rfl (q0q _)) ?_
 intro a ha
 have HW := Wd.refl w
 unfold q13.f at h
 refine wp_seq_k (fun K3602 hK3603 => ?_)
 refine wp_region_lit ?_
 refine sp1 ha 2 (.string (⟨#[]⟩ : ByteArray)) ?_; clear ha a; intro a ha
 refine endl (thenN (hK3603 _ _ (wp_seq_k fun K3604 hK3605 => wp_seq_k fun K3606 hK3607 => wp_region_lit ?_))); clear hK3603
 refine sp2 ha 3 ((ptr cb0)) 4 (.bool false) ?_; clear ha a; intro a ha
 refine endl (thenN (hK3607 _ _ ?_)); clear hK3607
 refine condF ha KR KR (t := false) (rfl) ?_
 refine wp_skip ?_
 refine thenN (hK3605 _ _ (wp_seq_k fun K3608 hK3609 => wp_region_lit ?_)); clear hK3605
 refine sp3 ha 5 ((ptr cb0)) 6 ((ptr cb0)) 7 (.pointer (some ⟨cb0, 5, none⟩)) ?_; clear ha a; intro a ha
 refine stepl ha 8 (HW.ca0 hc0) 9 5 (.tmp 7) (.string a0.f5) rfl KR KR KR ?_; clear ha a; intro a ha
 refine sp1 ha 2 (.string a0.f5) ?_; clear ha a; intro a ha
 refine endl (thenN (hK3609 _ _ ?_)); clear hK3609
 refine wp_ret ?_
 obtain rfl := Option.some.inj h
 exact finv ha _ _ rfl (.tmp (v := .string a0.f5) KR .nil) (.string a0.f5) rfl ⟨rfl, HW.pick [] [] (by decide) (by decide) rfl KR⟩
def q0e.b0 (K : Nat) (a0 : List ByteArray) (a1 : List ByteArray) (again3702 : Int → Option Bool) (x3703 : Int) : Option Bool :=
 if x3703 < (a0.length : Int) then (asrt (0 ≤ x3703) (asrt (x3703 < (a1.length : Int)) (if (rdL (⟨#[]⟩ : ByteArray) a0 x3703) = (rdL (⟨#[]⟩ : ByteArray) a1 x3703) then (again3702 (IntKind.wrap .i64 (x3703 + 1))) else (some false)))) else (some true)
def q0e.l0 (K : Nat) (a0 : List ByteArray) (a1 : List ByteArray) : Nat → Int → Option Bool
 | 0, _ => none
 | k_ + 1, x3703 => q0e.b0 K a0 a1 (q0e.l0 K a0 a1 k_) x3703
def q0e.f (K : Nat) (a0 : List ByteArray) (a1 : List ByteArray) : Option Bool :=
 if (a0.length : Int) = (a1.length : Int) then (q0e.l0 K a0 a1 K 0) else (some false)
set_option maxRecDepth 100000 in
set_option maxHeartbeats 4000000 in
theorem q0e.calls (K : Nat) (a0 : List ByteArray) (a1 : List ByteArray) (A0_0 : Option Addr) (c0_0 : Nat) (A1_1 : Option Addr) (c1_1 : Nat) (r : Bool) (w : World) (hr0_0 : Rd 1 w (.slice A0_0 a0.length c0_0) a0.length (encs encS a0)) (hr1_1 : Rd 1 w (.slice A1_1 a1.length c1_1) a1.length (encs encS a1)) (h : q0e.f K a0 a1 = some r) :
  Calls Tryd.prog 17 #[.slice A0_0 a0.length c0_0, .slice A1_1 a1.length c1_1] w (fun e W' => e = .returned (.bool r) ∧ Wd w W' [] [] ) := by
 refine q17 (n := 26) (l := [(0, .slice A0_0 a0.length c0_0), (1, .slice A1_1 a1.length c1_1)]) Tryd.func17 rfl rfl (Nat.le_of_ble_eq_true KR) (q07 rfl (q07 rfl (q0q _))) ?_
 intro a ha
 have HW := Wd.refl w
 unfold q0e.f at h
 refine wp_seq_k (fun K3640 hK3641 => ?_)
 refine wp_region_lit ?_
 refine sp1 ha 4 (.bool false) ?_; clear ha a; intro a ha
 refine endl (thenN (hK3641 _ _ (wp_seq_k fun K3642 hK3643 => wp_seq_k fun K3644 hK3645 => wp_region_lit ?_))); clear hK3641
 refine sp5 ha 6 (.slice A0_0 a0.length c0_0) 7 (.int .i64 (a0.length : Int)) 8 (.slice A1_1 a1.length c1_1) 9 (.int .i64 (a1.length : Int)) 10 (.bool ((a0.length : Int) != (a1.length : Int))) ?_; clear ha a; intro a ha
 refine endl (thenN (hK3645 _ _ ?_)); clear hK3645
 by_cases hp3646 : (a0.length : Int) = (a1.length : Int)
 ·
  replace h := q0b h hp3646
  refine condF ha KR KR (t := ((a0.length : Int) != (a1.length : Int))) (q2f hp3646) ?_
  refine wp_skip ?_
  refine thenN (hK3643 _ _ (wp_seq_k fun K3649 hK3650 => wp_seq_k fun K3651 hK3652 => wp_region_lit ?_)); clear hK3643
  refine sp1 ha 5 (.int .i64 0) ?_; clear ha a; intro a ha
  refine endl (thenN (hK3652 _ _ ?_)); clear hK3652
  refine wp_block ?_
  refine loopk (fun k => fun a W3704 => ∃ (x3703 : Int), q0e.l0 K a0 a1 k x3703 = some r ∧ Has 26 [(0, .slice A0_0 a0.length c0_0), (1, .slice A1_1 a1.length c1_1), (5, .int .i64 x3703)] a ∧ Wd w W3704 [] []) K ?_ ?_
  ·
   exact ⟨0, h, ha.sub (q05 KR (q05 KR (q05 KR (q0t _)))), HW.pick [] [] (by decide) (by decide) KR KR⟩
  ·
   intro k a W3704 hI
   obtain ⟨x3703, h, ha, HW⟩ := hI
   cases k with
   | zero => exact (q1n (show none = some r from h)).elim
   | succ k3705 =>
    replace h : q0e.b0 K a0 a1 (q0e.l0 K a0 a1 k3705) x3703 = some r := h
    obtain ⟨again3702, hag3706⟩ : ∃ g_, g_ = q0e.l0 K a0 a1 k3705 := ⟨_, rfl⟩
    rw [← hag3706] at h
    unfold q0e.b0 at h
    refine wp_seq_k (fun K3707 hK3708 => ?_)
    refine wp_seq_k (fun K3709 hK3710 => ?_)
    refine wp_region_lit ?_
    refine sp4 ha 11 (.int .i64 x3703) 12 (.slice A0_0 a0.length c0_0) 13 (.int .i64 (a0.length : Int)) 14 (.bool (decide (x3703 < (a0.length : Int)))) ?_; clear ha a; intro a ha
    refine endl (thenN (hK3710 _ _ ?_)); clear hK3710
    by_cases hp3711 : x3703 < (a0.length : Int)
    ·
     replace h := q0b h hp3711
     refine condT ha KR KR (t := decide (x3703 < (a0.length : Int))) (decide_eq_true hp3711) ?_
     refine wp_skip ?_
     refine thenN (hK3708 _ _ (wp_seq_k fun K3712 hK3713 => ?_)); clear hK3708
     refine wp_block ?_
     refine wp_seq_k (fun K3714 hK3715 => ?_)
     obtain ⟨hA3716, h_⟩ := q0d h; replace h := h_; clear h_
     obtain ⟨b3718, off3719, hA3720⟩ := Rd.addr ((HW.rd0 hr0_0)) hA3716 (show (x3703 : Int) < ((a0).length : Int) from hp3711)
     obtain ⟨hA3721, h_⟩ := q0d h; replace h := h_; clear h_
     obtain ⟨b3723, off3724, hA3725⟩ := Rd.addr ((HW.rd0 hr1_1)) hA3716 (show (x3703 : Int) < ((a1).length : Int) from hA3721)
     refine q2z 9 KR KR ha HW [.fix (.slice A0_0 a0.length c0_0), .fix (.int .i64 x3703), .fix (.pointer (some ⟨b3718, off3719 + (x3703 : Int).toNat * 1, none⟩)), .fix (.string (rdL (⟨#[]⟩ : ByteArray) a0 x3703)), .fix (.slice A1_1 a1.length c1_1), .fix (.int .i64 x3703), .fix (.pointer (some ⟨b3723, off3724 + (x3703 : Int).toNat * 1, none⟩)), .fix (.string (rdL (⟨#[]⟩ : ByteArray) a1 x3703)), .fix (.bool (!((rdL (⟨#[]⟩ : ByteArray) a0 x3703).toList == (rdL (⟨#[]⟩ : ByteArray) a1 x3703).toList)))] ?_ ?_
     ·
      refine ⟨?_, ?_, ?_, ?_, ?_, ?_, ?_, ?_, ?_, trivial⟩
      ·
       intro a wr hn hd HW hs; have ha := q0a hn hd
       have ha := ha.add (seeE hs 0 (.slice A0_0 a0.length c0_0) KR KR)
       refine yStep ha 17 KR ?_; intro l_ ha HK
       refine stepp ha 17 (.slice A0_0 a0.length c0_0) KR KR ?_; intro ax hax; exact HK _ _ _ hax rfl (Below.refl _ _)
      ·
       intro a wr hn hd HW hs; have ha := q0a hn hd
       have ha := ha.add (seeE hs 5 (.int .i64 x3703) KR KR)
       refine yStep ha 18 KR ?_; intro l_ ha HK
       refine stepp ha 18 (.int .i64 x3703) KR KR ?_; intro ax hax; exact HK _ _ _ hax rfl (Below.refl _ _)
      ·
       intro a wr hn hd HW hs; have ha := q0a hn hd
       have ha := ha.add (seeF hs 17 0 (.slice A0_0 a0.length c0_0) KR KR)
       have ha := ha.add (seeF hs 18 1 (.int .i64 x3703) KR KR)
       replace ha := ha.turn 17 (u := .slice A0_0 a0.length c0_0) (v := .slice (some ⟨b3718, off3719, none⟩) a0.length c0_0) KR (by rw [hA3720])
       refine yStep ha 19 KR ?_; intro l_ ha HK
       refine stepif ha 19 (sz := 1) (len := a0.length) (b := b3718) (off := off3719) (c := c0_0) 22 9 (.tmp 17) (.tmp 18) .i64 x3703 rfl KR KR KR KR hA3716 (show (x3703 : Int) < ((a0).length : Int) from hp3711) KR ?_; intro ax hax; exact HK _ _ _ hax rfl (Below.refl _ _)
      ·
       intro a wr hn hd HW hs; have ha := q0a hn hd
       have ha := ha.add (seeF hs 19 2 (.pointer (some ⟨b3718, off3719 + (x3703 : Int).toNat * 1, none⟩)) KR KR)
       refine yStep ha 20 KR ?_; intro l_ ha HK
       refine stepl ha 20 (Rd.ca encS (⟨#[]⟩ : ByteArray) (fun _ => rfl) (by have h_ := ((HW.rd0 hr0_0)); rw [hA3720] at h_; exact h_) hA3716 (show (x3703 : Int) < ((a0).length : Int) from hp3711)) 9 0 (.tmp 19) (.string (rdL (⟨#[]⟩ : ByteArray) a0 x3703)) rfl KR KR KR ?_; intro ax hax; exact HK _ _ _ hax rfl (Below.refl _ _)
      ·
       intro a wr hn hd HW hs; have ha := q0a hn hd
       have ha := ha.add (seeE hs 1 (.slice A1_1 a1.length c1_1) KR KR)
       refine yStep ha 21 KR ?_; intro l_ ha HK
       refine stepp ha 21 (.slice A1_1 a1.length c1_1) KR KR ?_; intro ax hax; exact HK _ _ _ hax rfl (Below.refl _ _)
      ·
       intro a wr hn hd HW hs; have ha := q0a hn hd
       have ha := ha.add (seeE hs 5 (.int .i64 x3703) KR KR)
       refine yStep ha 22 KR ?_; intro l_ ha HK
       refine stepp ha 22 (.int .i64 x3703) KR KR ?_; intro ax hax; exact HK _ _ _ hax rfl (Below.refl _ _)
      ·
       intro a wr hn hd HW hs; have ha := q0a hn hd
       have ha := ha.add (seeF hs 21 4 (.slice A1_1 a1.length c1_1) KR KR)
       have ha := ha.add (seeF hs 22 5 (.int .i64 x3703) KR KR)
       replace ha := ha.turn 21 (u := .slice A1_1 a1.length c1_1) (v := .slice (some ⟨b3723, off3724, none⟩) a1.length c1_1) KR (by rw [hA3725])
       refine yStep ha 23 KR ?_; intro l_ ha HK
       refine stepif ha 23 (sz := 1) (len := a1.length) (b := b3723) (off := off3724) (c := c1_1) 22 9 (.tmp 21) (.tmp 22) .i64 x3703 rfl KR KR KR KR hA3716 (show (x3703 : Int) < ((a1).length : Int) from hA3721) KR ?_; intro ax hax; exact HK _ _ _ hax rfl (Below.refl _ _)
      ·
       intro a wr hn hd HW hs; have ha := q0a hn hd
       have ha := ha.add (seeF hs 23 6 (.pointer (some ⟨b3723, off3724 + (x3703 : Int).toNat * 1, none⟩)) KR KR)
       refine yStep ha 24 KR ?_; intro l_ ha HK
       refine stepl ha 24 (Rd.ca encS (⟨#[]⟩ : ByteArray) (fun _ => rfl) (by have h_ := ((HW.rd0 hr1_1)); rw [hA3725] at h_; exact h_) hA3716 (show (x3703 : Int) < ((a1).length : Int) from hA3721)) 9 0 (.tmp 23) (.string (rdL (⟨#[]⟩ : ByteArray) a1 x3703)) rfl KR KR KR ?_; intro ax hax; exact HK _ _ _ hax rfl (Below.refl _ _)
      ·
       intro a wr hn hd HW hs; have ha := q0a hn hd
       have ha := ha.add (seeF hs 20 3 (.string (rdL (⟨#[]⟩ : ByteArray) a0 x3703)) KR KR)
       have ha := ha.add (seeF hs 24 7 (.string (rdL (⟨#[]⟩ : ByteArray) a1 x3703)) KR KR)
       refine yStep ha 25 KR ?_; intro l_ ha HK
       refine stepp ha 25 (.bool (!((rdL (⟨#[]⟩ : ByteArray) a0 x3703).toList == (rdL (⟨#[]⟩ : ByteArray) a1 x3703).toList))) KR KR ?_; intro ax hax; exact HK _ _ _ hax rfl (Below.refl _ _)
     ·
      intro a W3726 ha HW he hf
      replace ha := ha.add (he 0 (.slice A0_0 a0.length c0_0) KR KR)
      replace ha := ha.add (he 1 (.slice A1_1 a1.length c1_1) KR KR)
      replace ha := ha.add (he 5 (.int .i64 x3703) KR KR)
      replace ha := ha.add (gotF (m := 9) (j := 8) (d := 25) (v := .bool (!((rdL (⟨#[]⟩ : ByteArray) a0 x3703).toList == (rdL (⟨#[]⟩ : ByteArray) a1 x3703).toList))) hf KR KR KR)
      clear he hf
      refine endl (thenN (hK3715 _ _ ?_)); clear hK3715
      by_cases hp3727 : (rdL (⟨#[]⟩ : ByteArray) a0 x3703) = (rdL (⟨#[]⟩ : ByteArray) a1 x3703)
      ·
       replace h := q0b h hp3727
       refine condF ha KR KR (t := (!((rdL (⟨#[]⟩ : ByteArray) a0 x3703).toList == (rdL (⟨#[]⟩ : ByteArray) a1 x3703).toList))) (str_ne_f hp3727) ?_
       refine wp_skip ?_
       refine blkN ?_
       refine thenN (hK3713 _ _ (wp_region_lit ?_)); clear hK3713
       refine sp3 ha 15 (.int .i64 x3703) 16 (.int .i64 (IntKind.wrap .i64 (x3703 + 1))) 5 (.int .i64 (IntKind.wrap .i64 (x3703 + 1))) ?_; clear ha a; intro a ha
       refine endl ?_
       exact thenN ⟨k3705, Nat.lt_succ_self k3705, IntKind.wrap .i64 (x3703 + 1), (by rw [← hag3706]; exact h), ha.sub (q05 KR (q05 KR (q05 KR (q0t _)))), HW.pick [] [] (by decide) (by decide) KR KR⟩
      ·
       replace h := q0c h hp3727
       refine condT ha KR KR (t := (!((rdL (⟨#[]⟩ : ByteArray) a0 x3703).toList == (rdL (⟨#[]⟩ : ByteArray) a1 x3703).toList))) (str_ne_t hp3727) ?_
       refine wp_seq_k (fun K3728 hK3729 => ?_)
       refine wp_region_lit ?_
       refine sp1 ha 4 (.bool false) ?_; clear ha a; intro a ha
       refine endl (thenN (hK3729 _ _ ?_)); clear hK3729
       refine wp_ret ?_
       refine blkR ?_
       refine thenR ?_
       refine thenR ?_
       refine blkR ?_
       refine thenR ?_
       obtain rfl := Option.some.inj h
       exact finv ha _ _ rfl (.tmp (v := .bool false) KR .nil) (.bool false) rfl ⟨rfl, HW.pick [] [] (by decide) (by decide) rfl KR⟩
    ·
     replace h := q0c h hp3711
     refine condF ha KR KR (t := decide (x3703 < (a0.length : Int))) (decide_eq_false hp3711) ?_
     refine wp_exit ?_
     refine thenE ?_
     refine thenE ?_
     refine inBlk ?_
     refine thenN (hK3650 _ _ (wp_seq_k fun K3730 hK3731 => wp_region_lit ?_)); clear hK3650
     refine sp1 ha 4 (.bool true) ?_; clear ha a; intro a ha
     refine endl (thenN (hK3731 _ _ ?_)); clear hK3731
     refine wp_ret ?_
     obtain rfl := Option.some.inj h
     exact finv ha _ _ rfl (.tmp (v := .bool true) KR .nil) (.bool true) rfl ⟨rfl, HW.pick [] [] (by decide) (by decide) rfl KR⟩
 ·
  replace h := q0c h hp3646
  refine condT ha KR KR (t := ((a0.length : Int) != (a1.length : Int))) (q2e hp3646) ?_
  refine wp_seq_k (fun K3647 hK3648 => ?_)
  refine wp_region_lit ?_
  refine sp1 ha 4 (.bool false) ?_; clear ha a; intro a ha
  refine endl (thenN (hK3648 _ _ ?_)); clear hK3648
  refine wp_ret ?_
  refine thenR ?_
  obtain rfl := Option.some.inj h
  exact finv ha _ _ rfl (.tmp (v := .bool false) KR .nil) (.bool false) rfl ⟨rfl, HW.pick [] [] (by decide) (by decide) rfl KR⟩
end Go.Proofs.YtokdiacjcbolfaaDoor.F
