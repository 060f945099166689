/- headgate/cdb.Build: plain functions, and that the calls come to what they say. No condition. -/
import Derived.Test.YtpjcipadjegmlaaDoorFT
import Derived.Test.YtpjcipadjegmlaaDoorF16
import Derived.Test.YtpjcipadjegmlaaDoorF48
namespace Go.Proofs.YtpjcipadjegmlaaDoor.F
open Go Go.RowKit Go.Proofs.YtpjcipadjegmlaaDoor.X
set_option linter.unusedVariables false
set_option linter.unusedSimpArgs false
/-! ### headgate/cdb.Build: function 22 -/
def cdb_Build.b0 (K : Nat) (a0 : T_cdb_Ask) (x1738 : T_cdb_form) (again1925 : ByteArray → Int → Option (ByteArray × Int)) (x1926 : ByteArray) (x1927 : Int) : Option (ByteArray × Int) :=
  if x1927 < (([(⟨x1738.f2.f0, x1738.f2.f1⟩ : T_cdb_span), (⟨x1738.f3.f0, x1738.f3.f1⟩ : T_cdb_span), (⟨x1738.f4.f0, x1738.f4.f1⟩ : T_cdb_span)] : List T_cdb_span).length : Int) then (asrt (0 ≤ x1927) (asrt (x1927 < (([a0.f1, a0.f2, a0.f5] : List Int).length : Int)) (if ((rdL T_cdb_span.z ([(⟨x1738.f2.f0, x1738.f2.f1⟩ : T_cdb_span), (⟨x1738.f3.f0, x1738.f3.f1⟩ : T_cdb_span), (⟨x1738.f4.f0, x1738.f4.f1⟩ : T_cdb_span)] : List T_cdb_span) x1927).f1) > 0 then ((fields_PutBig.f K (IntKind.wrap .u64 (rdL (0 : Int) ([a0.f1, a0.f2, a0.f5] : List Int) x1927)) ((rdL T_cdb_span.z ([(⟨x1738.f2.f0, x1738.f2.f1⟩ : T_cdb_span), (⟨x1738.f3.f0, x1738.f3.f1⟩ : T_cdb_span), (⟨x1738.f4.f0, x1738.f4.f1⟩ : T_cdb_span)] : List T_cdb_span) x1927).f1)).bind fun t1959 => ((fields_Set.f x1926 ((rdL T_cdb_span.z ([(⟨x1738.f2.f0, x1738.f2.f1⟩ : T_cdb_span), (⟨x1738.f3.f0, x1738.f3.f1⟩ : T_cdb_span), (⟨x1738.f4.f0, x1738.f4.f1⟩ : T_cdb_span)] : List T_cdb_span) x1927).f0) t1959).bind fun t1963 => (again1925 t1963.1 (IntKind.wrap .i64 (x1927 + 1))))) else (again1925 x1926 (IntKind.wrap .i64 (x1927 + 1)))))) else ((cdb_Parse.f K x1926).bind fun t1972 => (if t1972.2 = 0 then (if (!(t1972.1.f0 == a0.f0 && (t1972.1.f1 == a0.f1 && (t1972.1.f2 == a0.f2 && (t1972.1.f3 == a0.f3 && (t1972.1.f4 == a0.f4 && (t1972.1.f5 == a0.f5 && (t1972.1.f6 == a0.f6 && true)))))))) = true then (some ((⟨#[]⟩ : ByteArray), 150)) else (some (x1926, 0))) else (some ((⟨#[]⟩ : ByteArray), 150))))
def cdb_Build.l0 (K : Nat) (a0 : T_cdb_Ask) (x1738 : T_cdb_form) : Nat → ByteArray → Int → Option (ByteArray × Int)
  | 0, _, _ => none
  | k_ + 1, x1926, x1927 => cdb_Build.b0 K a0 x1738 (cdb_Build.l0 K a0 x1738 k_) x1926 x1927
def cdb_Build.j3 (K : Nat) (a0 : T_cdb_Ask) (x1738 : T_cdb_form) (x1832 : List Int) : Option (ByteArray × Int) :=
  cdb_Build.l0 K a0 x1738 K (strOfNums x1832) 0
def cdb_Build.j2 (K : Nat) (a0 : T_cdb_Ask) (x1729 : Int) (x1738 : T_cdb_form) (x1812 : Bool) : Option (ByteArray × Int) :=
  if x1812 = true then (asrt (1 < (((List.replicate (x1738.f1 : Int).toNat (0 : Int)).set (0 : Int).toNat (IntKind.wrap .u8 x1729)).length : Int)) (if x1729 = 95 then ((cdb_Number.f a0.f6).bind fun t1824 => (asrt (2 < ((((List.replicate (x1738.f1 : Int).toNat (0 : Int)).set (0 : Int).toNat (IntKind.wrap .u8 x1729)).set (1 : Int).toNat (IntKind.wrap .u8 a0.f0)).length : Int)) (cdb_Build.j3 K a0 x1738 ((((List.replicate (x1738.f1 : Int).toNat (0 : Int)).set (0 : Int).toNat (IntKind.wrap .u8 x1729)).set (1 : Int).toNat (IntKind.wrap .u8 a0.f0)).set (2 : Int).toNat (IntKind.wrap .u8 t1824))))) else (cdb_Build.j3 K a0 x1738 (((List.replicate (x1738.f1 : Int).toNat (0 : Int)).set (0 : Int).toNat (IntKind.wrap .u8 x1729)).set (1 : Int).toNat (IntKind.wrap .u8 a0.f0))))) else (cdb_Build.j3 K a0 x1738 ((List.replicate (x1738.f1 : Int).toNat (0 : Int)).set (0 : Int).toNat (IntKind.wrap .u8 x1729)))
def cdb_Build.j1 (K : Nat) (a0 : T_cdb_Ask) (x1729 : Int) (x1738 : T_cdb_form) (x1789 : Bool) : Option (ByteArray × Int) :=
  if x1789 = true then (if a0.f3 = true then (asrt (1 < (((List.replicate (x1738.f1 : Int).toNat (0 : Int)).set (0 : Int).toNat (IntKind.wrap .u8 x1729)).length : Int)) (cdb_Build.j3 K a0 x1738 (((List.replicate (x1738.f1 : Int).toNat (0 : Int)).set (0 : Int).toNat (IntKind.wrap .u8 x1729)).set (1 : Int).toNat 8))) else (cdb_Build.j3 K a0 x1738 ((List.replicate (x1738.f1 : Int).toNat (0 : Int)).set (0 : Int).toNat (IntKind.wrap .u8 x1729)))) else (if x1729 = 147 then (asrt (1 < (((List.replicate (x1738.f1 : Int).toNat (0 : Int)).set (0 : Int).toNat (IntKind.wrap .u8 x1729)).length : Int)) (cdb_Build.j3 K a0 x1738 (((List.replicate (x1738.f1 : Int).toNat (0 : Int)).set (0 : Int).toNat (IntKind.wrap .u8 x1729)).set (1 : Int).toNat 1))) else (if x1729 = 94 then (cdb_Build.j2 K a0 x1729 x1738 (x1729 == 94)) else (cdb_Build.j2 K a0 x1729 x1738 (x1729 == 95))))
def cdb_Build.j0 (K : Nat) (a0 : T_cdb_Ask) (x1729 : Int) : Option (ByteArray × Int) :=
  (cdb_formOf.f K x1729).bind fun t1733 => (optc t1733 (some ((⟨#[]⟩ : ByteArray), 150)) (fun x1738 => (if a0.f0 < 0 then (some ((⟨#[]⟩ : ByteArray), 150)) else (asrt (0 ≤ x1738.f1) (asrt (x1738.f1 ≤ 281474976710656) (asrt (0 < ((List.replicate (x1738.f1 : Int).toNat (0 : Int)).length : Int)) (if x1729 = 18 then (if a0.f4 > 0 then (asrt (1 < (((List.replicate (x1738.f1 : Int).toNat (0 : Int)).set (0 : Int).toNat (IntKind.wrap .u8 x1729)).length : Int)) (asrt (2 < ((((List.replicate (x1738.f1 : Int).toNat (0 : Int)).set (0 : Int).toNat (IntKind.wrap .u8 x1729)).set (1 : Int).toNat 1).length : Int)) (cdb_Build.j3 K a0 x1738 ((((List.replicate (x1738.f1 : Int).toNat (0 : Int)).set (0 : Int).toNat (IntKind.wrap .u8 x1729)).set (1 : Int).toNat 1).set (2 : Int).toNat (IntKind.wrap .u8 a0.f4))))) else (cdb_Build.j3 K a0 x1738 ((List.replicate (x1738.f1 : Int).toNat (0 : Int)).set (0 : Int).toNat (IntKind.wrap .u8 x1729)))) else (if x1729 = 42 then (cdb_Build.j1 K a0 x1729 x1738 (x1729 == 42)) else (cdb_Build.j1 K a0 x1729 x1738 (x1729 == 138))))))))))
def cdb_Build.f (K : Nat) (a0 : T_cdb_Ask) : Option (ByteArray × Int) :=
  if a0.f0 > 255 then (cdb_Build.j0 K a0 (IntKind.wrap .i64 (Int.tdiv a0.f0 256))) else (cdb_Build.j0 K a0 a0.f0)
set_option maxRecDepth 100000 in
set_option maxHeartbeats 4000000 in
theorem cdb_Build.calls (K : Nat) (a0 : T_cdb_Ask)  (r : ByteArray × Int) (w : World) (hG0 : CA w 0 0 (encs (encI .i64) G_cdb_numbers).toArray) (hG1 : CA w 1 0 (encs T_cdb_form.enc G_cdb_forms).toArray) (h : cdb_Build.f K a0 = some r) :
    Calls Tryd.prog 22 #[.agg #[.int .i64 a0.f0, .int .i64 a0.f1, .int .i64 a0.f2, .bool a0.f3, .int .i64 a0.f4, .int .i64 a0.f5, .int .i64 a0.f6]] w (fun e W' => e = .returned (.tuple #[.string r.1, .int .i64 r.2]) ∧ Wd w W' [] [] ) := by
  refine sxstart (n := 137) (l := [(0, .agg #[.int .i64 a0.f0, .int .i64 a0.f1, .int .i64 a0.f2, .bool a0.f3, .int .i64 a0.f4, .int .i64 a0.f5, .int .i64 a0.f6])]) Tryd.func22 rfl rfl (Nat.le_of_ble_eq_true KR) (subsA_cons rfl (subsA_nil _)) ?_
  intro a ha
  have HW := Wd.refl w
  unfold cdb_Build.f at h
  refine wp_seq_k (fun K1718 hK1719 => ?_)
  refine wp_region_lit ?_
  refine stepnew ha HW 1 #[.int .i64 a0.f0, .int .i64 a0.f1, .int .i64 a0.f2, .bool a0.f3, .int .i64 a0.f4, .int .i64 a0.f5, .int .i64 a0.f6] 39 KR KR ?_; clear ha HW a; intro b1720 a W1721 HW ha
  refine stepp ha 2 (.string (⟨#[]⟩ : ByteArray)) KR KR ?_; clear ha a; intro a ha
  refine stepp ha 3 (.int .i64 0) KR KR ?_; clear ha a; intro a ha
  refine endl ?_
  refine thenN (hK1719 _ _ ?_); clear hK1719
  refine wp_seq_k (fun K1722 hK1723 => ?_)
  refine wp_region_lit ?_
  refine stepp ha 13 (.pointer (some ⟨b1720, 0, none⟩)) KR KR ?_; clear ha a; intro a ha
  refine stepl ha 14 (HW.ca (i := 0) (b := b1720) (C := #[.int .i64 a0.f0, .int .i64 a0.f1, .int .i64 a0.f2, .bool a0.f3, .int .i64 a0.f4, .int .i64 a0.f5, .int .i64 a0.f6]) (T := 39) (fr := (0, 0)) KR) 3 0 (.tmp 13) (.int .i64 a0.f0) rfl KR KR KR ?_; clear ha a; intro a ha
  refine stepp ha 4 (.int .i64 a0.f0) KR KR ?_; clear ha a; intro a ha
  refine endl ?_
  refine thenN (hK1723 _ _ ?_); clear hK1723
  refine wp_seq_k (fun K1724 hK1725 => ?_)
  refine cutn (fun a W1730 => ∃ (x1729 : Int), cdb_Build.j0 K a0 x1729 = some r ∧ Has 137 [(1, .pointer (some ⟨b1720, 0, none⟩)), (4, .int .i64 x1729)] a ∧ Wd w W1730 [(b1720, .cells #[.int .i64 a0.f0, .int .i64 a0.f1, .int .i64 a0.f2, .bool a0.f3, .int .i64 a0.f4, .int .i64 a0.f5, .int .i64 a0.f6] 39 (0, 0))] []) ?_ ?_
  · skip
    refine wp_seq_k (fun K1726 hK1727 => ?_)
    refine wp_region_lit ?_
    refine stepp ha 15 (.int .i64 a0.f0) KR KR ?_; clear ha a; intro a ha
    refine stepp ha 16 (.bool (decide (a0.f0 > 255))) KR KR ?_; clear ha a; intro a ha
    refine endl ?_
    refine thenN (hK1727 _ _ ?_); clear hK1727
    by_cases hp1728 : a0.f0 > 255
    · skip
      replace h := ite_pos' h hp1728
      refine condT ha KR KR (t := decide (a0.f0 > 255)) (decide_eq_true hp1728) ?_
      refine wp_region_lit ?_
      refine stepp ha 17 (.int .i64 a0.f0) KR KR ?_; clear ha a; intro a ha
      refine stepp ha 18 (.int .i64 (IntKind.wrap .i64 (Int.tdiv a0.f0 256))) KR KR ?_; clear ha a; intro a ha
      refine stepp ha 4 (.int .i64 (IntKind.wrap .i64 (Int.tdiv a0.f0 256))) KR KR ?_; clear ha a; intro a ha
      refine endl ?_
      exact thenN ⟨IntKind.wrap .i64 (Int.tdiv a0.f0 256), h, ha.sub (subs_cons KR (subs_cons KR (subs_nil _))), HW.pick [0] [] (by decide) (by decide) KR KR⟩
    · skip
      replace h := ite_neg' h hp1728
      refine condF ha KR KR (t := decide (a0.f0 > 255)) (decide_eq_false hp1728) ?_
      refine wp_skip ?_
      exact thenN ⟨a0.f0, h, ha.sub (subs_cons KR (subs_cons KR (subs_nil _))), HW.pick [0] [] (by decide) (by decide) KR KR⟩
  · skip
    intro a W1730 hJ
    obtain ⟨x1729, h, ha, HW⟩ := hJ
    replace h : cdb_Build.j0 K a0 x1729 = some r := h
    unfold cdb_Build.j0 at h
    refine hK1725 _ _ ?_; clear hK1725
    refine wp_seq_k (fun K1731 hK1732 => ?_)
    refine wp_region_lit ?_
    refine stepp ha 19 (.int .i64 x1729) KR KR ?_; clear ha a; intro a ha
    obtain ⟨t1733, ht1734, h_⟩ := bind_some' h; clear h; have h := h_; clear h_
    refine stepc ha 20 KR KR (cdb_formOf.calls K x1729 t1733 _ (HW.ca0 hG1) ht1734) ?_; clear ha a; rintro e W1736 ⟨b1735, rfl, HX1737⟩
    refine ⟨_, rfl, ?_⟩; intro a ha; replace HW := HW.callw HX1737; clear HX1737
    rcases t1733 with _ | x1738
    · skip
      replace h := optc_n h
      replace HW : Wd w W1736 [(b1720, .cells #[.int .i64 a0.f0, .int .i64 a0.f1, .int .i64 a0.f2, .bool a0.f3, .int .i64 a0.f4, .int .i64 a0.f5, .int .i64 a0.f6] 39 (0, 0))] [] := HW
      replace ha := ha.turn 20 (v := .pointer none) KR rfl
      refine stepp ha 5 (.pointer none) KR KR ?_; clear ha a; intro a ha
      refine endl ?_
      refine thenN (hK1732 _ _ ?_); clear hK1732
      refine wp_seq_k (fun K1739 hK1740 => ?_)
      refine wp_seq_k (fun K1741 hK1742 => ?_)
      refine wp_region_lit ?_
      refine stepp ha 21 (.pointer none) KR KR ?_; clear ha a; intro a ha
      refine stepp ha 22 (.bool true) KR KR ?_; clear ha a; intro a ha
      refine stepp ha 23 (.bool true) KR KR ?_; clear ha a; intro a ha
      refine stepo ha 24 KR ?_; clear ha a; intro a ha
      refine stepo ha 25 KR ?_; clear ha a; intro a ha
      refine stepo ha 26 KR ?_; clear ha a; intro a ha
      refine stepp ha 27 (.bool true) KR KR ?_; clear ha a; intro a ha
      refine endl ?_
      refine thenN (hK1742 _ _ ?_); clear hK1742
      refine condT ha KR KR (t := true) (rfl) ?_
      refine wp_seq_k (fun K1743 hK1744 => ?_)
      refine wp_region_lit ?_
      refine stepp ha 2 (.string (⟨#[]⟩ : ByteArray)) KR KR ?_; clear ha a; intro a ha
      refine stepp ha 3 (.int .i64 150) KR KR ?_; clear ha a; intro a ha
      refine endl ?_
      refine thenN (hK1744 _ _ ?_); clear hK1744
      refine wp_ret ?_
      refine thenR ?_
      obtain rfl := Option.some.inj h
      exact finv ha _ _ rfl (.tmp (v := .string (⟨#[]⟩ : ByteArray)) KR (.tmp (v := .int .i64 150) KR .nil)) (.tuple #[.string (⟨#[]⟩ : ByteArray), .int .i64 150]) rfl ⟨rfl, HW.pick [] [] (by decide) (by decide) rfl KR⟩
    · skip
      replace h := optc_s h
      replace HW : Wd w W1736 [(b1735, .cells #[.int .i64 x1738.f0, .int .i64 x1738.f1, .int .i64 x1738.f2.f0, .int .i64 x1738.f2.f1, .int .i64 x1738.f3.f0, .int .i64 x1738.f3.f1, .int .i64 x1738.f4.f0, .int .i64 x1738.f4.f1] 75 (0, 0)), (b1720, .cells #[.int .i64 a0.f0, .int .i64 a0.f1, .int .i64 a0.f2, .bool a0.f3, .int .i64 a0.f4, .int .i64 a0.f5, .int .i64 a0.f6] 39 (0, 0))] [] := HW
      replace ha := ha.turn 20 (v := .pointer (some ⟨b1735, 0, none⟩)) KR rfl
      refine stepp ha 5 (.pointer (some ⟨b1735, 0, none⟩)) KR KR ?_; clear ha a; intro a ha
      refine endl ?_
      refine thenN (hK1732 _ _ ?_); clear hK1732
      refine wp_seq_k (fun K1745 hK1746 => ?_)
      refine wp_seq_k (fun K1747 hK1748 => ?_)
      refine wp_region_lit ?_
      refine stepp ha 21 (.pointer (some ⟨b1735, 0, none⟩)) KR KR ?_; clear ha a; intro a ha
      refine stepp ha 22 (.bool false) KR KR ?_; clear ha a; intro a ha
      refine stepp ha 23 (.bool false) KR KR ?_; clear ha a; intro a ha
      refine stepp ha 24 (.pointer (some ⟨b1720, 0, none⟩)) KR KR ?_; clear ha a; intro a ha
      refine stepl ha 25 (HW.ca (i := 1) (b := b1720) (C := #[.int .i64 a0.f0, .int .i64 a0.f1, .int .i64 a0.f2, .bool a0.f3, .int .i64 a0.f4, .int .i64 a0.f5, .int .i64 a0.f6]) (T := 39) (fr := (0, 0)) KR) 3 0 (.tmp 24) (.int .i64 a0.f0) rfl KR KR KR ?_; clear ha a; intro a ha
      refine stepp ha 26 (.bool (decide (a0.f0 < 0))) KR KR ?_; clear ha a; intro a ha
      refine stepp ha 27 (.bool (decide (a0.f0 < 0))) KR KR ?_; clear ha a; intro a ha
      refine endl ?_
      refine thenN (hK1748 _ _ ?_); clear hK1748
      by_cases hp1749 : a0.f0 < 0
      · skip
        replace h := ite_pos' h hp1749
        refine condT ha KR KR (t := decide (a0.f0 < 0)) (decide_eq_true hp1749) ?_
        refine wp_seq_k (fun K1750 hK1751 => ?_)
        refine wp_region_lit ?_
        refine stepp ha 2 (.string (⟨#[]⟩ : ByteArray)) KR KR ?_; clear ha a; intro a ha
        refine stepp ha 3 (.int .i64 150) KR KR ?_; clear ha a; intro a ha
        refine endl ?_
        refine thenN (hK1751 _ _ ?_); clear hK1751
        refine wp_ret ?_
        refine thenR ?_
        obtain rfl := Option.some.inj h
        exact finv ha _ _ rfl (.tmp (v := .string (⟨#[]⟩ : ByteArray)) KR (.tmp (v := .int .i64 150) KR .nil)) (.tuple #[.string (⟨#[]⟩ : ByteArray), .int .i64 150]) rfl ⟨rfl, HW.pick [] [] (by decide) (by decide) rfl KR⟩
      · skip
        replace h := ite_neg' h hp1749
        refine condF ha KR KR (t := decide (a0.f0 < 0)) (decide_eq_false hp1749) ?_
        refine wp_skip ?_
        refine thenN (hK1746 _ _ ?_); clear hK1746
        refine wp_seq_k (fun K1752 hK1753 => ?_)
        refine wp_region_lit ?_
        refine stepp ha 28 (.pointer (some ⟨b1735, 0, none⟩)) KR KR ?_; clear ha a; intro a ha
        refine stepp ha 29 (.pointer (some ⟨b1735, 0, none⟩)) KR KR ?_; clear ha a; intro a ha
        refine stepp ha 30 (.pointer (some ⟨b1735, 1, none⟩)) KR KR ?_; clear ha a; intro a ha
        refine stepl ha 31 (HW.ca (i := 0) (b := b1735) (C := #[.int .i64 x1738.f0, .int .i64 x1738.f1, .int .i64 x1738.f2.f0, .int .i64 x1738.f2.f1, .int .i64 x1738.f3.f0, .int .i64 x1738.f3.f1, .int .i64 x1738.f4.f0, .int .i64 x1738.f4.f1]) (T := 75) (fr := (0, 0)) KR) 3 1 (.tmp 30) (.int .i64 x1738.f1) rfl KR KR KR ?_; clear ha a; intro a ha
        obtain ⟨hA1754, h_⟩ := asrt_some h; clear h; have h := h_; clear h_
        obtain ⟨hA1755, h_⟩ := asrt_some h; clear h; have h := h_; clear h_
        refine stepmk (encI .u8) (0 : Int) ha HW 32 56 5 (.tmp 31) (.tmp 31) .i64 .i64 x1738.f1 (.int .u8 0) 1 rfl KR KR KR KR rfl rfl hA1754 (by have := hA1755; omega) (by have := hA1755; omega) KR ?_; clear ha HW a; intro b1756 a W1757 HW ha
        refine stepp ha 6 (.slice (some ⟨b1756, 0, none⟩) (List.replicate (x1738.f1 : Int).toNat (0 : Int)).length ((x1738.f1 : Int).toNat)) KR KR ?_; clear ha a; intro a ha
        refine endl ?_
        refine thenN (hK1753 _ _ ?_); clear hK1753
        refine wp_seq_k (fun K1759 hK1760 => ?_)
        refine wp_region_lit ?_
        refine stepp ha 33 (.slice (some ⟨b1756, 0, none⟩) (List.replicate (x1738.f1 : Int).toNat (0 : Int)).length ((x1738.f1 : Int).toNat)) KR KR ?_; clear ha a; intro a ha
        refine stepp ha 34 (.int .i64 x1729) KR KR ?_; clear ha a; intro a ha
        refine stepp ha 35 (.int .u8 (IntKind.wrap .u8 x1729)) KR KR ?_; clear ha a; intro a ha
        obtain ⟨hA1761, h_⟩ := asrt_some h; clear h; have h := h_; clear h_
        refine stepio (encI .u8) ha HW 36 0 (sz := 1) (e := 5) (v := .slice (some ⟨b1756, 0, none⟩) (List.replicate (x1738.f1 : Int).toNat (0 : Int)).length ((x1738.f1 : Int).toNat)) (xs := List.replicate (x1738.f1 : Int).toNat (0 : Int)) KR 56 (.tmp 33) (.const (.int .i64 0)) .i64 0 rfl KR KR KR KR (by decide) (show (0 : Int) < ((List.replicate (x1738.f1 : Int).toNat (0 : Int)).length : Int) from hA1761) KR ?_; clear ha a; intro b1762 a hb1763 ha
        refine stepos (encI .u8) (0 : Int) ha HW 0 (sz := 1) (e := 5) (fun _ => rfl) (v := .slice (some ⟨b1756, 0, none⟩) (List.replicate (x1738.f1 : Int).toNat (0 : Int)).length ((x1738.f1 : Int).toNat)) (xs := List.replicate (x1738.f1 : Int).toNat (0 : Int)) KR hb1763 0 (by decide) (show (0 : Int) < ((List.replicate (x1738.f1 : Int).toNat (0 : Int)).length : Int) from hA1761) 5 0 (.tmp 36) (.tmp 35) (.int .u8 (IntKind.wrap .u8 x1729)) (IntKind.wrap .u8 x1729) rfl KR KR KR KR KR KR KR (.slice (some ⟨b1756, 0, none⟩) ((List.replicate (x1738.f1 : Int).toNat (0 : Int)).set (0 : Int).toNat (IntKind.wrap .u8 x1729)).length ((x1738.f1 : Int).toNat)) (by rw [List.length_set]) ?_; clear ha HW a; intro a W1764 HW ha
        replace ha := ha.turn 32 (v := .slice (some ⟨b1756, 0, none⟩) ((List.replicate (x1738.f1 : Int).toNat (0 : Int)).set (0 : Int).toNat (IntKind.wrap .u8 x1729)).length ((x1738.f1 : Int).toNat)) KR (by rw [List.length_set])
        replace ha := ha.turn 6 (v := .slice (some ⟨b1756, 0, none⟩) ((List.replicate (x1738.f1 : Int).toNat (0 : Int)).set (0 : Int).toNat (IntKind.wrap .u8 x1729)).length ((x1738.f1 : Int).toNat)) KR (by rw [List.length_set])
        replace ha := ha.turn 33 (v := .slice (some ⟨b1756, 0, none⟩) ((List.replicate (x1738.f1 : Int).toNat (0 : Int)).set (0 : Int).toNat (IntKind.wrap .u8 x1729)).length ((x1738.f1 : Int).toNat)) KR (by rw [List.length_set])
        replace HW : Wd w W1764 [(b1735, .cells #[.int .i64 x1738.f0, .int .i64 x1738.f1, .int .i64 x1738.f2.f0, .int .i64 x1738.f2.f1, .int .i64 x1738.f3.f0, .int .i64 x1738.f3.f1, .int .i64 x1738.f4.f0, .int .i64 x1738.f4.f1] 75 (0, 0)), (b1720, .cells #[.int .i64 a0.f0, .int .i64 a0.f1, .int .i64 a0.f2, .bool a0.f3, .int .i64 a0.f4, .int .i64 a0.f5, .int .i64 a0.f6] 39 (0, 0))] [⟨5, 1, .slice (some ⟨b1756, 0, none⟩) ((List.replicate (x1738.f1 : Int).toNat (0 : Int)).set (0 : Int).toNat (IntKind.wrap .u8 x1729)).length ((x1738.f1 : Int).toNat), ((List.replicate (x1738.f1 : Int).toNat (0 : Int)).set (0 : Int).toNat (IntKind.wrap .u8 x1729)).length, encs (encI .u8) ((List.replicate (x1738.f1 : Int).toNat (0 : Int)).set (0 : Int).toNat (IntKind.wrap .u8 x1729))⟩] := HW
        refine endl ?_
        refine thenN (hK1760 _ _ ?_); clear hK1760
        refine wp_seq_k (fun K1765 hK1766 => ?_)
        refine cutn (fun a W1834 => ∃ (x1832 : List Int), cdb_Build.j3 K a0 x1738 x1832 = some r ∧ Has 137 [(1, .pointer (some ⟨b1720, 0, none⟩)), (5, .pointer (some ⟨b1735, 0, none⟩)), (6, .slice (some ⟨b1756, 0, none⟩) x1832.length ((x1738.f1 : Int).toNat))] a ∧ Wd w W1834 [(b1720, .cells #[.int .i64 a0.f0, .int .i64 a0.f1, .int .i64 a0.f2, .bool a0.f3, .int .i64 a0.f4, .int .i64 a0.f5, .int .i64 a0.f6] 39 (0, 0)), (b1735, .cells #[.int .i64 x1738.f0, .int .i64 x1738.f1, .int .i64 x1738.f2.f0, .int .i64 x1738.f2.f1, .int .i64 x1738.f3.f0, .int .i64 x1738.f3.f1, .int .i64 x1738.f4.f0, .int .i64 x1738.f4.f1] 75 (0, 0))] [⟨5, 1, .slice (some ⟨b1756, 0, none⟩) x1832.length ((x1738.f1 : Int).toNat), x1832.length, encs (encI .u8) x1832⟩]) ?_ ?_
        · skip
          refine wp_seq_k (fun K1767 hK1768 => ?_)
          refine wp_region_lit ?_
          refine stepp ha 37 (.int .i64 x1729) KR KR ?_; clear ha a; intro a ha
          refine endl ?_
          refine thenN (hK1768 _ _ ?_); clear hK1768
          refine wp_block ?_
          refine wp_seq_k (fun K1769 hK1770 => ?_)
          refine wp_region_lit ?_
          refine stepp ha 39 (.bool (x1729 == 18)) KR KR ?_; clear ha a; intro a ha
          refine stepp ha 38 (.bool (x1729 == 18)) KR KR ?_; clear ha a; intro a ha
          refine endl ?_
          refine thenN (hK1770 _ _ ?_); clear hK1770
          by_cases hp1771 : x1729 = 18
          · skip
            replace h := ite_pos' h hp1771
            refine condT ha KR KR (t := (x1729 == 18)) (ieq_t hp1771) ?_
            refine wp_seq_k (fun K1772 hK1773 => ?_)
            refine wp_region_lit ?_
            refine stepp ha 40 (.pointer (some ⟨b1720, 4, none⟩)) KR KR ?_; clear ha a; intro a ha
            refine stepl ha 41 (HW.ca (i := 1) (b := b1720) (C := #[.int .i64 a0.f0, .int .i64 a0.f1, .int .i64 a0.f2, .bool a0.f3, .int .i64 a0.f4, .int .i64 a0.f5, .int .i64 a0.f6]) (T := 39) (fr := (0, 0)) KR) 3 4 (.tmp 40) (.int .i64 a0.f4) rfl KR KR KR ?_; clear ha a; intro a ha
            refine stepp ha 42 (.bool (decide (a0.f4 > 0))) KR KR ?_; clear ha a; intro a ha
            refine endl ?_
            refine thenN (hK1773 _ _ ?_); clear hK1773
            by_cases hp1774 : a0.f4 > 0
            · skip
              replace h := ite_pos' h hp1774
              refine condT ha KR KR (t := decide (a0.f4 > 0)) (decide_eq_true hp1774) ?_
              obtain ⟨hA1775, h_⟩ := asrt_some h; clear h; have h := h_; clear h_
              refine regionL 7 KR ([(b1735, .cells #[.int .i64 x1738.f0, .int .i64 x1738.f1, .int .i64 x1738.f2.f0, .int .i64 x1738.f2.f1, .int .i64 x1738.f3.f0, .int .i64 x1738.f3.f1, .int .i64 x1738.f4.f0, .int .i64 x1738.f4.f1] 75 (0, 0)), (b1720, .cells #[.int .i64 a0.f0, .int .i64 a0.f1, .int .i64 a0.f2, .bool a0.f3, .int .i64 a0.f4, .int .i64 a0.f5, .int .i64 a0.f6] 39 (0, 0))], []) ([(b1735, .cells #[.int .i64 x1738.f0, .int .i64 x1738.f1, .int .i64 x1738.f2.f0, .int .i64 x1738.f2.f1, .int .i64 x1738.f3.f0, .int .i64 x1738.f3.f1, .int .i64 x1738.f4.f0, .int .i64 x1738.f4.f1] 75 (0, 0)), (b1720, .cells #[.int .i64 a0.f0, .int .i64 a0.f1, .int .i64 a0.f2, .bool a0.f3, .int .i64 a0.f4, .int .i64 a0.f5, .int .i64 a0.f6] 39 (0, 0))], [⟨5, 1, .slice (some ⟨b1756, 0, none⟩) ((List.replicate (x1738.f1 : Int).toNat (0 : Int)).set (0 : Int).toNat (IntKind.wrap .u8 x1729)).length ((x1738.f1 : Int).toNat), ((List.replicate (x1738.f1 : Int).toNat (0 : Int)).set (0 : Int).toNat (IntKind.wrap .u8 x1729)).length, encs (encI .u8) ((List.replicate (x1738.f1 : Int).toNat (0 : Int)).set (0 : Int).toNat (IntKind.wrap .u8 x1729))⟩]) [none, none, none, none, none, none, some ([(b1735, .cells #[.int .i64 x1738.f0, .int .i64 x1738.f1, .int .i64 x1738.f2.f0, .int .i64 x1738.f2.f1, .int .i64 x1738.f3.f0, .int .i64 x1738.f3.f1, .int .i64 x1738.f4.f0, .int .i64 x1738.f4.f1] 75 (0, 0)), (b1720, .cells #[.int .i64 a0.f0, .int .i64 a0.f1, .int .i64 a0.f2, .bool a0.f3, .int .i64 a0.f4, .int .i64 a0.f5, .int .i64 a0.f6] 39 (0, 0))], [⟨5, 1, .slice (some ⟨b1756, 0, none⟩) (((List.replicate (x1738.f1 : Int).toNat (0 : Int)).set (0 : Int).toNat (IntKind.wrap .u8 x1729)).set (1 : Int).toNat 1).length ((x1738.f1 : Int).toNat), (((List.replicate (x1738.f1 : Int).toNat (0 : Int)).set (0 : Int).toNat (IntKind.wrap .u8 x1729)).set (1 : Int).toNat 1).length, encs (encI .u8) (((List.replicate (x1738.f1 : Int).toNat (0 : Int)).set (0 : Int).toNat (IntKind.wrap .u8 x1729)).set (1 : Int).toNat 1)⟩])] [.fix (.slice (some ⟨b1756, 0, none⟩) ((List.replicate (x1738.f1 : Int).toNat (0 : Int)).set (0 : Int).toNat (IntKind.wrap .u8 x1729)).length ((x1738.f1 : Int).toNat)), .fix (.slice (some ⟨b1756, 0, none⟩) ((List.replicate (x1738.f1 : Int).toNat (0 : Int)).set (0 : Int).toNat (IntKind.wrap .u8 x1729)).length ((x1738.f1 : Int).toNat)), .fix (.pointer (some ⟨b1720, 4, none⟩)), .fix (.int .i64 a0.f4), .fix (.int .u8 (IntKind.wrap .u8 a0.f4)), .fix (.pointer (some ⟨b1756, 0 + (1 : Int).toNat * 1, none⟩)), .any] KR ha HW ⟨(fun w_ h_ => h_.pick [0, 1] [] (by decide) (by decide) KR KR), (fun w_ h_ => h_.pick [0, 1] [] (by decide) (by decide) KR KR)⟩ ?_ ?_
              · skip
                refine ⟨?_, ?_, ?_, ?_, ?_, ?_, ?_, trivial⟩
                · skip
                  intro a wr hn hd HW hs; have ha := hasNil hn hd
                  have ha := ha.add (seeE hs 6 (.slice (some ⟨b1756, 0, none⟩) ((List.replicate (x1738.f1 : Int).toNat (0 : Int)).set (0 : Int).toNat (IntKind.wrap .u8 x1729)).length ((x1738.f1 : Int).toNat)) KR KR)
                  refine yStep ha 43 KR ?_; intro l_ ha HK
                  refine stepp ha 43 (.slice (some ⟨b1756, 0, none⟩) ((List.replicate (x1738.f1 : Int).toNat (0 : Int)).set (0 : Int).toNat (IntKind.wrap .u8 x1729)).length ((x1738.f1 : Int).toNat)) KR KR ?_; intro ax hax; exact HK _ _ _ hax rfl (Below.refl _ _)
                · skip
                  intro a wr hn hd HW hs; have ha := hasNil hn hd
                  have ha := ha.add (seeE hs 6 (.slice (some ⟨b1756, 0, none⟩) ((List.replicate (x1738.f1 : Int).toNat (0 : Int)).set (0 : Int).toNat (IntKind.wrap .u8 x1729)).length ((x1738.f1 : Int).toNat)) KR KR)
                  refine yStep ha 44 KR ?_; intro l_ ha HK
                  refine stepp ha 44 (.slice (some ⟨b1756, 0, none⟩) ((List.replicate (x1738.f1 : Int).toNat (0 : Int)).set (0 : Int).toNat (IntKind.wrap .u8 x1729)).length ((x1738.f1 : Int).toNat)) KR KR ?_; intro ax hax; exact HK _ _ _ hax rfl (Below.refl _ _)
                · skip
                  intro a wr hn hd HW hs; have ha := hasNil hn hd
                  have ha := ha.add (seeE hs 1 (.pointer (some ⟨b1720, 0, none⟩)) KR KR)
                  refine yStep ha 45 KR ?_; intro l_ ha HK
                  refine stepp ha 45 (.pointer (some ⟨b1720, 4, none⟩)) KR KR ?_; intro ax hax; exact HK _ _ _ hax rfl (Below.refl _ _)
                · skip
                  intro a wr hn hd HW hs; have ha := hasNil hn hd
                  have ha := ha.add (seeF hs 45 2 (.pointer (some ⟨b1720, 4, none⟩)) KR KR)
                  refine yStep ha 46 KR ?_; intro l_ ha HK
                  refine stepl ha 46 (HW.ca (i := 1) (b := b1720) (C := #[.int .i64 a0.f0, .int .i64 a0.f1, .int .i64 a0.f2, .bool a0.f3, .int .i64 a0.f4, .int .i64 a0.f5, .int .i64 a0.f6]) (T := 39) (fr := (0, 0)) KR) 3 4 (.tmp 45) (.int .i64 a0.f4) rfl KR KR KR ?_; intro ax hax; exact HK _ _ _ hax rfl (Below.refl _ _)
                · skip
                  intro a wr hn hd HW hs; have ha := hasNil hn hd
                  have ha := ha.add (seeF hs 46 3 (.int .i64 a0.f4) KR KR)
                  refine yStep ha 47 KR ?_; intro l_ ha HK
                  refine stepp ha 47 (.int .u8 (IntKind.wrap .u8 a0.f4)) KR KR ?_; intro ax hax; exact HK _ _ _ hax rfl (Below.refl _ _)
                · skip
                  intro a wr hn hd HW hs; have ha := hasNil hn hd
                  have ha := ha.add (seeF hs 43 0 (.slice (some ⟨b1756, 0, none⟩) ((List.replicate (x1738.f1 : Int).toNat (0 : Int)).set (0 : Int).toNat (IntKind.wrap .u8 x1729)).length ((x1738.f1 : Int).toNat)) KR KR)
                  refine yStep ha 48 KR ?_; intro l_ ha HK
                  refine stepif ha 48 (sz := 1) (len := ((List.replicate (x1738.f1 : Int).toNat (0 : Int)).set (0 : Int).toNat (IntKind.wrap .u8 x1729)).length) (b := b1756) (off := 0) (c := (x1738.f1 : Int).toNat) 56 5 (.tmp 43) (.const (.int .i64 1)) .i64 1 rfl KR KR KR KR (by decide) (show (1 : Int) < (((List.replicate (x1738.f1 : Int).toNat (0 : Int)).set (0 : Int).toNat (IntKind.wrap .u8 x1729)).length : Int) from hA1775) KR ?_; intro ax hax; exact HK _ _ _ hax rfl (Below.refl _ _)
                · skip
                  intro a wr hn hd HW hs; have ha := hasNil hn hd
                  have ha := ha.add (seeF hs 48 5 (.pointer (some ⟨b1756, 0 + (1 : Int).toNat * 1, none⟩)) KR KR)
                  refine yStepS ha KR ?_; intro l_ ha HK
                  refine stepos (encI .u8) (0 : Int) ha HW 0 (sz := 1) (e := 5) (fun _ => rfl) (v := .slice (some ⟨b1756, 0, none⟩) ((List.replicate (x1738.f1 : Int).toNat (0 : Int)).set (0 : Int).toNat (IntKind.wrap .u8 x1729)).length ((x1738.f1 : Int).toNat)) (xs := (List.replicate (x1738.f1 : Int).toNat (0 : Int)).set (0 : Int).toNat (IntKind.wrap .u8 x1729)) KR rfl 1 (by decide) (show (1 : Int) < (((List.replicate (x1738.f1 : Int).toNat (0 : Int)).set (0 : Int).toNat (IntKind.wrap .u8 x1729)).length : Int) from hA1775) 5 0 (.tmp 48) (.const (.int .u8 1)) (.int .u8 1) 1 rfl KR KR KR KR KR KR KR (.slice (some ⟨b1756, 0, none⟩) (((List.replicate (x1738.f1 : Int).toNat (0 : Int)).set (0 : Int).toNat (IntKind.wrap .u8 x1729)).set (1 : Int).toNat 1).length ((x1738.f1 : Int).toNat)) (by rw [List.length_set]) ?_; intro ax wx HV hax; exact HK _ _ hax HV
              · skip
                intro a W1778 ha HW he hf
                replace HW : Wd w W1778 [(b1735, .cells #[.int .i64 x1738.f0, .int .i64 x1738.f1, .int .i64 x1738.f2.f0, .int .i64 x1738.f2.f1, .int .i64 x1738.f3.f0, .int .i64 x1738.f3.f1, .int .i64 x1738.f4.f0, .int .i64 x1738.f4.f1] 75 (0, 0)), (b1720, .cells #[.int .i64 a0.f0, .int .i64 a0.f1, .int .i64 a0.f2, .bool a0.f3, .int .i64 a0.f4, .int .i64 a0.f5, .int .i64 a0.f6] 39 (0, 0))] [⟨5, 1, .slice (some ⟨b1756, 0, none⟩) (((List.replicate (x1738.f1 : Int).toNat (0 : Int)).set (0 : Int).toNat (IntKind.wrap .u8 x1729)).set (1 : Int).toNat 1).length ((x1738.f1 : Int).toNat), (((List.replicate (x1738.f1 : Int).toNat (0 : Int)).set (0 : Int).toNat (IntKind.wrap .u8 x1729)).set (1 : Int).toNat 1).length, encs (encI .u8) (((List.replicate (x1738.f1 : Int).toNat (0 : Int)).set (0 : Int).toNat (IntKind.wrap .u8 x1729)).set (1 : Int).toNat 1)⟩] := HW
                replace ha := ha.add (he 1 (.pointer (some ⟨b1720, 0, none⟩)) KR KR)
                replace ha := ha.add (he 5 (.pointer (some ⟨b1735, 0, none⟩)) KR KR)
                replace ha := ha.add (he 6 (.slice (some ⟨b1756, 0, none⟩) ((List.replicate (x1738.f1 : Int).toNat (0 : Int)).set (0 : Int).toNat (IntKind.wrap .u8 x1729)).length ((x1738.f1 : Int).toNat)) KR KR)
                replace ha := ha.add (gotF (m := 7) (j := 1) (d := 44) (v := .slice (some ⟨b1756, 0, none⟩) ((List.replicate (x1738.f1 : Int).toNat (0 : Int)).set (0 : Int).toNat (IntKind.wrap .u8 x1729)).length ((x1738.f1 : Int).toNat)) hf KR KR KR)
                replace ha := ha.add (gotF (m := 7) (j := 4) (d := 47) (v := .int .u8 (IntKind.wrap .u8 a0.f4)) hf KR KR KR)
                clear he hf
                replace ha := ha.turn 6 (v := .slice (some ⟨b1756, 0, none⟩) (((List.replicate (x1738.f1 : Int).toNat (0 : Int)).set (0 : Int).toNat (IntKind.wrap .u8 x1729)).set (1 : Int).toNat 1).length ((x1738.f1 : Int).toNat)) KR (by rw [List.length_set])
                replace ha := ha.turn 44 (v := .slice (some ⟨b1756, 0, none⟩) (((List.replicate (x1738.f1 : Int).toNat (0 : Int)).set (0 : Int).toNat (IntKind.wrap .u8 x1729)).set (1 : Int).toNat 1).length ((x1738.f1 : Int).toNat)) KR (by rw [List.length_set])
                obtain ⟨hA1779, h_⟩ := asrt_some h; clear h; have h := h_; clear h_
                refine stepio (encI .u8) ha HW 49 0 (sz := 1) (e := 5) (v := .slice (some ⟨b1756, 0, none⟩) (((List.replicate (x1738.f1 : Int).toNat (0 : Int)).set (0 : Int).toNat (IntKind.wrap .u8 x1729)).set (1 : Int).toNat 1).length ((x1738.f1 : Int).toNat)) (xs := ((List.replicate (x1738.f1 : Int).toNat (0 : Int)).set (0 : Int).toNat (IntKind.wrap .u8 x1729)).set (1 : Int).toNat 1) KR 56 (.tmp 44) (.const (.int .i64 2)) .i64 2 rfl KR KR KR KR (by decide) (show (2 : Int) < ((((List.replicate (x1738.f1 : Int).toNat (0 : Int)).set (0 : Int).toNat (IntKind.wrap .u8 x1729)).set (1 : Int).toNat 1).length : Int) from hA1779) KR ?_; clear ha a; intro b1780 a hb1781 ha
                refine stepos (encI .u8) (0 : Int) ha HW 0 (sz := 1) (e := 5) (fun _ => rfl) (v := .slice (some ⟨b1756, 0, none⟩) (((List.replicate (x1738.f1 : Int).toNat (0 : Int)).set (0 : Int).toNat (IntKind.wrap .u8 x1729)).set (1 : Int).toNat 1).length ((x1738.f1 : Int).toNat)) (xs := ((List.replicate (x1738.f1 : Int).toNat (0 : Int)).set (0 : Int).toNat (IntKind.wrap .u8 x1729)).set (1 : Int).toNat 1) KR hb1781 2 (by decide) (show (2 : Int) < ((((List.replicate (x1738.f1 : Int).toNat (0 : Int)).set (0 : Int).toNat (IntKind.wrap .u8 x1729)).set (1 : Int).toNat 1).length : Int) from hA1779) 5 0 (.tmp 49) (.tmp 47) (.int .u8 (IntKind.wrap .u8 a0.f4)) (IntKind.wrap .u8 a0.f4) rfl KR KR KR KR KR KR KR (.slice (some ⟨b1756, 0, none⟩) ((((List.replicate (x1738.f1 : Int).toNat (0 : Int)).set (0 : Int).toNat (IntKind.wrap .u8 x1729)).set (1 : Int).toNat 1).set (2 : Int).toNat (IntKind.wrap .u8 a0.f4)).length ((x1738.f1 : Int).toNat)) (by rw [List.length_set]) ?_; clear ha HW a; intro a W1782 HW ha
                replace ha := ha.turn 6 (v := .slice (some ⟨b1756, 0, none⟩) ((((List.replicate (x1738.f1 : Int).toNat (0 : Int)).set (0 : Int).toNat (IntKind.wrap .u8 x1729)).set (1 : Int).toNat 1).set (2 : Int).toNat (IntKind.wrap .u8 a0.f4)).length ((x1738.f1 : Int).toNat)) KR (by rw [List.length_set])
                replace ha := ha.turn 44 (v := .slice (some ⟨b1756, 0, none⟩) ((((List.replicate (x1738.f1 : Int).toNat (0 : Int)).set (0 : Int).toNat (IntKind.wrap .u8 x1729)).set (1 : Int).toNat 1).set (2 : Int).toNat (IntKind.wrap .u8 a0.f4)).length ((x1738.f1 : Int).toNat)) KR (by rw [List.length_set])
                replace HW : Wd w W1782 [(b1735, .cells #[.int .i64 x1738.f0, .int .i64 x1738.f1, .int .i64 x1738.f2.f0, .int .i64 x1738.f2.f1, .int .i64 x1738.f3.f0, .int .i64 x1738.f3.f1, .int .i64 x1738.f4.f0, .int .i64 x1738.f4.f1] 75 (0, 0)), (b1720, .cells #[.int .i64 a0.f0, .int .i64 a0.f1, .int .i64 a0.f2, .bool a0.f3, .int .i64 a0.f4, .int .i64 a0.f5, .int .i64 a0.f6] 39 (0, 0))] [⟨5, 1, .slice (some ⟨b1756, 0, none⟩) ((((List.replicate (x1738.f1 : Int).toNat (0 : Int)).set (0 : Int).toNat (IntKind.wrap .u8 x1729)).set (1 : Int).toNat 1).set (2 : Int).toNat (IntKind.wrap .u8 a0.f4)).length ((x1738.f1 : Int).toNat), ((((List.replicate (x1738.f1 : Int).toNat (0 : Int)).set (0 : Int).toNat (IntKind.wrap .u8 x1729)).set (1 : Int).toNat 1).set (2 : Int).toNat (IntKind.wrap .u8 a0.f4)).length, encs (encI .u8) ((((List.replicate (x1738.f1 : Int).toNat (0 : Int)).set (0 : Int).toNat (IntKind.wrap .u8 x1729)).set (1 : Int).toNat 1).set (2 : Int).toNat (IntKind.wrap .u8 a0.f4))⟩] := HW
                refine endl ?_
                refine blkN ?_
                exact thenN ⟨(((List.replicate (x1738.f1 : Int).toNat (0 : Int)).set (0 : Int).toNat (IntKind.wrap .u8 x1729)).set (1 : Int).toNat 1).set (2 : Int).toNat (IntKind.wrap .u8 a0.f4), h, ha.sub (subs_cons KR (subs_cons KR (subs_cons KR (subs_nil _)))), HW.pick [1, 0] [0] (by decide) (by decide) KR KR⟩
            · skip
              replace h := ite_neg' h hp1774
              refine condF ha KR KR (t := decide (a0.f4 > 0)) (decide_eq_false hp1774) ?_
              refine wp_skip ?_
              refine blkN ?_
              exact thenN ⟨(List.replicate (x1738.f1 : Int).toNat (0 : Int)).set (0 : Int).toNat (IntKind.wrap .u8 x1729), h, ha.sub (subs_cons KR (subs_cons KR (subs_cons KR (subs_nil _)))), HW.pick [1, 0] [0] (by decide) (by decide) KR KR⟩
          · skip
            replace h := ite_neg' h hp1771
            refine condF ha KR KR (t := (x1729 == 18)) (ieq_f hp1771) ?_
            refine wp_seq_k (fun K1783 hK1784 => ?_)
            refine cutn (fun a W1790 => ∃ (x1789 : Bool), cdb_Build.j1 K a0 x1729 x1738 x1789 = some r ∧ Has 137 [(1, .pointer (some ⟨b1720, 0, none⟩)), (4, .int .i64 x1729), (5, .pointer (some ⟨b1735, 0, none⟩)), (6, .slice (some ⟨b1756, 0, none⟩) ((List.replicate (x1738.f1 : Int).toNat (0 : Int)).set (0 : Int).toNat (IntKind.wrap .u8 x1729)).length ((x1738.f1 : Int).toNat)), (37, .int .i64 x1729), (50, .bool x1789)] a ∧ Wd w W1790 [(b1720, .cells #[.int .i64 a0.f0, .int .i64 a0.f1, .int .i64 a0.f2, .bool a0.f3, .int .i64 a0.f4, .int .i64 a0.f5, .int .i64 a0.f6] 39 (0, 0)), (b1735, .cells #[.int .i64 x1738.f0, .int .i64 x1738.f1, .int .i64 x1738.f2.f0, .int .i64 x1738.f2.f1, .int .i64 x1738.f3.f0, .int .i64 x1738.f3.f1, .int .i64 x1738.f4.f0, .int .i64 x1738.f4.f1] 75 (0, 0))] [⟨5, 1, .slice (some ⟨b1756, 0, none⟩) ((List.replicate (x1738.f1 : Int).toNat (0 : Int)).set (0 : Int).toNat (IntKind.wrap .u8 x1729)).length ((x1738.f1 : Int).toNat), ((List.replicate (x1738.f1 : Int).toNat (0 : Int)).set (0 : Int).toNat (IntKind.wrap .u8 x1729)).length, encs (encI .u8) ((List.replicate (x1738.f1 : Int).toNat (0 : Int)).set (0 : Int).toNat (IntKind.wrap .u8 x1729))⟩]) ?_ ?_
            · skip
              refine wp_seq_k (fun K1785 hK1786 => ?_)
              refine wp_region_lit ?_
              refine stepp ha 51 (.bool (x1729 == 42)) KR KR ?_; clear ha a; intro a ha
              refine stepp ha 50 (.bool (x1729 == 42)) KR KR ?_; clear ha a; intro a ha
              refine endl ?_
              refine thenN (hK1786 _ _ ?_); clear hK1786
              by_cases hp1787 : x1729 = 42
              · skip
                replace h := ite_pos' h hp1787
                refine condT ha KR KR (t := (x1729 == 42)) (ieq_t hp1787) ?_
                refine wp_skip ?_
                exact thenN ⟨(x1729 == 42), h, ha.sub (subs_cons KR (subs_cons KR (subs_cons KR (subs_cons KR (subs_cons KR (subs_cons KR (subs_nil _))))))), HW.pick [1, 0] [0] (by decide) (by decide) KR KR⟩
              · skip
                replace h := ite_neg' h hp1787
                refine condF ha KR KR (t := (x1729 == 42)) (ieq_f hp1787) ?_
                refine wp_region_lit ?_
                refine stepp ha 52 (.bool (x1729 == 138)) KR KR ?_; clear ha a; intro a ha
                refine stepp ha 50 (.bool (x1729 == 138)) KR KR ?_; clear ha a; intro a ha
                refine endl ?_
                exact thenN ⟨(x1729 == 138), h, ha.sub (subs_cons KR (subs_cons KR (subs_cons KR (subs_cons KR (subs_cons KR (subs_cons KR (subs_nil _))))))), HW.pick [1, 0] [0] (by decide) (by decide) KR KR⟩
            · skip
              intro a W1790 hJ
              obtain ⟨x1789, h, ha, HW⟩ := hJ
              replace h : cdb_Build.j1 K a0 x1729 x1738 x1789 = some r := h
              unfold cdb_Build.j1 at h
              refine hK1784 _ _ ?_; clear hK1784
              by_cases hp1791 : x1789 = true
              · skip
                replace h := ite_pos' h hp1791
                refine condT ha KR KR (t := x1789) (hp1791) ?_
                refine wp_seq_k (fun K1792 hK1793 => ?_)
                refine wp_region_lit ?_
                refine stepp ha 53 (.pointer (some ⟨b1720, 3, none⟩)) KR KR ?_; clear ha a; intro a ha
                refine stepl ha 54 (HW.ca (i := 0) (b := b1720) (C := #[.int .i64 a0.f0, .int .i64 a0.f1, .int .i64 a0.f2, .bool a0.f3, .int .i64 a0.f4, .int .i64 a0.f5, .int .i64 a0.f6]) (T := 39) (fr := (0, 0)) KR) 4 3 (.tmp 53) (.bool a0.f3) rfl KR KR KR ?_; clear ha a; intro a ha
                refine endl ?_
                refine thenN (hK1793 _ _ ?_); clear hK1793
                by_cases hp1794 : a0.f3 = true
                · skip
                  replace h := ite_pos' h hp1794
                  refine condT ha KR KR (t := a0.f3) (hp1794) ?_
                  refine wp_region_lit ?_
                  refine stepp ha 55 (.slice (some ⟨b1756, 0, none⟩) ((List.replicate (x1738.f1 : Int).toNat (0 : Int)).set (0 : Int).toNat (IntKind.wrap .u8 x1729)).length ((x1738.f1 : Int).toNat)) KR KR ?_; clear ha a; intro a ha
                  obtain ⟨hA1795, h_⟩ := asrt_some h; clear h; have h := h_; clear h_
                  refine stepio (encI .u8) ha HW 56 0 (sz := 1) (e := 5) (v := .slice (some ⟨b1756, 0, none⟩) ((List.replicate (x1738.f1 : Int).toNat (0 : Int)).set (0 : Int).toNat (IntKind.wrap .u8 x1729)).length ((x1738.f1 : Int).toNat)) (xs := (List.replicate (x1738.f1 : Int).toNat (0 : Int)).set (0 : Int).toNat (IntKind.wrap .u8 x1729)) KR 56 (.tmp 55) (.const (.int .i64 1)) .i64 1 rfl KR KR KR KR (by decide) (show (1 : Int) < (((List.replicate (x1738.f1 : Int).toNat (0 : Int)).set (0 : Int).toNat (IntKind.wrap .u8 x1729)).length : Int) from hA1795) KR ?_; clear ha a; intro b1796 a hb1797 ha
                  refine stepos (encI .u8) (0 : Int) ha HW 0 (sz := 1) (e := 5) (fun _ => rfl) (v := .slice (some ⟨b1756, 0, none⟩) ((List.replicate (x1738.f1 : Int).toNat (0 : Int)).set (0 : Int).toNat (IntKind.wrap .u8 x1729)).length ((x1738.f1 : Int).toNat)) (xs := (List.replicate (x1738.f1 : Int).toNat (0 : Int)).set (0 : Int).toNat (IntKind.wrap .u8 x1729)) KR hb1797 1 (by decide) (show (1 : Int) < (((List.replicate (x1738.f1 : Int).toNat (0 : Int)).set (0 : Int).toNat (IntKind.wrap .u8 x1729)).length : Int) from hA1795) 5 0 (.tmp 56) (.const (.int .u8 8)) (.int .u8 8) 8 rfl KR KR KR KR KR KR KR (.slice (some ⟨b1756, 0, none⟩) (((List.replicate (x1738.f1 : Int).toNat (0 : Int)).set (0 : Int).toNat (IntKind.wrap .u8 x1729)).set (1 : Int).toNat 8).length ((x1738.f1 : Int).toNat)) (by rw [List.length_set]) ?_; clear ha HW a; intro a W1798 HW ha
                  replace ha := ha.turn 6 (v := .slice (some ⟨b1756, 0, none⟩) (((List.replicate (x1738.f1 : Int).toNat (0 : Int)).set (0 : Int).toNat (IntKind.wrap .u8 x1729)).set (1 : Int).toNat 8).length ((x1738.f1 : Int).toNat)) KR (by rw [List.length_set])
                  replace ha := ha.turn 55 (v := .slice (some ⟨b1756, 0, none⟩) (((List.replicate (x1738.f1 : Int).toNat (0 : Int)).set (0 : Int).toNat (IntKind.wrap .u8 x1729)).set (1 : Int).toNat 8).length ((x1738.f1 : Int).toNat)) KR (by rw [List.length_set])
                  replace HW : Wd w W1798 [(b1720, .cells #[.int .i64 a0.f0, .int .i64 a0.f1, .int .i64 a0.f2, .bool a0.f3, .int .i64 a0.f4, .int .i64 a0.f5, .int .i64 a0.f6] 39 (0, 0)), (b1735, .cells #[.int .i64 x1738.f0, .int .i64 x1738.f1, .int .i64 x1738.f2.f0, .int .i64 x1738.f2.f1, .int .i64 x1738.f3.f0, .int .i64 x1738.f3.f1, .int .i64 x1738.f4.f0, .int .i64 x1738.f4.f1] 75 (0, 0))] [⟨5, 1, .slice (some ⟨b1756, 0, none⟩) (((List.replicate (x1738.f1 : Int).toNat (0 : Int)).set (0 : Int).toNat (IntKind.wrap .u8 x1729)).set (1 : Int).toNat 8).length ((x1738.f1 : Int).toNat), (((List.replicate (x1738.f1 : Int).toNat (0 : Int)).set (0 : Int).toNat (IntKind.wrap .u8 x1729)).set (1 : Int).toNat 8).length, encs (encI .u8) (((List.replicate (x1738.f1 : Int).toNat (0 : Int)).set (0 : Int).toNat (IntKind.wrap .u8 x1729)).set (1 : Int).toNat 8)⟩] := HW
                  refine endl ?_
                  refine blkN ?_
                  exact thenN ⟨((List.replicate (x1738.f1 : Int).toNat (0 : Int)).set (0 : Int).toNat (IntKind.wrap .u8 x1729)).set (1 : Int).toNat 8, h, ha.sub (subs_cons KR (subs_cons KR (subs_cons KR (subs_nil _)))), HW.pick [0, 1] [0] (by decide) (by decide) KR KR⟩
                · skip
                  replace h := ite_neg' h hp1794
                  refine condF ha KR KR (t := a0.f3) (bool_f hp1794) ?_
                  refine wp_skip ?_
                  refine blkN ?_
                  exact thenN ⟨(List.replicate (x1738.f1 : Int).toNat (0 : Int)).set (0 : Int).toNat (IntKind.wrap .u8 x1729), h, ha.sub (subs_cons KR (subs_cons KR (subs_cons KR (subs_nil _)))), HW.pick [0, 1] [0] (by decide) (by decide) KR KR⟩
              · skip
                replace h := ite_neg' h hp1791
                refine condF ha KR KR (t := x1789) (bool_f hp1791) ?_
                refine wp_seq_k (fun K1799 hK1800 => ?_)
                refine wp_region_lit ?_
                refine stepp ha 58 (.bool (x1729 == 147)) KR KR ?_; clear ha a; intro a ha
                refine stepp ha 57 (.bool (x1729 == 147)) KR KR ?_; clear ha a; intro a ha
                refine endl ?_
                refine thenN (hK1800 _ _ ?_); clear hK1800
                by_cases hp1801 : x1729 = 147
                · skip
                  replace h := ite_pos' h hp1801
                  refine condT ha KR KR (t := (x1729 == 147)) (ieq_t hp1801) ?_
                  refine wp_region_lit ?_
                  refine stepp ha 59 (.slice (some ⟨b1756, 0, none⟩) ((List.replicate (x1738.f1 : Int).toNat (0 : Int)).set (0 : Int).toNat (IntKind.wrap .u8 x1729)).length ((x1738.f1 : Int).toNat)) KR KR ?_; clear ha a; intro a ha
                  obtain ⟨hA1802, h_⟩ := asrt_some h; clear h; have h := h_; clear h_
                  refine stepio (encI .u8) ha HW 60 0 (sz := 1) (e := 5) (v := .slice (some ⟨b1756, 0, none⟩) ((List.replicate (x1738.f1 : Int).toNat (0 : Int)).set (0 : Int).toNat (IntKind.wrap .u8 x1729)).length ((x1738.f1 : Int).toNat)) (xs := (List.replicate (x1738.f1 : Int).toNat (0 : Int)).set (0 : Int).toNat (IntKind.wrap .u8 x1729)) KR 56 (.tmp 59) (.const (.int .i64 1)) .i64 1 rfl KR KR KR KR (by decide) (show (1 : Int) < (((List.replicate (x1738.f1 : Int).toNat (0 : Int)).set (0 : Int).toNat (IntKind.wrap .u8 x1729)).length : Int) from hA1802) KR ?_; clear ha a; intro b1803 a hb1804 ha
                  refine stepos (encI .u8) (0 : Int) ha HW 0 (sz := 1) (e := 5) (fun _ => rfl) (v := .slice (some ⟨b1756, 0, none⟩) ((List.replicate (x1738.f1 : Int).toNat (0 : Int)).set (0 : Int).toNat (IntKind.wrap .u8 x1729)).length ((x1738.f1 : Int).toNat)) (xs := (List.replicate (x1738.f1 : Int).toNat (0 : Int)).set (0 : Int).toNat (IntKind.wrap .u8 x1729)) KR hb1804 1 (by decide) (show (1 : Int) < (((List.replicate (x1738.f1 : Int).toNat (0 : Int)).set (0 : Int).toNat (IntKind.wrap .u8 x1729)).length : Int) from hA1802) 5 0 (.tmp 60) (.const (.int .u8 1)) (.int .u8 1) 1 rfl KR KR KR KR KR KR KR (.slice (some ⟨b1756, 0, none⟩) (((List.replicate (x1738.f1 : Int).toNat (0 : Int)).set (0 : Int).toNat (IntKind.wrap .u8 x1729)).set (1 : Int).toNat 1).length ((x1738.f1 : Int).toNat)) (by rw [List.length_set]) ?_; clear ha HW a; intro a W1805 HW ha
                  replace ha := ha.turn 6 (v := .slice (some ⟨b1756, 0, none⟩) (((List.replicate (x1738.f1 : Int).toNat (0 : Int)).set (0 : Int).toNat (IntKind.wrap .u8 x1729)).set (1 : Int).toNat 1).length ((x1738.f1 : Int).toNat)) KR (by rw [List.length_set])
                  replace ha := ha.turn 59 (v := .slice (some ⟨b1756, 0, none⟩) (((List.replicate (x1738.f1 : Int).toNat (0 : Int)).set (0 : Int).toNat (IntKind.wrap .u8 x1729)).set (1 : Int).toNat 1).length ((x1738.f1 : Int).toNat)) KR (by rw [List.length_set])
                  replace HW : Wd w W1805 [(b1720, .cells #[.int .i64 a0.f0, .int .i64 a0.f1, .int .i64 a0.f2, .bool a0.f3, .int .i64 a0.f4, .int .i64 a0.f5, .int .i64 a0.f6] 39 (0, 0)), (b1735, .cells #[.int .i64 x1738.f0, .int .i64 x1738.f1, .int .i64 x1738.f2.f0, .int .i64 x1738.f2.f1, .int .i64 x1738.f3.f0, .int .i64 x1738.f3.f1, .int .i64 x1738.f4.f0, .int .i64 x1738.f4.f1] 75 (0, 0))] [⟨5, 1, .slice (some ⟨b1756, 0, none⟩) (((List.replicate (x1738.f1 : Int).toNat (0 : Int)).set (0 : Int).toNat (IntKind.wrap .u8 x1729)).set (1 : Int).toNat 1).length ((x1738.f1 : Int).toNat), (((List.replicate (x1738.f1 : Int).toNat (0 : Int)).set (0 : Int).toNat (IntKind.wrap .u8 x1729)).set (1 : Int).toNat 1).length, encs (encI .u8) (((List.replicate (x1738.f1 : Int).toNat (0 : Int)).set (0 : Int).toNat (IntKind.wrap .u8 x1729)).set (1 : Int).toNat 1)⟩] := HW
                  refine endl ?_
                  refine blkN ?_
                  exact thenN ⟨((List.replicate (x1738.f1 : Int).toNat (0 : Int)).set (0 : Int).toNat (IntKind.wrap .u8 x1729)).set (1 : Int).toNat 1, h, ha.sub (subs_cons KR (subs_cons KR (subs_cons KR (subs_nil _)))), HW.pick [0, 1] [0] (by decide) (by decide) KR KR⟩
                · skip
                  replace h := ite_neg' h hp1801
                  refine condF ha KR KR (t := (x1729 == 147)) (ieq_f hp1801) ?_
                  refine wp_seq_k (fun K1806 hK1807 => ?_)
                  refine cutn (fun a W1813 => ∃ (x1812 : Bool), cdb_Build.j2 K a0 x1729 x1738 x1812 = some r ∧ Has 137 [(1, .pointer (some ⟨b1720, 0, none⟩)), (4, .int .i64 x1729), (5, .pointer (some ⟨b1735, 0, none⟩)), (6, .slice (some ⟨b1756, 0, none⟩) ((List.replicate (x1738.f1 : Int).toNat (0 : Int)).set (0 : Int).toNat (IntKind.wrap .u8 x1729)).length ((x1738.f1 : Int).toNat)), (61, .bool x1812)] a ∧ Wd w W1813 [(b1720, .cells #[.int .i64 a0.f0, .int .i64 a0.f1, .int .i64 a0.f2, .bool a0.f3, .int .i64 a0.f4, .int .i64 a0.f5, .int .i64 a0.f6] 39 (0, 0)), (b1735, .cells #[.int .i64 x1738.f0, .int .i64 x1738.f1, .int .i64 x1738.f2.f0, .int .i64 x1738.f2.f1, .int .i64 x1738.f3.f0, .int .i64 x1738.f3.f1, .int .i64 x1738.f4.f0, .int .i64 x1738.f4.f1] 75 (0, 0))] [⟨5, 1, .slice (some ⟨b1756, 0, none⟩) ((List.replicate (x1738.f1 : Int).toNat (0 : Int)).set (0 : Int).toNat (IntKind.wrap .u8 x1729)).length ((x1738.f1 : Int).toNat), ((List.replicate (x1738.f1 : Int).toNat (0 : Int)).set (0 : Int).toNat (IntKind.wrap .u8 x1729)).length, encs (encI .u8) ((List.replicate (x1738.f1 : Int).toNat (0 : Int)).set (0 : Int).toNat (IntKind.wrap .u8 x1729))⟩]) ?_ ?_
                  · skip
                    refine wp_seq_k (fun K1808 hK1809 => ?_)
                    refine wp_region_lit ?_
                    refine stepp ha 62 (.bool (x1729 == 94)) KR KR ?_; clear ha a; intro a ha
                    refine stepp ha 61 (.bool (x1729 == 94)) KR KR ?_; clear ha a; intro a ha
                    refine endl ?_
                    refine thenN (hK1809 _ _ ?_); clear hK1809
                    by_cases hp1810 : x1729 = 94
                    · skip
                      replace h := ite_pos' h hp1810
                      refine condT ha KR KR (t := (x1729 == 94)) (ieq_t hp1810) ?_
                      refine wp_skip ?_
                      exact thenN ⟨(x1729 == 94), h, ha.sub (subs_cons KR (subs_cons KR (subs_cons KR (subs_cons KR (subs_cons KR (subs_nil _)))))), HW.pick [0, 1] [0] (by decide) (by decide) KR KR⟩
                    · skip
                      replace h := ite_neg' h hp1810
                      refine condF ha KR KR (t := (x1729 == 94)) (ieq_f hp1810) ?_
                      refine wp_region_lit ?_
                      refine stepp ha 63 (.bool (x1729 == 95)) KR KR ?_; clear ha a; intro a ha
                      refine stepp ha 61 (.bool (x1729 == 95)) KR KR ?_; clear ha a; intro a ha
                      refine endl ?_
                      exact thenN ⟨(x1729 == 95), h, ha.sub (subs_cons KR (subs_cons KR (subs_cons KR (subs_cons KR (subs_cons KR (subs_nil _)))))), HW.pick [0, 1] [0] (by decide) (by decide) KR KR⟩
                  · skip
                    intro a W1813 hJ
                    obtain ⟨x1812, h, ha, HW⟩ := hJ
                    replace h : cdb_Build.j2 K a0 x1729 x1738 x1812 = some r := h
                    unfold cdb_Build.j2 at h
                    refine hK1807 _ _ ?_; clear hK1807
                    by_cases hp1814 : x1812 = true
                    · skip
                      replace h := ite_pos' h hp1814
                      refine condT ha KR KR (t := x1812) (hp1814) ?_
                      refine wp_seq_k (fun K1815 hK1816 => ?_)
                      refine wp_region_lit ?_
                      refine stepp ha 64 (.slice (some ⟨b1756, 0, none⟩) ((List.replicate (x1738.f1 : Int).toNat (0 : Int)).set (0 : Int).toNat (IntKind.wrap .u8 x1729)).length ((x1738.f1 : Int).toNat)) KR KR ?_; clear ha a; intro a ha
                      refine stepp ha 65 (.pointer (some ⟨b1720, 0, none⟩)) KR KR ?_; clear ha a; intro a ha
                      refine stepl ha 66 (HW.ca (i := 0) (b := b1720) (C := #[.int .i64 a0.f0, .int .i64 a0.f1, .int .i64 a0.f2, .bool a0.f3, .int .i64 a0.f4, .int .i64 a0.f5, .int .i64 a0.f6]) (T := 39) (fr := (0, 0)) KR) 3 0 (.tmp 65) (.int .i64 a0.f0) rfl KR KR KR ?_; clear ha a; intro a ha
                      refine stepp ha 67 (.int .u8 (IntKind.wrap .u8 a0.f0)) KR KR ?_; clear ha a; intro a ha
                      obtain ⟨hA1817, h_⟩ := asrt_some h; clear h; have h := h_; clear h_
                      refine stepio (encI .u8) ha HW 68 0 (sz := 1) (e := 5) (v := .slice (some ⟨b1756, 0, none⟩) ((List.replicate (x1738.f1 : Int).toNat (0 : Int)).set (0 : Int).toNat (IntKind.wrap .u8 x1729)).length ((x1738.f1 : Int).toNat)) (xs := (List.replicate (x1738.f1 : Int).toNat (0 : Int)).set (0 : Int).toNat (IntKind.wrap .u8 x1729)) KR 56 (.tmp 64) (.const (.int .i64 1)) .i64 1 rfl KR KR KR KR (by decide) (show (1 : Int) < (((List.replicate (x1738.f1 : Int).toNat (0 : Int)).set (0 : Int).toNat (IntKind.wrap .u8 x1729)).length : Int) from hA1817) KR ?_; clear ha a; intro b1818 a hb1819 ha
                      refine stepos (encI .u8) (0 : Int) ha HW 0 (sz := 1) (e := 5) (fun _ => rfl) (v := .slice (some ⟨b1756, 0, none⟩) ((List.replicate (x1738.f1 : Int).toNat (0 : Int)).set (0 : Int).toNat (IntKind.wrap .u8 x1729)).length ((x1738.f1 : Int).toNat)) (xs := (List.replicate (x1738.f1 : Int).toNat (0 : Int)).set (0 : Int).toNat (IntKind.wrap .u8 x1729)) KR hb1819 1 (by decide) (show (1 : Int) < (((List.replicate (x1738.f1 : Int).toNat (0 : Int)).set (0 : Int).toNat (IntKind.wrap .u8 x1729)).length : Int) from hA1817) 5 0 (.tmp 68) (.tmp 67) (.int .u8 (IntKind.wrap .u8 a0.f0)) (IntKind.wrap .u8 a0.f0) rfl KR KR KR KR KR KR KR (.slice (some ⟨b1756, 0, none⟩) (((List.replicate (x1738.f1 : Int).toNat (0 : Int)).set (0 : Int).toNat (IntKind.wrap .u8 x1729)).set (1 : Int).toNat (IntKind.wrap .u8 a0.f0)).length ((x1738.f1 : Int).toNat)) (by rw [List.length_set]) ?_; clear ha HW a; intro a W1820 HW ha
                      replace ha := ha.turn 6 (v := .slice (some ⟨b1756, 0, none⟩) (((List.replicate (x1738.f1 : Int).toNat (0 : Int)).set (0 : Int).toNat (IntKind.wrap .u8 x1729)).set (1 : Int).toNat (IntKind.wrap .u8 a0.f0)).length ((x1738.f1 : Int).toNat)) KR (by rw [List.length_set])
                      replace ha := ha.turn 64 (v := .slice (some ⟨b1756, 0, none⟩) (((List.replicate (x1738.f1 : Int).toNat (0 : Int)).set (0 : Int).toNat (IntKind.wrap .u8 x1729)).set (1 : Int).toNat (IntKind.wrap .u8 a0.f0)).length ((x1738.f1 : Int).toNat)) KR (by rw [List.length_set])
                      replace HW : Wd w W1820 [(b1720, .cells #[.int .i64 a0.f0, .int .i64 a0.f1, .int .i64 a0.f2, .bool a0.f3, .int .i64 a0.f4, .int .i64 a0.f5, .int .i64 a0.f6] 39 (0, 0)), (b1735, .cells #[.int .i64 x1738.f0, .int .i64 x1738.f1, .int .i64 x1738.f2.f0, .int .i64 x1738.f2.f1, .int .i64 x1738.f3.f0, .int .i64 x1738.f3.f1, .int .i64 x1738.f4.f0, .int .i64 x1738.f4.f1] 75 (0, 0))] [⟨5, 1, .slice (some ⟨b1756, 0, none⟩) (((List.replicate (x1738.f1 : Int).toNat (0 : Int)).set (0 : Int).toNat (IntKind.wrap .u8 x1729)).set (1 : Int).toNat (IntKind.wrap .u8 a0.f0)).length ((x1738.f1 : Int).toNat), (((List.replicate (x1738.f1 : Int).toNat (0 : Int)).set (0 : Int).toNat (IntKind.wrap .u8 x1729)).set (1 : Int).toNat (IntKind.wrap .u8 a0.f0)).length, encs (encI .u8) (((List.replicate (x1738.f1 : Int).toNat (0 : Int)).set (0 : Int).toNat (IntKind.wrap .u8 x1729)).set (1 : Int).toNat (IntKind.wrap .u8 a0.f0))⟩] := HW
                      refine endl ?_
                      refine thenN (hK1816 _ _ ?_); clear hK1816
                      refine wp_seq_k (fun K1821 hK1822 => ?_)
                      refine wp_region_lit ?_
                      refine stepp ha 69 (.int .i64 x1729) KR KR ?_; clear ha a; intro a ha
                      refine stepp ha 70 (.bool (x1729 == 95)) KR KR ?_; clear ha a; intro a ha
                      refine endl ?_
                      refine thenN (hK1822 _ _ ?_); clear hK1822
                      by_cases hp1823 : x1729 = 95
                      · skip
                        replace h := ite_pos' h hp1823
                        refine condT ha KR KR (t := (x1729 == 95)) (ieq_t hp1823) ?_
                        refine wp_region_lit ?_
                        refine stepp ha 71 (.slice (some ⟨b1756, 0, none⟩) (((List.replicate (x1738.f1 : Int).toNat (0 : Int)).set (0 : Int).toNat (IntKind.wrap .u8 x1729)).set (1 : Int).toNat (IntKind.wrap .u8 a0.f0)).length ((x1738.f1 : Int).toNat)) KR KR ?_; clear ha a; intro a ha
                        refine stepp ha 72 (.pointer (some ⟨b1720, 6, none⟩)) KR KR ?_; clear ha a; intro a ha
                        refine stepl ha 73 (HW.ca (i := 0) (b := b1720) (C := #[.int .i64 a0.f0, .int .i64 a0.f1, .int .i64 a0.f2, .bool a0.f3, .int .i64 a0.f4, .int .i64 a0.f5, .int .i64 a0.f6]) (T := 39) (fr := (0, 0)) KR) 3 6 (.tmp 72) (.int .i64 a0.f6) rfl KR KR KR ?_; clear ha a; intro a ha
                        obtain ⟨t1824, ht1825, h_⟩ := bind_some' h; clear h; have h := h_; clear h_
                        refine stepc ha 74 KR KR (cdb_Number.calls a0.f6 t1824 _ (HW.ca0 hG0) ht1825) ?_; clear ha a; rintro e W1826 ⟨rfl, HX1827⟩
                        refine ⟨_, rfl, ?_⟩; intro a ha; replace HW := HW.callw HX1827; clear HX1827
                        refine stepp ha 75 (.int .u8 (IntKind.wrap .u8 t1824)) KR KR ?_; clear ha a; intro a ha
                        obtain ⟨hA1828, h_⟩ := asrt_some h; clear h; have h := h_; clear h_
                        refine stepio (encI .u8) ha HW 76 0 (sz := 1) (e := 5) (v := .slice (some ⟨b1756, 0, none⟩) (((List.replicate (x1738.f1 : Int).toNat (0 : Int)).set (0 : Int).toNat (IntKind.wrap .u8 x1729)).set (1 : Int).toNat (IntKind.wrap .u8 a0.f0)).length ((x1738.f1 : Int).toNat)) (xs := ((List.replicate (x1738.f1 : Int).toNat (0 : Int)).set (0 : Int).toNat (IntKind.wrap .u8 x1729)).set (1 : Int).toNat (IntKind.wrap .u8 a0.f0)) KR 56 (.tmp 71) (.const (.int .i64 2)) .i64 2 rfl KR KR KR KR (by decide) (show (2 : Int) < ((((List.replicate (x1738.f1 : Int).toNat (0 : Int)).set (0 : Int).toNat (IntKind.wrap .u8 x1729)).set (1 : Int).toNat (IntKind.wrap .u8 a0.f0)).length : Int) from hA1828) KR ?_; clear ha a; intro b1829 a hb1830 ha
                        refine stepos (encI .u8) (0 : Int) ha HW 0 (sz := 1) (e := 5) (fun _ => rfl) (v := .slice (some ⟨b1756, 0, none⟩) (((List.replicate (x1738.f1 : Int).toNat (0 : Int)).set (0 : Int).toNat (IntKind.wrap .u8 x1729)).set (1 : Int).toNat (IntKind.wrap .u8 a0.f0)).length ((x1738.f1 : Int).toNat)) (xs := ((List.replicate (x1738.f1 : Int).toNat (0 : Int)).set (0 : Int).toNat (IntKind.wrap .u8 x1729)).set (1 : Int).toNat (IntKind.wrap .u8 a0.f0)) KR hb1830 2 (by decide) (show (2 : Int) < ((((List.replicate (x1738.f1 : Int).toNat (0 : Int)).set (0 : Int).toNat (IntKind.wrap .u8 x1729)).set (1 : Int).toNat (IntKind.wrap .u8 a0.f0)).length : Int) from hA1828) 5 0 (.tmp 76) (.tmp 75) (.int .u8 (IntKind.wrap .u8 t1824)) (IntKind.wrap .u8 t1824) rfl KR KR KR KR KR KR KR (.slice (some ⟨b1756, 0, none⟩) ((((List.replicate (x1738.f1 : Int).toNat (0 : Int)).set (0 : Int).toNat (IntKind.wrap .u8 x1729)).set (1 : Int).toNat (IntKind.wrap .u8 a0.f0)).set (2 : Int).toNat (IntKind.wrap .u8 t1824)).length ((x1738.f1 : Int).toNat)) (by rw [List.length_set]) ?_; clear ha HW a; intro a W1831 HW ha
                        replace ha := ha.turn 6 (v := .slice (some ⟨b1756, 0, none⟩) ((((List.replicate (x1738.f1 : Int).toNat (0 : Int)).set (0 : Int).toNat (IntKind.wrap .u8 x1729)).set (1 : Int).toNat (IntKind.wrap .u8 a0.f0)).set (2 : Int).toNat (IntKind.wrap .u8 t1824)).length ((x1738.f1 : Int).toNat)) KR (by rw [List.length_set])
                        replace ha := ha.turn 64 (v := .slice (some ⟨b1756, 0, none⟩) ((((List.replicate (x1738.f1 : Int).toNat (0 : Int)).set (0 : Int).toNat (IntKind.wrap .u8 x1729)).set (1 : Int).toNat (IntKind.wrap .u8 a0.f0)).set (2 : Int).toNat (IntKind.wrap .u8 t1824)).length ((x1738.f1 : Int).toNat)) KR (by rw [List.length_set])
                        replace ha := ha.turn 71 (v := .slice (some ⟨b1756, 0, none⟩) ((((List.replicate (x1738.f1 : Int).toNat (0 : Int)).set (0 : Int).toNat (IntKind.wrap .u8 x1729)).set (1 : Int).toNat (IntKind.wrap .u8 a0.f0)).set (2 : Int).toNat (IntKind.wrap .u8 t1824)).length ((x1738.f1 : Int).toNat)) KR (by rw [List.length_set])
                        replace HW : Wd w W1831 [(b1720, .cells #[.int .i64 a0.f0, .int .i64 a0.f1, .int .i64 a0.f2, .bool a0.f3, .int .i64 a0.f4, .int .i64 a0.f5, .int .i64 a0.f6] 39 (0, 0)), (b1735, .cells #[.int .i64 x1738.f0, .int .i64 x1738.f1, .int .i64 x1738.f2.f0, .int .i64 x1738.f2.f1, .int .i64 x1738.f3.f0, .int .i64 x1738.f3.f1, .int .i64 x1738.f4.f0, .int .i64 x1738.f4.f1] 75 (0, 0))] [⟨5, 1, .slice (some ⟨b1756, 0, none⟩) ((((List.replicate (x1738.f1 : Int).toNat (0 : Int)).set (0 : Int).toNat (IntKind.wrap .u8 x1729)).set (1 : Int).toNat (IntKind.wrap .u8 a0.f0)).set (2 : Int).toNat (IntKind.wrap .u8 t1824)).length ((x1738.f1 : Int).toNat), ((((List.replicate (x1738.f1 : Int).toNat (0 : Int)).set (0 : Int).toNat (IntKind.wrap .u8 x1729)).set (1 : Int).toNat (IntKind.wrap .u8 a0.f0)).set (2 : Int).toNat (IntKind.wrap .u8 t1824)).length, encs (encI .u8) ((((List.replicate (x1738.f1 : Int).toNat (0 : Int)).set (0 : Int).toNat (IntKind.wrap .u8 x1729)).set (1 : Int).toNat (IntKind.wrap .u8 a0.f0)).set (2 : Int).toNat (IntKind.wrap .u8 t1824))⟩] := HW
                        refine endl ?_
                        refine blkN ?_
                        exact thenN ⟨(((List.replicate (x1738.f1 : Int).toNat (0 : Int)).set (0 : Int).toNat (IntKind.wrap .u8 x1729)).set (1 : Int).toNat (IntKind.wrap .u8 a0.f0)).set (2 : Int).toNat (IntKind.wrap .u8 t1824), h, ha.sub (subs_cons KR (subs_cons KR (subs_cons KR (subs_nil _)))), HW.pick [0, 1] [0] (by decide) (by decide) KR KR⟩
                      · skip
                        replace h := ite_neg' h hp1823
                        refine condF ha KR KR (t := (x1729 == 95)) (ieq_f hp1823) ?_
                        refine wp_skip ?_
                        refine blkN ?_
                        exact thenN ⟨((List.replicate (x1738.f1 : Int).toNat (0 : Int)).set (0 : Int).toNat (IntKind.wrap .u8 x1729)).set (1 : Int).toNat (IntKind.wrap .u8 a0.f0), h, ha.sub (subs_cons KR (subs_cons KR (subs_cons KR (subs_nil _)))), HW.pick [0, 1] [0] (by decide) (by decide) KR KR⟩
                    · skip
                      replace h := ite_neg' h hp1814
                      refine condF ha KR KR (t := x1812) (bool_f hp1814) ?_
                      refine wp_skip ?_
                      refine blkN ?_
                      exact thenN ⟨(List.replicate (x1738.f1 : Int).toNat (0 : Int)).set (0 : Int).toNat (IntKind.wrap .u8 x1729), h, ha.sub (subs_cons KR (subs_cons KR (subs_cons KR (subs_nil _)))), HW.pick [0, 1] [0] (by decide) (by decide) KR KR⟩
        · skip
          intro a W1834 hJ
          obtain ⟨x1832, h, ha, HW⟩ := hJ
          replace h : cdb_Build.j3 K a0 x1738 x1832 = some r := h
          unfold cdb_Build.j3 at h
          refine hK1766 _ _ ?_; clear hK1766
          refine wp_seq_k (fun K1835 hK1836 => ?_)
          refine wp_region_lit ?_
          refine stepp ha 77 (.slice (some ⟨b1756, 0, none⟩) x1832.length ((x1738.f1 : Int).toNat)) KR KR ?_; clear ha a; intro a ha
          refine stepbt ha 78 56 9 5 (.tmp 77) (v := .slice (some ⟨b1756, 0, none⟩) x1832.length ((x1738.f1 : Int).toNat)) (xs := x1832) (HW.rdo (i := 0) (q := ⟨5, 1, .slice (some ⟨b1756, 0, none⟩) x1832.length ((x1738.f1 : Int).toNat), x1832.length, encs (encI .u8) x1832⟩) KR) rfl KR KR KR KR KR ?_; clear ha a; intro a ha
          refine stepp ha 7 (.string (strOfNums x1832)) KR KR ?_; clear ha a; intro a ha
          refine endl ?_
          refine thenN (hK1836 _ _ ?_); clear hK1836
          refine wp_seq_k (fun K1837 hK1838 => ?_)
          refine wp_seq_k (fun K1839 hK1840 => ?_)
          refine regionG 15 KR KR ha HW [.fix (.pointer (some ⟨b1735, 0, none⟩)), .fix (.pointer (some ⟨b1735, 0, none⟩)), .fix (.pointer (some ⟨b1735, 2, none⟩)), .fix (.agg #[.int .i64 x1738.f2.f0, .int .i64 x1738.f2.f1]), .fix (.pointer (some ⟨b1735, 0, none⟩)), .fix (.pointer (some ⟨b1735, 0, none⟩)), .fix (.pointer (some ⟨b1735, 4, none⟩)), .fix (.agg #[.int .i64 x1738.f3.f0, .int .i64 x1738.f3.f1]), .fix (.pointer (some ⟨b1735, 0, none⟩)), .fix (.pointer (some ⟨b1735, 0, none⟩)), .fix (.pointer (some ⟨b1735, 6, none⟩)), .fix (.agg #[.int .i64 x1738.f4.f0, .int .i64 x1738.f4.f1]), .lit w 73 ([(⟨x1738.f2.f0, x1738.f2.f1⟩ : T_cdb_span), (⟨x1738.f3.f0, x1738.f3.f1⟩ : T_cdb_span), (⟨x1738.f4.f0, x1738.f4.f1⟩ : T_cdb_span)] : List T_cdb_span).length #[.int .i64 x1738.f2.f0, .int .i64 x1738.f2.f1, .int .i64 x1738.f3.f0, .int .i64 x1738.f3.f1, .int .i64 x1738.f4.f0, .int .i64 x1738.f4.f1] [(b1720, .cells #[.int .i64 a0.f0, .int .i64 a0.f1, .int .i64 a0.f2, .bool a0.f3, .int .i64 a0.f4, .int .i64 a0.f5, .int .i64 a0.f6] 39 (0, 0)), (b1735, .cells #[.int .i64 x1738.f0, .int .i64 x1738.f1, .int .i64 x1738.f2.f0, .int .i64 x1738.f2.f1, .int .i64 x1738.f3.f0, .int .i64 x1738.f3.f1, .int .i64 x1738.f4.f0, .int .i64 x1738.f4.f1] 75 (0, 0))] [⟨5, 1, .slice (some ⟨b1756, 0, none⟩) x1832.length ((x1738.f1 : Int).toNat), x1832.length, encs (encI .u8) x1832⟩], .fix (.int .i64 (([(⟨x1738.f2.f0, x1738.f2.f1⟩ : T_cdb_span), (⟨x1738.f3.f0, x1738.f3.f1⟩ : T_cdb_span), (⟨x1738.f4.f0, x1738.f4.f1⟩ : T_cdb_span)] : List T_cdb_span).length : Int)), .fix (.int .i64 0)] ?_ ?_
          · skip
            refine ⟨?_, ?_, ?_, ?_, ?_, ?_, ?_, ?_, ?_, ?_, ?_, ?_, ?_, ?_, ?_, trivial⟩
            · skip
              intro a wr hn hd HW hs; have ha := hasNil hn hd
              have ha := ha.add (seeE hs 5 (.pointer (some ⟨b1735, 0, none⟩)) KR KR)
              refine yStep ha 79 KR ?_; intro l_ ha HK
              refine stepp ha 79 (.pointer (some ⟨b1735, 0, none⟩)) KR KR ?_; intro ax hax; exact HK _ _ _ hax rfl (Below.refl _ _)
            · skip
              intro a wr hn hd HW hs; have ha := hasNil hn hd
              have ha := ha.add (seeF hs 79 0 (.pointer (some ⟨b1735, 0, none⟩)) KR KR)
              refine yStep ha 80 KR ?_; intro l_ ha HK
              refine stepp ha 80 (.pointer (some ⟨b1735, 0, none⟩)) KR KR ?_; intro ax hax; exact HK _ _ _ hax rfl (Below.refl _ _)
            · skip
              intro a wr hn hd HW hs; have ha := hasNil hn hd
              have ha := ha.add (seeF hs 80 1 (.pointer (some ⟨b1735, 0, none⟩)) KR KR)
              refine yStep ha 81 KR ?_; intro l_ ha HK
              refine stepp ha 81 (.pointer (some ⟨b1735, 2, none⟩)) KR KR ?_; intro ax hax; exact HK _ _ _ hax rfl (Below.refl _ _)
            · skip
              intro a wr hn hd HW hs; have ha := hasNil hn hd
              have ha := ha.add (seeF hs 81 2 (.pointer (some ⟨b1735, 2, none⟩)) KR KR)
              refine yStep ha 82 KR ?_; intro l_ ha HK
              refine stepl ha 82 (HW.ca (i := 1) (b := b1735) (C := #[.int .i64 x1738.f0, .int .i64 x1738.f1, .int .i64 x1738.f2.f0, .int .i64 x1738.f2.f1, .int .i64 x1738.f3.f0, .int .i64 x1738.f3.f1, .int .i64 x1738.f4.f0, .int .i64 x1738.f4.f1]) (T := 75) (fr := (0, 0)) KR) 73 2 (.tmp 81) (.agg #[.int .i64 x1738.f2.f0, .int .i64 x1738.f2.f1]) rfl KR KR KR ?_; intro ax hax; exact HK _ _ _ hax rfl (Below.refl _ _)
            · skip
              intro a wr hn hd HW hs; have ha := hasNil hn hd
              have ha := ha.add (seeE hs 5 (.pointer (some ⟨b1735, 0, none⟩)) KR KR)
              refine yStep ha 83 KR ?_; intro l_ ha HK
              refine stepp ha 83 (.pointer (some ⟨b1735, 0, none⟩)) KR KR ?_; intro ax hax; exact HK _ _ _ hax rfl (Below.refl _ _)
            · skip
              intro a wr hn hd HW hs; have ha := hasNil hn hd
              have ha := ha.add (seeF hs 83 4 (.pointer (some ⟨b1735, 0, none⟩)) KR KR)
              refine yStep ha 84 KR ?_; intro l_ ha HK
              refine stepp ha 84 (.pointer (some ⟨b1735, 0, none⟩)) KR KR ?_; intro ax hax; exact HK _ _ _ hax rfl (Below.refl _ _)
            · skip
              intro a wr hn hd HW hs; have ha := hasNil hn hd
              have ha := ha.add (seeF hs 84 5 (.pointer (some ⟨b1735, 0, none⟩)) KR KR)
              refine yStep ha 85 KR ?_; intro l_ ha HK
              refine stepp ha 85 (.pointer (some ⟨b1735, 4, none⟩)) KR KR ?_; intro ax hax; exact HK _ _ _ hax rfl (Below.refl _ _)
            · skip
              intro a wr hn hd HW hs; have ha := hasNil hn hd
              have ha := ha.add (seeF hs 85 6 (.pointer (some ⟨b1735, 4, none⟩)) KR KR)
              refine yStep ha 86 KR ?_; intro l_ ha HK
              refine stepl ha 86 (HW.ca (i := 1) (b := b1735) (C := #[.int .i64 x1738.f0, .int .i64 x1738.f1, .int .i64 x1738.f2.f0, .int .i64 x1738.f2.f1, .int .i64 x1738.f3.f0, .int .i64 x1738.f3.f1, .int .i64 x1738.f4.f0, .int .i64 x1738.f4.f1]) (T := 75) (fr := (0, 0)) KR) 73 4 (.tmp 85) (.agg #[.int .i64 x1738.f3.f0, .int .i64 x1738.f3.f1]) rfl KR KR KR ?_; intro ax hax; exact HK _ _ _ hax rfl (Below.refl _ _)
            · skip
              intro a wr hn hd HW hs; have ha := hasNil hn hd
              have ha := ha.add (seeE hs 5 (.pointer (some ⟨b1735, 0, none⟩)) KR KR)
              refine yStep ha 87 KR ?_; intro l_ ha HK
              refine stepp ha 87 (.pointer (some ⟨b1735, 0, none⟩)) KR KR ?_; intro ax hax; exact HK _ _ _ hax rfl (Below.refl _ _)
            · skip
              intro a wr hn hd HW hs; have ha := hasNil hn hd
              have ha := ha.add (seeF hs 87 8 (.pointer (some ⟨b1735, 0, none⟩)) KR KR)
              refine yStep ha 88 KR ?_; intro l_ ha HK
              refine stepp ha 88 (.pointer (some ⟨b1735, 0, none⟩)) KR KR ?_; intro ax hax; exact HK _ _ _ hax rfl (Below.refl _ _)
            · skip
              intro a wr hn hd HW hs; have ha := hasNil hn hd
              have ha := ha.add (seeF hs 88 9 (.pointer (some ⟨b1735, 0, none⟩)) KR KR)
              refine yStep ha 89 KR ?_; intro l_ ha HK
              refine stepp ha 89 (.pointer (some ⟨b1735, 6, none⟩)) KR KR ?_; intro ax hax; exact HK _ _ _ hax rfl (Below.refl _ _)
            · skip
              intro a wr hn hd HW hs; have ha := hasNil hn hd
              have ha := ha.add (seeF hs 89 10 (.pointer (some ⟨b1735, 6, none⟩)) KR KR)
              refine yStep ha 90 KR ?_; intro l_ ha HK
              refine stepl ha 90 (HW.ca (i := 1) (b := b1735) (C := #[.int .i64 x1738.f0, .int .i64 x1738.f1, .int .i64 x1738.f2.f0, .int .i64 x1738.f2.f1, .int .i64 x1738.f3.f0, .int .i64 x1738.f3.f1, .int .i64 x1738.f4.f0, .int .i64 x1738.f4.f1]) (T := 75) (fr := (0, 0)) KR) 73 6 (.tmp 89) (.agg #[.int .i64 x1738.f4.f0, .int .i64 x1738.f4.f1]) rfl KR KR KR ?_; intro ax hax; exact HK _ _ _ hax rfl (Below.refl _ _)
            · skip
              intro a wr hn hd HW hs; have ha := hasNil hn hd
              have ha := ha.add (seeF hs 82 3 (.agg #[.int .i64 x1738.f2.f0, .int .i64 x1738.f2.f1]) KR KR)
              have ha := ha.add (seeF hs 86 7 (.agg #[.int .i64 x1738.f3.f0, .int .i64 x1738.f3.f1]) KR KR)
              have ha := ha.add (seeF hs 90 11 (.agg #[.int .i64 x1738.f4.f0, .int .i64 x1738.f4.f1]) KR KR)
              refine yStep ha 91 KR ?_; intro l_ ha HK
              refine stepbk ha (Wd.refl wr) 91 73 3 #[.int .i64 x1738.f2.f0, .int .i64 x1738.f2.f1, .int .i64 x1738.f3.f0, .int .i64 x1738.f3.f1, .int .i64 x1738.f4.f0, .int .i64 x1738.f4.f1] KR KR ?_; intro b1841 ax W1842 HV hax
              exact HK _ _ _ hax ⟨b1841, rfl, HW.callw HV⟩ HV.below
            · skip
              intro a wr hn hd HW hs; have ha := hasNil hn hd
              obtain ⟨b1841, he_, hR1844⟩ := seeL (enc := T_cdb_span.enc) hs 91 12 2 73 #[.int .i64 x1738.f2.f0, .int .i64 x1738.f2.f1, .int .i64 x1738.f3.f0, .int .i64 x1738.f3.f1, .int .i64 x1738.f4.f0, .int .i64 x1738.f4.f1] ([(⟨x1738.f2.f0, x1738.f2.f1⟩ : T_cdb_span), (⟨x1738.f3.f0, x1738.f3.f1⟩ : T_cdb_span), (⟨x1738.f4.f0, x1738.f4.f1⟩ : T_cdb_span)] : List T_cdb_span) (w1 := w) (bs1 := [(b1720, .cells #[.int .i64 a0.f0, .int .i64 a0.f1, .int .i64 a0.f2, .bool a0.f3, .int .i64 a0.f4, .int .i64 a0.f5, .int .i64 a0.f6] 39 (0, 0)), (b1735, .cells #[.int .i64 x1738.f0, .int .i64 x1738.f1, .int .i64 x1738.f2.f0, .int .i64 x1738.f2.f1, .int .i64 x1738.f3.f0, .int .i64 x1738.f3.f1, .int .i64 x1738.f4.f0, .int .i64 x1738.f4.f1] 75 (0, 0))]) (os1 := [⟨5, 1, .slice (some ⟨b1756, 0, none⟩) x1832.length ((x1738.f1 : Int).toNat), x1832.length, encs (encI .u8) x1832⟩]) KR KR (fun _ => rfl) rfl; have ha := ha.add he_
              refine yStep ha 92 KR ?_; intro l_ ha HK
              refine stepp ha 92 (.int .i64 (([(⟨x1738.f2.f0, x1738.f2.f1⟩ : T_cdb_span), (⟨x1738.f3.f0, x1738.f3.f1⟩ : T_cdb_span), (⟨x1738.f4.f0, x1738.f4.f1⟩ : T_cdb_span)] : List T_cdb_span).length : Int)) KR KR ?_; intro ax hax; exact HK _ _ _ hax rfl (Below.refl _ _)
            · skip
              intro a wr hn hd HW hs; have ha := hasNil hn hd
              refine yStep ha 93 KR ?_; intro l_ ha HK
              refine stepp ha 93 (.int .i64 0) KR KR ?_; intro ax hax; exact HK _ _ _ hax rfl (Below.refl _ _)
          · skip
            intro a W1845 ha HW he hf
            replace ha := ha.add (he 1 (.pointer (some ⟨b1720, 0, none⟩)) KR KR)
            replace ha := ha.add (he 7 (.string (strOfNums x1832)) KR KR)
            obtain ⟨b1846, he_, HW⟩ := gotL (w1 := w) (m := 15) (j := 12) (d := 91) (e := 73) (k := ([(⟨x1738.f2.f0, x1738.f2.f1⟩ : T_cdb_span), (⟨x1738.f3.f0, x1738.f3.f1⟩ : T_cdb_span), (⟨x1738.f4.f0, x1738.f4.f1⟩ : T_cdb_span)] : List T_cdb_span).length) (C := #[.int .i64 x1738.f2.f0, .int .i64 x1738.f2.f1, .int .i64 x1738.f3.f0, .int .i64 x1738.f3.f1, .int .i64 x1738.f4.f0, .int .i64 x1738.f4.f1]) (bs1 := [(b1720, .cells #[.int .i64 a0.f0, .int .i64 a0.f1, .int .i64 a0.f2, .bool a0.f3, .int .i64 a0.f4, .int .i64 a0.f5, .int .i64 a0.f6] 39 (0, 0)), (b1735, .cells #[.int .i64 x1738.f0, .int .i64 x1738.f1, .int .i64 x1738.f2.f0, .int .i64 x1738.f2.f1, .int .i64 x1738.f3.f0, .int .i64 x1738.f3.f1, .int .i64 x1738.f4.f0, .int .i64 x1738.f4.f1] 75 (0, 0))]) (os1 := [⟨5, 1, .slice (some ⟨b1756, 0, none⟩) x1832.length ((x1738.f1 : Int).toNat), x1832.length, encs (encI .u8) x1832⟩]) hf KR KR KR; replace ha := ha.add he_; clear he_
            replace ha := ha.add (gotF (m := 15) (j := 13) (d := 92) (v := .int .i64 (([(⟨x1738.f2.f0, x1738.f2.f1⟩ : T_cdb_span), (⟨x1738.f3.f0, x1738.f3.f1⟩ : T_cdb_span), (⟨x1738.f4.f0, x1738.f4.f1⟩ : T_cdb_span)] : List T_cdb_span).length : Int)) hf KR KR KR)
            replace ha := ha.add (gotF (m := 15) (j := 14) (d := 93) (v := .int .i64 0) hf KR KR KR)
            clear he hf
            refine endl ?_
            refine thenN (hK1840 _ _ ?_); clear hK1840
            refine wp_block ?_
            refine loopk (fun k => fun a W1928 => ∃ (x1926 : ByteArray), ∃ (x1927 : Int), cdb_Build.l0 K a0 x1738 k x1926 x1927 = some r ∧ Has 137 [(1, .pointer (some ⟨b1720, 0, none⟩)), (7, .string x1926), (91, .slice (some ⟨b1846, 0, none⟩) ([(⟨x1738.f2.f0, x1738.f2.f1⟩ : T_cdb_span), (⟨x1738.f3.f0, x1738.f3.f1⟩ : T_cdb_span), (⟨x1738.f4.f0, x1738.f4.f1⟩ : T_cdb_span)] : List T_cdb_span).length (([(⟨x1738.f2.f0, x1738.f2.f1⟩ : T_cdb_span), (⟨x1738.f3.f0, x1738.f3.f1⟩ : T_cdb_span), (⟨x1738.f4.f0, x1738.f4.f1⟩ : T_cdb_span)] : List T_cdb_span).length)), (92, .int .i64 (([(⟨x1738.f2.f0, x1738.f2.f1⟩ : T_cdb_span), (⟨x1738.f3.f0, x1738.f3.f1⟩ : T_cdb_span), (⟨x1738.f4.f0, x1738.f4.f1⟩ : T_cdb_span)] : List T_cdb_span).length : Int)), (93, .int .i64 x1927)] a ∧ Wd w W1928 [(b1846, .cells #[.int .i64 x1738.f2.f0, .int .i64 x1738.f2.f1, .int .i64 x1738.f3.f0, .int .i64 x1738.f3.f1, .int .i64 x1738.f4.f0, .int .i64 x1738.f4.f1] 73 (0, 0)), (b1720, .cells #[.int .i64 a0.f0, .int .i64 a0.f1, .int .i64 a0.f2, .bool a0.f3, .int .i64 a0.f4, .int .i64 a0.f5, .int .i64 a0.f6] 39 (0, 0))] []) K ?_ ?_
            · skip
              exact ⟨strOfNums x1832, 0, h, ha.sub (subs_cons KR (subs_cons KR (subs_cons KR (subs_cons KR (subs_cons KR (subs_nil _)))))), HW.pick [0, 1] [] (by decide) (by decide) KR KR⟩
            · skip
              intro k a W1928 hI
              obtain ⟨x1926, x1927, h, ha, HW⟩ := hI
              cases k with
              | zero => exact (none_some (show none = some r from h)).elim
              | succ k1929 =>
                replace h : cdb_Build.b0 K a0 x1738 (cdb_Build.l0 K a0 x1738 k1929) x1926 x1927 = some r := h
                obtain ⟨again1925, hag1930⟩ : ∃ g_, g_ = cdb_Build.l0 K a0 x1738 k1929 := ⟨_, rfl⟩
                rw [← hag1930] at h
                unfold cdb_Build.b0 at h
                refine wp_seq_k (fun K1931 hK1932 => ?_)
                refine wp_region_lit ?_
                refine stepp ha 94 (.bool (decide (x1927 < (([(⟨x1738.f2.f0, x1738.f2.f1⟩ : T_cdb_span), (⟨x1738.f3.f0, x1738.f3.f1⟩ : T_cdb_span), (⟨x1738.f4.f0, x1738.f4.f1⟩ : T_cdb_span)] : List T_cdb_span).length : Int)))) KR KR ?_; clear ha a; intro a ha
                refine endl ?_
                refine thenN (hK1932 _ _ ?_); clear hK1932
                refine wp_seq_k (fun K1933 hK1934 => ?_)
                by_cases hp1935 : x1927 < (([(⟨x1738.f2.f0, x1738.f2.f1⟩ : T_cdb_span), (⟨x1738.f3.f0, x1738.f3.f1⟩ : T_cdb_span), (⟨x1738.f4.f0, x1738.f4.f1⟩ : T_cdb_span)] : List T_cdb_span).length : Int)
                · skip
                  replace h := ite_pos' h hp1935
                  refine condT ha KR KR (t := decide (x1927 < (([(⟨x1738.f2.f0, x1738.f2.f1⟩ : T_cdb_span), (⟨x1738.f3.f0, x1738.f3.f1⟩ : T_cdb_span), (⟨x1738.f4.f0, x1738.f4.f1⟩ : T_cdb_span)] : List T_cdb_span).length : Int))) (decide_eq_true hp1935) ?_
                  refine wp_skip ?_
                  refine thenN (hK1934 _ _ ?_); clear hK1934
                  refine wp_seq_k (fun K1936 hK1937 => ?_)
                  refine wp_block ?_
                  refine wp_seq_k (fun K1938 hK1939 => ?_)
                  refine wp_region_lit ?_
                  refine stepp ha 95 (.int .i64 x1927) KR KR ?_; clear ha a; intro a ha
                  obtain ⟨hA1940, h_⟩ := asrt_some h; clear h; have h := h_; clear h_
                  refine stepie T_cdb_span.enc T_cdb_span.z ha 96 (fun _ => rfl) (v := .slice (some ⟨b1846, 0, none⟩) ([(⟨x1738.f2.f0, x1738.f2.f1⟩ : T_cdb_span), (⟨x1738.f3.f0, x1738.f3.f1⟩ : T_cdb_span), (⟨x1738.f4.f0, x1738.f4.f1⟩ : T_cdb_span)] : List T_cdb_span).length (([(⟨x1738.f2.f0, x1738.f2.f1⟩ : T_cdb_span), (⟨x1738.f3.f0, x1738.f3.f1⟩ : T_cdb_span), (⟨x1738.f4.f0, x1738.f4.f1⟩ : T_cdb_span)] : List T_cdb_span).length)) (xs := ([(⟨x1738.f2.f0, x1738.f2.f1⟩ : T_cdb_span), (⟨x1738.f3.f0, x1738.f3.f1⟩ : T_cdb_span), (⟨x1738.f4.f0, x1738.f4.f1⟩ : T_cdb_span)] : List T_cdb_span)) ((rd_blk (enc := T_cdb_span.enc) HW (i := 0) (b := b1846) (sz := 2) (T := 73) (C := #[.int .i64 x1738.f2.f0, .int .i64 x1738.f2.f1, .int .i64 x1738.f3.f0, .int .i64 x1738.f3.f1, .int .i64 x1738.f4.f0, .int .i64 x1738.f4.f1]) KR (fun _ => rfl) ([(⟨x1738.f2.f0, x1738.f2.f1⟩ : T_cdb_span), (⟨x1738.f3.f0, x1738.f3.f1⟩ : T_cdb_span), (⟨x1738.f4.f0, x1738.f4.f1⟩ : T_cdb_span)] : List T_cdb_span) rfl)) 83 73 (.tmp 91) (.tmp 93) .i64 x1927 rfl KR KR KR KR hA1940 (show (x1927 : Int) < ((([(⟨x1738.f2.f0, x1738.f2.f1⟩ : T_cdb_span), (⟨x1738.f3.f0, x1738.f3.f1⟩ : T_cdb_span), (⟨x1738.f4.f0, x1738.f4.f1⟩ : T_cdb_span)] : List T_cdb_span)).length : Int) from hp1935) KR ?_; clear ha a; intro b1941 off1942 a hC1943 ha
                  refine stepl ha 97 hC1943 73 0 (.tmp 96) (.agg #[.int .i64 ((rdL T_cdb_span.z ([(⟨x1738.f2.f0, x1738.f2.f1⟩ : T_cdb_span), (⟨x1738.f3.f0, x1738.f3.f1⟩ : T_cdb_span), (⟨x1738.f4.f0, x1738.f4.f1⟩ : T_cdb_span)] : List T_cdb_span) x1927).f0), .int .i64 ((rdL T_cdb_span.z ([(⟨x1738.f2.f0, x1738.f2.f1⟩ : T_cdb_span), (⟨x1738.f3.f0, x1738.f3.f1⟩ : T_cdb_span), (⟨x1738.f4.f0, x1738.f4.f1⟩ : T_cdb_span)] : List T_cdb_span) x1927).f1)]) rfl KR KR KR ?_; clear ha a; intro a ha
                  refine stepnew ha HW 9 #[.int .i64 0, .int .i64 0] 73 KR KR ?_; clear ha HW a; intro b1944 a W1945 HW ha
                  refine stepp ha 8 (.int .i64 x1927) KR KR ?_; clear ha a; intro a ha
                  refine stepst ha HW 0 (b := b1944) (C := #[.int .i64 0, .int .i64 0]) (T := 73) KR 73 0 (.tmp 9) (.tmp 97) (.agg #[.int .i64 ((rdL T_cdb_span.z ([(⟨x1738.f2.f0, x1738.f2.f1⟩ : T_cdb_span), (⟨x1738.f3.f0, x1738.f3.f1⟩ : T_cdb_span), (⟨x1738.f4.f0, x1738.f4.f1⟩ : T_cdb_span)] : List T_cdb_span) x1927).f0), .int .i64 ((rdL T_cdb_span.z ([(⟨x1738.f2.f0, x1738.f2.f1⟩ : T_cdb_span), (⟨x1738.f3.f0, x1738.f3.f1⟩ : T_cdb_span), (⟨x1738.f4.f0, x1738.f4.f1⟩ : T_cdb_span)] : List T_cdb_span) x1927).f1)]) #[.int .i64 ((rdL T_cdb_span.z ([(⟨x1738.f2.f0, x1738.f2.f1⟩ : T_cdb_span), (⟨x1738.f3.f0, x1738.f3.f1⟩ : T_cdb_span), (⟨x1738.f4.f0, x1738.f4.f1⟩ : T_cdb_span)] : List T_cdb_span) x1927).f0), .int .i64 ((rdL T_cdb_span.z ([(⟨x1738.f2.f0, x1738.f2.f1⟩ : T_cdb_span), (⟨x1738.f3.f0, x1738.f3.f1⟩ : T_cdb_span), (⟨x1738.f4.f0, x1738.f4.f1⟩ : T_cdb_span)] : List T_cdb_span) x1927).f1)] rfl KR KR KR KR KR KR KR ?_; clear ha HW a; intro a W1946 HW ha
                  refine endl ?_
                  refine thenN (hK1939 _ _ ?_); clear hK1939
                  refine wp_seq_k (fun K1947 hK1948 => ?_)
                  refine wp_region_lit ?_
                  refine stepp ha 98 (.pointer (some ⟨b1720, 1, none⟩)) KR KR ?_; clear ha a; intro a ha
                  refine stepl ha 99 (HW.ca (i := 2) (b := b1720) (C := #[.int .i64 a0.f0, .int .i64 a0.f1, .int .i64 a0.f2, .bool a0.f3, .int .i64 a0.f4, .int .i64 a0.f5, .int .i64 a0.f6]) (T := 39) (fr := (0, 0)) KR) 3 1 (.tmp 98) (.int .i64 a0.f1) rfl KR KR KR ?_; clear ha a; intro a ha
                  refine stepp ha 100 (.pointer (some ⟨b1720, 2, none⟩)) KR KR ?_; clear ha a; intro a ha
                  refine stepl ha 101 (HW.ca (i := 2) (b := b1720) (C := #[.int .i64 a0.f0, .int .i64 a0.f1, .int .i64 a0.f2, .bool a0.f3, .int .i64 a0.f4, .int .i64 a0.f5, .int .i64 a0.f6]) (T := 39) (fr := (0, 0)) KR) 3 2 (.tmp 100) (.int .i64 a0.f2) rfl KR KR KR ?_; clear ha a; intro a ha
                  refine stepp ha 102 (.pointer (some ⟨b1720, 5, none⟩)) KR KR ?_; clear ha a; intro a ha
                  refine stepl ha 103 (HW.ca (i := 2) (b := b1720) (C := #[.int .i64 a0.f0, .int .i64 a0.f1, .int .i64 a0.f2, .bool a0.f3, .int .i64 a0.f4, .int .i64 a0.f5, .int .i64 a0.f6]) (T := 39) (fr := (0, 0)) KR) 3 5 (.tmp 102) (.int .i64 a0.f5) rfl KR KR KR ?_; clear ha a; intro a ha
                  refine stepbs ha HW 104 3 1 3 #[.int .i64 a0.f1, .int .i64 a0.f2, .int .i64 a0.f5] [.int .i64 a0.f1, .int .i64 a0.f2, .int .i64 a0.f5] (by decide) KR KR KR KR ?_; clear ha HW a; intro b1949 a W1950 HW ha
                  replace HW : Wd w W1950 [(b1944, .cells #[.int .i64 ((rdL T_cdb_span.z ([(⟨x1738.f2.f0, x1738.f2.f1⟩ : T_cdb_span), (⟨x1738.f3.f0, x1738.f3.f1⟩ : T_cdb_span), (⟨x1738.f4.f0, x1738.f4.f1⟩ : T_cdb_span)] : List T_cdb_span) x1927).f0), .int .i64 ((rdL T_cdb_span.z ([(⟨x1738.f2.f0, x1738.f2.f1⟩ : T_cdb_span), (⟨x1738.f3.f0, x1738.f3.f1⟩ : T_cdb_span), (⟨x1738.f4.f0, x1738.f4.f1⟩ : T_cdb_span)] : List T_cdb_span) x1927).f1)] 73 (0, 0)), (b1846, .cells #[.int .i64 x1738.f2.f0, .int .i64 x1738.f2.f1, .int .i64 x1738.f3.f0, .int .i64 x1738.f3.f1, .int .i64 x1738.f4.f0, .int .i64 x1738.f4.f1] 73 (0, 0)), (b1720, .cells #[.int .i64 a0.f0, .int .i64 a0.f1, .int .i64 a0.f2, .bool a0.f3, .int .i64 a0.f4, .int .i64 a0.f5, .int .i64 a0.f6] 39 (0, 0))] [⟨3, 1, .slice (some ⟨b1949, 0, none⟩) ([a0.f1, a0.f2, a0.f5] : List Int).length 3, ([a0.f1, a0.f2, a0.f5] : List Int).length, encs (encI .i64) ([a0.f1, a0.f2, a0.f5] : List Int)⟩] := HW
                  replace ha := ha.turn 104 (v := .slice (some ⟨b1949, 0, none⟩) ([a0.f1, a0.f2, a0.f5] : List Int).length 3) KR rfl
                  refine stepp ha 105 (.int .i64 x1927) KR KR ?_; clear ha a; intro a ha
                  obtain ⟨hA1952, h_⟩ := asrt_some h; clear h; have h := h_; clear h_
                  refine stepie (encI .i64) (0 : Int) ha 106 (fun _ => rfl) (v := .slice (some ⟨b1949, 0, none⟩) ([a0.f1, a0.f2, a0.f5] : List Int).length 3) (xs := ([a0.f1, a0.f2, a0.f5] : List Int)) (HW.rdo (i := 0) (q := ⟨3, 1, .slice (some ⟨b1949, 0, none⟩) ([a0.f1, a0.f2, a0.f5] : List Int).length 3, ([a0.f1, a0.f2, a0.f5] : List Int).length, encs (encI .i64) ([a0.f1, a0.f2, a0.f5] : List Int)⟩) KR) 84 3 (.tmp 104) (.tmp 105) .i64 x1927 rfl KR KR KR KR hA1940 (show (x1927 : Int) < ((([a0.f1, a0.f2, a0.f5] : List Int)).length : Int) from hA1952) KR ?_; clear ha a; intro b1953 off1954 a hC1955 ha
                  refine stepl ha 107 hC1955 3 0 (.tmp 106) (.int .i64 (rdL (0 : Int) ([a0.f1, a0.f2, a0.f5] : List Int) x1927)) rfl KR KR KR ?_; clear ha a; intro a ha
                  refine stepp ha 10 (.int .i64 (rdL (0 : Int) ([a0.f1, a0.f2, a0.f5] : List Int) x1927)) KR KR ?_; clear ha a; intro a ha
                  refine endl ?_
                  refine thenN (hK1948 _ _ ?_); clear hK1948
                  refine wp_seq_k (fun K1956 hK1957 => ?_)
                  refine wp_region_lit ?_
                  refine stepp ha 108 (.pointer (some ⟨b1944, 1, none⟩)) KR KR ?_; clear ha a; intro a ha
                  refine stepl ha 109 (HW.ca (i := 0) (b := b1944) (C := #[.int .i64 ((rdL T_cdb_span.z ([(⟨x1738.f2.f0, x1738.f2.f1⟩ : T_cdb_span), (⟨x1738.f3.f0, x1738.f3.f1⟩ : T_cdb_span), (⟨x1738.f4.f0, x1738.f4.f1⟩ : T_cdb_span)] : List T_cdb_span) x1927).f0), .int .i64 ((rdL T_cdb_span.z ([(⟨x1738.f2.f0, x1738.f2.f1⟩ : T_cdb_span), (⟨x1738.f3.f0, x1738.f3.f1⟩ : T_cdb_span), (⟨x1738.f4.f0, x1738.f4.f1⟩ : T_cdb_span)] : List T_cdb_span) x1927).f1)]) (T := 73) (fr := (0, 0)) KR) 3 1 (.tmp 108) (.int .i64 ((rdL T_cdb_span.z ([(⟨x1738.f2.f0, x1738.f2.f1⟩ : T_cdb_span), (⟨x1738.f3.f0, x1738.f3.f1⟩ : T_cdb_span), (⟨x1738.f4.f0, x1738.f4.f1⟩ : T_cdb_span)] : List T_cdb_span) x1927).f1)) rfl KR KR KR ?_; clear ha a; intro a ha
                  refine stepp ha 110 (.bool (decide (((rdL T_cdb_span.z ([(⟨x1738.f2.f0, x1738.f2.f1⟩ : T_cdb_span), (⟨x1738.f3.f0, x1738.f3.f1⟩ : T_cdb_span), (⟨x1738.f4.f0, x1738.f4.f1⟩ : T_cdb_span)] : List T_cdb_span) x1927).f1) > 0))) KR KR ?_; clear ha a; intro a ha
                  refine endl ?_
                  refine thenN (hK1957 _ _ ?_); clear hK1957
                  by_cases hp1958 : ((rdL T_cdb_span.z ([(⟨x1738.f2.f0, x1738.f2.f1⟩ : T_cdb_span), (⟨x1738.f3.f0, x1738.f3.f1⟩ : T_cdb_span), (⟨x1738.f4.f0, x1738.f4.f1⟩ : T_cdb_span)] : List T_cdb_span) x1927).f1) > 0
                  · skip
                    replace h := ite_pos' h hp1958
                    refine condT ha KR KR (t := decide (((rdL T_cdb_span.z ([(⟨x1738.f2.f0, x1738.f2.f1⟩ : T_cdb_span), (⟨x1738.f3.f0, x1738.f3.f1⟩ : T_cdb_span), (⟨x1738.f4.f0, x1738.f4.f1⟩ : T_cdb_span)] : List T_cdb_span) x1927).f1) > 0)) (decide_eq_true hp1958) ?_
                    obtain ⟨t1959, ht1960, h_⟩ := bind_some' h; clear h; have h := h_; clear h_
                    obtain ⟨t1963, ht1964, h_⟩ := bind_some' h; clear h; have h := h_; clear h_
                    refine regionG 13 KR KR ha HW [.fix (.string x1926), .fix (.pointer (some ⟨b1944, 0, none⟩)), .fix (.int .i64 ((rdL T_cdb_span.z ([(⟨x1738.f2.f0, x1738.f2.f1⟩ : T_cdb_span), (⟨x1738.f3.f0, x1738.f3.f1⟩ : T_cdb_span), (⟨x1738.f4.f0, x1738.f4.f1⟩ : T_cdb_span)] : List T_cdb_span) x1927).f0)), .fix (.int .i64 (rdL (0 : Int) ([a0.f1, a0.f2, a0.f5] : List Int) x1927)), .fix (.int .u64 (IntKind.wrap .u64 (rdL (0 : Int) ([a0.f1, a0.f2, a0.f5] : List Int) x1927))), .fix (.pointer (some ⟨b1944, 1, none⟩)), .fix (.int .i64 ((rdL T_cdb_span.z ([(⟨x1738.f2.f0, x1738.f2.f1⟩ : T_cdb_span), (⟨x1738.f3.f0, x1738.f3.f1⟩ : T_cdb_span), (⟨x1738.f4.f0, x1738.f4.f1⟩ : T_cdb_span)] : List T_cdb_span) x1927).f1)), .fix (.string t1959), .fix (.tuple #[.string t1963.1, .bool t1963.2]), .fix (.tuple #[.string t1963.1, .bool t1963.2]), .fix (.string t1963.1), .fix (.bool t1963.2), .fix (.string t1963.1)] ?_ ?_
                    · skip
                      refine ⟨?_, ?_, ?_, ?_, ?_, ?_, ?_, ?_, ?_, ?_, ?_, ?_, ?_, trivial⟩
                      · skip
                        intro a wr hn hd HW hs; have ha := hasNil hn hd
                        have ha := ha.add (seeE hs 7 (.string x1926) KR KR)
                        refine yStep ha 112 KR ?_; intro l_ ha HK
                        refine stepp ha 112 (.string x1926) KR KR ?_; intro ax hax; exact HK _ _ _ hax rfl (Below.refl _ _)
                      · skip
                        intro a wr hn hd HW hs; have ha := hasNil hn hd
                        have ha := ha.add (seeE hs 9 (.pointer (some ⟨b1944, 0, none⟩)) KR KR)
                        refine yStep ha 113 KR ?_; intro l_ ha HK
                        refine stepp ha 113 (.pointer (some ⟨b1944, 0, none⟩)) KR KR ?_; intro ax hax; exact HK _ _ _ hax rfl (Below.refl _ _)
                      · skip
                        intro a wr hn hd HW hs; have ha := hasNil hn hd
                        have ha := ha.add (seeF hs 113 1 (.pointer (some ⟨b1944, 0, none⟩)) KR KR)
                        refine yStep ha 114 KR ?_; intro l_ ha HK
                        refine stepl ha 114 (HW.ca (i := 0) (b := b1944) (C := #[.int .i64 ((rdL T_cdb_span.z ([(⟨x1738.f2.f0, x1738.f2.f1⟩ : T_cdb_span), (⟨x1738.f3.f0, x1738.f3.f1⟩ : T_cdb_span), (⟨x1738.f4.f0, x1738.f4.f1⟩ : T_cdb_span)] : List T_cdb_span) x1927).f0), .int .i64 ((rdL T_cdb_span.z ([(⟨x1738.f2.f0, x1738.f2.f1⟩ : T_cdb_span), (⟨x1738.f3.f0, x1738.f3.f1⟩ : T_cdb_span), (⟨x1738.f4.f0, x1738.f4.f1⟩ : T_cdb_span)] : List T_cdb_span) x1927).f1)]) (T := 73) (fr := (0, 0)) KR) 3 0 (.tmp 113) (.int .i64 ((rdL T_cdb_span.z ([(⟨x1738.f2.f0, x1738.f2.f1⟩ : T_cdb_span), (⟨x1738.f3.f0, x1738.f3.f1⟩ : T_cdb_span), (⟨x1738.f4.f0, x1738.f4.f1⟩ : T_cdb_span)] : List T_cdb_span) x1927).f0)) rfl KR KR KR ?_; intro ax hax; exact HK _ _ _ hax rfl (Below.refl _ _)
                      · skip
                        intro a wr hn hd HW hs; have ha := hasNil hn hd
                        have ha := ha.add (seeE hs 10 (.int .i64 (rdL (0 : Int) ([a0.f1, a0.f2, a0.f5] : List Int) x1927)) KR KR)
                        refine yStep ha 115 KR ?_; intro l_ ha HK
                        refine stepp ha 115 (.int .i64 (rdL (0 : Int) ([a0.f1, a0.f2, a0.f5] : List Int) x1927)) KR KR ?_; intro ax hax; exact HK _ _ _ hax rfl (Below.refl _ _)
                      · skip
                        intro a wr hn hd HW hs; have ha := hasNil hn hd
                        have ha := ha.add (seeF hs 115 3 (.int .i64 (rdL (0 : Int) ([a0.f1, a0.f2, a0.f5] : List Int) x1927)) KR KR)
                        refine yStep ha 116 KR ?_; intro l_ ha HK
                        refine stepp ha 116 (.int .u64 (IntKind.wrap .u64 (rdL (0 : Int) ([a0.f1, a0.f2, a0.f5] : List Int) x1927))) KR KR ?_; intro ax hax; exact HK _ _ _ hax rfl (Below.refl _ _)
                      · skip
                        intro a wr hn hd HW hs; have ha := hasNil hn hd
                        have ha := ha.add (seeE hs 9 (.pointer (some ⟨b1944, 0, none⟩)) KR KR)
                        refine yStep ha 117 KR ?_; intro l_ ha HK
                        refine stepp ha 117 (.pointer (some ⟨b1944, 1, none⟩)) KR KR ?_; intro ax hax; exact HK _ _ _ hax rfl (Below.refl _ _)
                      · skip
                        intro a wr hn hd HW hs; have ha := hasNil hn hd
                        have ha := ha.add (seeF hs 117 5 (.pointer (some ⟨b1944, 1, none⟩)) KR KR)
                        refine yStep ha 118 KR ?_; intro l_ ha HK
                        refine stepl ha 118 (HW.ca (i := 0) (b := b1944) (C := #[.int .i64 ((rdL T_cdb_span.z ([(⟨x1738.f2.f0, x1738.f2.f1⟩ : T_cdb_span), (⟨x1738.f3.f0, x1738.f3.f1⟩ : T_cdb_span), (⟨x1738.f4.f0, x1738.f4.f1⟩ : T_cdb_span)] : List T_cdb_span) x1927).f0), .int .i64 ((rdL T_cdb_span.z ([(⟨x1738.f2.f0, x1738.f2.f1⟩ : T_cdb_span), (⟨x1738.f3.f0, x1738.f3.f1⟩ : T_cdb_span), (⟨x1738.f4.f0, x1738.f4.f1⟩ : T_cdb_span)] : List T_cdb_span) x1927).f1)]) (T := 73) (fr := (0, 0)) KR) 3 1 (.tmp 117) (.int .i64 ((rdL T_cdb_span.z ([(⟨x1738.f2.f0, x1738.f2.f1⟩ : T_cdb_span), (⟨x1738.f3.f0, x1738.f3.f1⟩ : T_cdb_span), (⟨x1738.f4.f0, x1738.f4.f1⟩ : T_cdb_span)] : List T_cdb_span) x1927).f1)) rfl KR KR KR ?_; intro ax hax; exact HK _ _ _ hax rfl (Below.refl _ _)
                      · skip
                        intro a wr hn hd HW hs; have ha := hasNil hn hd
                        have ha := ha.add (seeF hs 116 4 (.int .u64 (IntKind.wrap .u64 (rdL (0 : Int) ([a0.f1, a0.f2, a0.f5] : List Int) x1927))) KR KR)
                        have ha := ha.add (seeF hs 118 6 (.int .i64 ((rdL T_cdb_span.z ([(⟨x1738.f2.f0, x1738.f2.f1⟩ : T_cdb_span), (⟨x1738.f3.f0, x1738.f3.f1⟩ : T_cdb_span), (⟨x1738.f4.f0, x1738.f4.f1⟩ : T_cdb_span)] : List T_cdb_span) x1927).f1)) KR KR)
                        refine yStep ha 119 KR ?_; intro l_ ha HK
                        refine stepc ha 119 KR KR (fields_PutBig.calls K (IntKind.wrap .u64 (rdL (0 : Int) ([a0.f1, a0.f2, a0.f5] : List Int) x1927)) ((rdL T_cdb_span.z ([(⟨x1738.f2.f0, x1738.f2.f1⟩ : T_cdb_span), (⟨x1738.f3.f0, x1738.f3.f1⟩ : T_cdb_span), (⟨x1738.f4.f0, x1738.f4.f1⟩ : T_cdb_span)] : List T_cdb_span) x1927).f1) t1959 _ ht1960) ?_; rintro e W1961 ⟨rfl, HX1962⟩
                        refine ⟨_, rfl, ?_⟩; intro ax hax; exact HK _ _ _ hax rfl HX1962.below
                      · skip
                        intro a wr hn hd HW hs; have ha := hasNil hn hd
                        have ha := ha.add (seeF hs 112 0 (.string x1926) KR KR)
                        have ha := ha.add (seeF hs 114 2 (.int .i64 ((rdL T_cdb_span.z ([(⟨x1738.f2.f0, x1738.f2.f1⟩ : T_cdb_span), (⟨x1738.f3.f0, x1738.f3.f1⟩ : T_cdb_span), (⟨x1738.f4.f0, x1738.f4.f1⟩ : T_cdb_span)] : List T_cdb_span) x1927).f0)) KR KR)
                        have ha := ha.add (seeF hs 119 7 (.string t1959) KR KR)
                        refine yStep ha 120 KR ?_; intro l_ ha HK
                        refine stepc ha 120 KR KR (fields_Set.calls x1926 ((rdL T_cdb_span.z ([(⟨x1738.f2.f0, x1738.f2.f1⟩ : T_cdb_span), (⟨x1738.f3.f0, x1738.f3.f1⟩ : T_cdb_span), (⟨x1738.f4.f0, x1738.f4.f1⟩ : T_cdb_span)] : List T_cdb_span) x1927).f0) t1959 t1963 _ ht1964) ?_; rintro e W1965 ⟨rfl, HX1966⟩
                        refine ⟨_, rfl, ?_⟩; intro ax hax; exact HK _ _ _ hax rfl HX1966.below
                      · skip
                        intro a wr hn hd HW hs; have ha := hasNil hn hd
                        have ha := ha.add (seeF hs 120 8 (.tuple #[.string t1963.1, .bool t1963.2]) KR KR)
                        refine yStep ha 111 KR ?_; intro l_ ha HK
                        refine stepp ha 111 (.tuple #[.string t1963.1, .bool t1963.2]) KR KR ?_; intro ax hax; exact HK _ _ _ hax rfl (Below.refl _ _)
                      · skip
                        intro a wr hn hd HW hs; have ha := hasNil hn hd
                        have ha := ha.add (seeF hs 111 9 (.tuple #[.string t1963.1, .bool t1963.2]) KR KR)
                        refine yStep ha 121 KR ?_; intro l_ ha HK
                        refine stepp ha 121 (.string t1963.1) KR KR ?_; intro ax hax; exact HK _ _ _ hax rfl (Below.refl _ _)
                      · skip
                        intro a wr hn hd HW hs; have ha := hasNil hn hd
                        have ha := ha.add (seeF hs 111 9 (.tuple #[.string t1963.1, .bool t1963.2]) KR KR)
                        refine yStep ha 122 KR ?_; intro l_ ha HK
                        refine stepp ha 122 (.bool t1963.2) KR KR ?_; intro ax hax; exact HK _ _ _ hax rfl (Below.refl _ _)
                      · skip
                        intro a wr hn hd HW hs; have ha := hasNil hn hd
                        have ha := ha.add (seeF hs 121 10 (.string t1963.1) KR KR)
                        refine yStep ha 7 KR ?_; intro l_ ha HK
                        refine stepp ha 7 (.string t1963.1) KR KR ?_; intro ax hax; exact HK _ _ _ hax rfl (Below.refl _ _)
                    · skip
                      intro a W1967 ha HW he hf
                      replace ha := ha.add (he 1 (.pointer (some ⟨b1720, 0, none⟩)) KR KR)
                      replace ha := ha.add (gotF (m := 13) (j := 12) (d := 7) (v := .string t1963.1) hf KR KR KR)
                      replace ha := ha.add (he 91 (.slice (some ⟨b1846, 0, none⟩) ([(⟨x1738.f2.f0, x1738.f2.f1⟩ : T_cdb_span), (⟨x1738.f3.f0, x1738.f3.f1⟩ : T_cdb_span), (⟨x1738.f4.f0, x1738.f4.f1⟩ : T_cdb_span)] : List T_cdb_span).length (([(⟨x1738.f2.f0, x1738.f2.f1⟩ : T_cdb_span), (⟨x1738.f3.f0, x1738.f3.f1⟩ : T_cdb_span), (⟨x1738.f4.f0, x1738.f4.f1⟩ : T_cdb_span)] : List T_cdb_span).length)) KR KR)
                      replace ha := ha.add (he 92 (.int .i64 (([(⟨x1738.f2.f0, x1738.f2.f1⟩ : T_cdb_span), (⟨x1738.f3.f0, x1738.f3.f1⟩ : T_cdb_span), (⟨x1738.f4.f0, x1738.f4.f1⟩ : T_cdb_span)] : List T_cdb_span).length : Int)) KR KR)
                      replace ha := ha.add (he 93 (.int .i64 x1927) KR KR)
                      clear he hf
                      refine endl ?_
                      refine blkN ?_
                      refine thenN (hK1937 _ _ ?_); clear hK1937
                      refine wp_region_lit ?_
                      refine stepp ha 123 (.int .i64 (IntKind.wrap .i64 (x1927 + 1))) KR KR ?_; clear ha a; intro a ha
                      refine stepp ha 93 (.int .i64 (IntKind.wrap .i64 (x1927 + 1))) KR KR ?_; clear ha a; intro a ha
                      refine endl ?_
                      exact thenN ⟨k1929, Nat.lt_succ_self k1929, t1963.1, IntKind.wrap .i64 (x1927 + 1), (by rw [← hag1930]; exact h), ha.sub (subs_cons KR (subs_cons KR (subs_cons KR (subs_cons KR (subs_cons KR (subs_nil _)))))), HW.pick [1, 2] [] (by decide) (by decide) KR KR⟩
                  · skip
                    replace h := ite_neg' h hp1958
                    refine condF ha KR KR (t := decide (((rdL T_cdb_span.z ([(⟨x1738.f2.f0, x1738.f2.f1⟩ : T_cdb_span), (⟨x1738.f3.f0, x1738.f3.f1⟩ : T_cdb_span), (⟨x1738.f4.f0, x1738.f4.f1⟩ : T_cdb_span)] : List T_cdb_span) x1927).f1) > 0)) (decide_eq_false hp1958) ?_
                    refine wp_skip ?_
                    refine blkN ?_
                    refine thenN (hK1937 _ _ ?_); clear hK1937
                    refine wp_region_lit ?_
                    refine stepp ha 123 (.int .i64 (IntKind.wrap .i64 (x1927 + 1))) KR KR ?_; clear ha a; intro a ha
                    refine stepp ha 93 (.int .i64 (IntKind.wrap .i64 (x1927 + 1))) KR KR ?_; clear ha a; intro a ha
                    refine endl ?_
                    exact thenN ⟨k1929, Nat.lt_succ_self k1929, x1926, IntKind.wrap .i64 (x1927 + 1), (by rw [← hag1930]; exact h), ha.sub (subs_cons KR (subs_cons KR (subs_cons KR (subs_cons KR (subs_cons KR (subs_nil _)))))), HW.pick [1, 2] [] (by decide) (by decide) KR KR⟩
                · skip
                  replace h := ite_neg' h hp1935
                  refine condF ha KR KR (t := decide (x1927 < (([(⟨x1738.f2.f0, x1738.f2.f1⟩ : T_cdb_span), (⟨x1738.f3.f0, x1738.f3.f1⟩ : T_cdb_span), (⟨x1738.f4.f0, x1738.f4.f1⟩ : T_cdb_span)] : List T_cdb_span).length : Int))) (decide_eq_false hp1935) ?_
                  refine wp_exit ?_
                  refine thenE ?_
                  refine thenE ?_
                  refine inBlk ?_
                  refine thenN (hK1838 _ _ ?_); clear hK1838
                  refine wp_seq_k (fun K1968 hK1969 => ?_)
                  refine wp_seq_k (fun K1970 hK1971 => ?_)
                  refine wp_region_lit ?_
                  refine stepp ha 125 (.string x1926) KR KR ?_; clear ha a; intro a ha
                  obtain ⟨t1972, ht1973, h_⟩ := bind_some' h; clear h; have h := h_; clear h_
                  refine stepc ha 126 KR KR (cdb_Parse.calls K x1926 t1972 _ (HW.ca0 hG0) (HW.ca0 hG1) ht1973) ?_; clear ha a; rintro e W1974 ⟨rfl, HX1975⟩
                  refine ⟨_, rfl, ?_⟩; intro a ha; replace HW := HW.callw HX1975; clear HX1975
                  refine stepp ha 124 (.tuple #[.agg #[.int .i64 t1972.1.f0, .int .i64 t1972.1.f1, .int .i64 t1972.1.f2, .bool t1972.1.f3, .int .i64 t1972.1.f4, .int .i64 t1972.1.f5, .int .i64 t1972.1.f6], .int .i64 t1972.2]) KR KR ?_; clear ha a; intro a ha
                  refine stepp ha 127 (.agg #[.int .i64 t1972.1.f0, .int .i64 t1972.1.f1, .int .i64 t1972.1.f2, .bool t1972.1.f3, .int .i64 t1972.1.f4, .int .i64 t1972.1.f5, .int .i64 t1972.1.f6]) KR KR ?_; clear ha a; intro a ha
                  refine stepp ha 128 (.int .i64 t1972.2) KR KR ?_; clear ha a; intro a ha
                  refine stepnew ha HW 11 #[.int .i64 0, .int .i64 0, .int .i64 0, .bool false, .int .i64 0, .int .i64 0, .int .i64 0] 39 KR KR ?_; clear ha HW a; intro b1976 a W1977 HW ha
                  refine stepst ha HW 0 (b := b1976) (C := #[.int .i64 0, .int .i64 0, .int .i64 0, .bool false, .int .i64 0, .int .i64 0, .int .i64 0]) (T := 39) KR 39 0 (.tmp 11) (.tmp 127) (.agg #[.int .i64 t1972.1.f0, .int .i64 t1972.1.f1, .int .i64 t1972.1.f2, .bool t1972.1.f3, .int .i64 t1972.1.f4, .int .i64 t1972.1.f5, .int .i64 t1972.1.f6]) #[.int .i64 t1972.1.f0, .int .i64 t1972.1.f1, .int .i64 t1972.1.f2, .bool t1972.1.f3, .int .i64 t1972.1.f4, .int .i64 t1972.1.f5, .int .i64 t1972.1.f6] rfl KR KR KR KR KR KR KR ?_; clear ha HW a; intro a W1978 HW ha
                  refine stepp ha 12 (.int .i64 t1972.2) KR KR ?_; clear ha a; intro a ha
                  refine endl ?_
                  refine thenN (hK1971 _ _ ?_); clear hK1971
                  refine wp_seq_k (fun K1979 hK1980 => ?_)
                  refine wp_region_lit ?_
                  refine stepp ha 129 (.int .i64 t1972.2) KR KR ?_; clear ha a; intro a ha
                  refine stepp ha 130 (.bool (t1972.2 != 0)) KR KR ?_; clear ha a; intro a ha
                  refine stepp ha 131 (.bool (t1972.2 != 0)) KR KR ?_; clear ha a; intro a ha
                  by_cases hp1981 : t1972.2 = 0
                  · skip
                    replace h := ite_pos' h hp1981
                    replace ha := ha.bool 131 KR (ineq_f hp1981)
                    refine stepl ha 132 (HW.ca (i := 0) (b := b1976) (C := #[.int .i64 t1972.1.f0, .int .i64 t1972.1.f1, .int .i64 t1972.1.f2, .bool t1972.1.f3, .int .i64 t1972.1.f4, .int .i64 t1972.1.f5, .int .i64 t1972.1.f6]) (T := 39) (fr := (0, 0)) KR) 39 0 (.tmp 11) (.agg #[.int .i64 t1972.1.f0, .int .i64 t1972.1.f1, .int .i64 t1972.1.f2, .bool t1972.1.f3, .int .i64 t1972.1.f4, .int .i64 t1972.1.f5, .int .i64 t1972.1.f6]) rfl KR KR KR ?_; clear ha a; intro a ha
                    refine stepl ha 133 (HW.ca (i := 2) (b := b1720) (C := #[.int .i64 a0.f0, .int .i64 a0.f1, .int .i64 a0.f2, .bool a0.f3, .int .i64 a0.f4, .int .i64 a0.f5, .int .i64 a0.f6]) (T := 39) (fr := (0, 0)) KR) 39 0 (.tmp 1) (.agg #[.int .i64 a0.f0, .int .i64 a0.f1, .int .i64 a0.f2, .bool a0.f3, .int .i64 a0.f4, .int .i64 a0.f5, .int .i64 a0.f6]) rfl KR KR KR ?_; clear ha a; intro a ha
                    refine stepne ha 134 39 39 (.tmp 132) (.tmp 133) #[.int .i64 t1972.1.f0, .int .i64 t1972.1.f1, .int .i64 t1972.1.f2, .bool t1972.1.f3, .int .i64 t1972.1.f4, .int .i64 t1972.1.f5, .int .i64 t1972.1.f6] #[.int .i64 a0.f0, .int .i64 a0.f1, .int .i64 a0.f2, .bool a0.f3, .int .i64 a0.f4, .int .i64 a0.f5, .int .i64 a0.f6] (t1972.1.f0 == a0.f0 && (t1972.1.f1 == a0.f1 && (t1972.1.f2 == a0.f2 && (t1972.1.f3 == a0.f3 && (t1972.1.f4 == a0.f4 && (t1972.1.f5 == a0.f5 && (t1972.1.f6 == a0.f6 && true))))))) rfl KR KR KR KR KR KR KR ?_; clear ha a; intro a ha
                    refine stepp ha 135 (.bool (!(t1972.1.f0 == a0.f0 && (t1972.1.f1 == a0.f1 && (t1972.1.f2 == a0.f2 && (t1972.1.f3 == a0.f3 && (t1972.1.f4 == a0.f4 && (t1972.1.f5 == a0.f5 && (t1972.1.f6 == a0.f6 && true))))))))) KR KR ?_; clear ha a; intro a ha
                    refine endl ?_
                    refine thenN (hK1980 _ _ ?_); clear hK1980
                    by_cases hp1982 : (!(t1972.1.f0 == a0.f0 && (t1972.1.f1 == a0.f1 && (t1972.1.f2 == a0.f2 && (t1972.1.f3 == a0.f3 && (t1972.1.f4 == a0.f4 && (t1972.1.f5 == a0.f5 && (t1972.1.f6 == a0.f6 && true)))))))) = true
                    · skip
                      replace h := ite_pos' h hp1982
                      refine condT ha KR KR (t := (!(t1972.1.f0 == a0.f0 && (t1972.1.f1 == a0.f1 && (t1972.1.f2 == a0.f2 && (t1972.1.f3 == a0.f3 && (t1972.1.f4 == a0.f4 && (t1972.1.f5 == a0.f5 && (t1972.1.f6 == a0.f6 && true))))))))) (hp1982) ?_
                      refine wp_seq_k (fun K1983 hK1984 => ?_)
                      refine wp_region_lit ?_
                      refine stepp ha 2 (.string (⟨#[]⟩ : ByteArray)) KR KR ?_; clear ha a; intro a ha
                      refine stepp ha 3 (.int .i64 150) KR KR ?_; clear ha a; intro a ha
                      refine endl ?_
                      refine thenN (hK1984 _ _ ?_); clear hK1984
                      refine wp_ret ?_
                      refine thenR ?_
                      obtain rfl := Option.some.inj h
                      exact finv ha _ _ rfl (.tmp (v := .string (⟨#[]⟩ : ByteArray)) KR (.tmp (v := .int .i64 150) KR .nil)) (.tuple #[.string (⟨#[]⟩ : ByteArray), .int .i64 150]) rfl ⟨rfl, HW.pick [] [] (by decide) (by decide) rfl KR⟩
                    · skip
                      replace h := ite_neg' h hp1982
                      refine condF ha KR KR (t := (!(t1972.1.f0 == a0.f0 && (t1972.1.f1 == a0.f1 && (t1972.1.f2 == a0.f2 && (t1972.1.f3 == a0.f3 && (t1972.1.f4 == a0.f4 && (t1972.1.f5 == a0.f5 && (t1972.1.f6 == a0.f6 && true))))))))) (bool_f hp1982) ?_
                      refine wp_skip ?_
                      refine thenN (hK1969 _ _ ?_); clear hK1969
                      refine wp_seq_k (fun K1987 hK1988 => ?_)
                      refine wp_region_lit ?_
                      refine stepp ha 136 (.string x1926) KR KR ?_; clear ha a; intro a ha
                      refine stepp ha 2 (.string x1926) KR KR ?_; clear ha a; intro a ha
                      refine stepp ha 3 (.int .i64 0) KR KR ?_; clear ha a; intro a ha
                      refine endl ?_
                      refine thenN (hK1988 _ _ ?_); clear hK1988
                      refine wp_ret ?_
                      obtain rfl := Option.some.inj h
                      exact finv ha _ _ rfl (.tmp (v := .string x1926) KR (.tmp (v := .int .i64 0) KR .nil)) (.tuple #[.string x1926, .int .i64 0]) rfl ⟨rfl, HW.pick [] [] (by decide) (by decide) rfl KR⟩
                  · skip
                    replace h := ite_neg' h hp1981
                    replace ha := ha.bool 131 KR (ineq_t hp1981)
                    refine stepo ha 132 KR ?_; clear ha a; intro a ha
                    refine stepo ha 133 KR ?_; clear ha a; intro a ha
                    refine stepo ha 134 KR ?_; clear ha a; intro a ha
                    refine stepp ha 135 (.bool true) KR KR ?_; clear ha a; intro a ha
                    refine endl ?_
                    refine thenN (hK1980 _ _ ?_); clear hK1980
                    refine condT ha KR KR (t := true) (rfl) ?_
                    refine wp_seq_k (fun K1985 hK1986 => ?_)
                    refine wp_region_lit ?_
                    refine stepp ha 2 (.string (⟨#[]⟩ : ByteArray)) KR KR ?_; clear ha a; intro a ha
                    refine stepp ha 3 (.int .i64 150) KR KR ?_; clear ha a; intro a ha
                    refine endl ?_
                    refine thenN (hK1986 _ _ ?_); clear hK1986
                    refine wp_ret ?_
                    refine thenR ?_
                    obtain rfl := Option.some.inj h
                    exact finv ha _ _ rfl (.tmp (v := .string (⟨#[]⟩ : ByteArray)) KR (.tmp (v := .int .i64 150) KR .nil)) (.tuple #[.string (⟨#[]⟩ : ByteArray), .int .i64 150]) rfl ⟨rfl, HW.pick [] [] (by decide) (by decide) rfl KR⟩
end Go.Proofs.YtpjcipadjegmlaaDoor.F
