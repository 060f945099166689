/- headgate/cdb.Build: plain functions, and that the calls come to what they say. No condition. -/
import Derived.Test.YtpjcipadjegmlaaDoorFT
import Derived.Test.YtpjcipadjegmlaaDoorF16
import Derived.Test.YtpjcipadjegmlaaDoorF32
import Derived.Test.YtpjcipadjegmlaaDoorF48
namespace Go.Proofs.YtpjcipadjegmlaaDoor.F
open Go Go.RowKit Go.Proofs.YtpjcipadjegmlaaDoor.X
set_option linter.unusedVariables false
set_option linter.unusedSimpArgs false
/-! ### headgate/cdb.Build: function 22 -/
def cdb_Build.b0 (K : Nat) (a0 : T_cdb_Ask) (x1919 : T_cdb_form) (again2106 : ByteArray → Int → Option (ByteArray × Int)) (x2107 : ByteArray) (x2108 : Int) : Option (ByteArray × Int) :=
  if x2108 < (([(⟨x1919.f2.f0, x1919.f2.f1⟩ : T_cdb_span), (⟨x1919.f3.f0, x1919.f3.f1⟩ : T_cdb_span), (⟨x1919.f4.f0, x1919.f4.f1⟩ : T_cdb_span)] : List T_cdb_span).length : Int) then (asrt (0 ≤ x2108) (asrt (x2108 < (([a0.f1, a0.f2, a0.f5] : List Int).length : Int)) (if ((rdL T_cdb_span.z ([(⟨x1919.f2.f0, x1919.f2.f1⟩ : T_cdb_span), (⟨x1919.f3.f0, x1919.f3.f1⟩ : T_cdb_span), (⟨x1919.f4.f0, x1919.f4.f1⟩ : T_cdb_span)] : List T_cdb_span) x2108).f1) > 0 then ((fields_PutBig.f K (IntKind.wrap .u64 (rdL (0 : Int) ([a0.f1, a0.f2, a0.f5] : List Int) x2108)) ((rdL T_cdb_span.z ([(⟨x1919.f2.f0, x1919.f2.f1⟩ : T_cdb_span), (⟨x1919.f3.f0, x1919.f3.f1⟩ : T_cdb_span), (⟨x1919.f4.f0, x1919.f4.f1⟩ : T_cdb_span)] : List T_cdb_span) x2108).f1)).bind fun t2140 => ((fields_Set.f x2107 ((rdL T_cdb_span.z ([(⟨x1919.f2.f0, x1919.f2.f1⟩ : T_cdb_span), (⟨x1919.f3.f0, x1919.f3.f1⟩ : T_cdb_span), (⟨x1919.f4.f0, x1919.f4.f1⟩ : T_cdb_span)] : List T_cdb_span) x2108).f0) t2140).bind fun t2144 => (again2106 t2144.1 (IntKind.wrap .i64 (x2108 + 1))))) else (again2106 x2107 (IntKind.wrap .i64 (x2108 + 1)))))) else ((cdb_Parse.f K x2107).bind fun t2153 => (if t2153.2 = 0 then (if (!(t2153.1.f0 == a0.f0 && (t2153.1.f1 == a0.f1 && (t2153.1.f2 == a0.f2 && (t2153.1.f3 == a0.f3 && (t2153.1.f4 == a0.f4 && (t2153.1.f5 == a0.f5 && (t2153.1.f6 == a0.f6 && true)))))))) = true then (some ((⟨#[]⟩ : ByteArray), 150)) else (some (x2107, 0))) else (some ((⟨#[]⟩ : ByteArray), 150))))
def cdb_Build.l0 (K : Nat) (a0 : T_cdb_Ask) (x1919 : T_cdb_form) : Nat → ByteArray → Int → Option (ByteArray × Int)
  | 0, _, _ => none
  | k_ + 1, x2107, x2108 => cdb_Build.b0 K a0 x1919 (cdb_Build.l0 K a0 x1919 k_) x2107 x2108
def cdb_Build.j3 (K : Nat) (a0 : T_cdb_Ask) (x1919 : T_cdb_form) (x2013 : List Int) : Option (ByteArray × Int) :=
  cdb_Build.l0 K a0 x1919 K (strOfNums x2013) 0
def cdb_Build.j2 (K : Nat) (a0 : T_cdb_Ask) (x1910 : Int) (x1919 : T_cdb_form) (x1993 : Bool) : Option (ByteArray × Int) :=
  if x1993 = true then (asrt (1 < (((List.replicate (x1919.f1 : Int).toNat (0 : Int)).set (0 : Int).toNat (IntKind.wrap .u8 x1910)).length : Int)) (if x1910 = 95 then ((cdb_Number.f a0.f6).bind fun t2005 => (asrt (2 < ((((List.replicate (x1919.f1 : Int).toNat (0 : Int)).set (0 : Int).toNat (IntKind.wrap .u8 x1910)).set (1 : Int).toNat (IntKind.wrap .u8 a0.f0)).length : Int)) (cdb_Build.j3 K a0 x1919 ((((List.replicate (x1919.f1 : Int).toNat (0 : Int)).set (0 : Int).toNat (IntKind.wrap .u8 x1910)).set (1 : Int).toNat (IntKind.wrap .u8 a0.f0)).set (2 : Int).toNat (IntKind.wrap .u8 t2005))))) else (cdb_Build.j3 K a0 x1919 (((List.replicate (x1919.f1 : Int).toNat (0 : Int)).set (0 : Int).toNat (IntKind.wrap .u8 x1910)).set (1 : Int).toNat (IntKind.wrap .u8 a0.f0))))) else (cdb_Build.j3 K a0 x1919 ((List.replicate (x1919.f1 : Int).toNat (0 : Int)).set (0 : Int).toNat (IntKind.wrap .u8 x1910)))
def cdb_Build.j1 (K : Nat) (a0 : T_cdb_Ask) (x1910 : Int) (x1919 : T_cdb_form) (x1970 : Bool) : Option (ByteArray × Int) :=
  if x1970 = true then (if a0.f3 = true then (asrt (1 < (((List.replicate (x1919.f1 : Int).toNat (0 : Int)).set (0 : Int).toNat (IntKind.wrap .u8 x1910)).length : Int)) (cdb_Build.j3 K a0 x1919 (((List.replicate (x1919.f1 : Int).toNat (0 : Int)).set (0 : Int).toNat (IntKind.wrap .u8 x1910)).set (1 : Int).toNat 8))) else (cdb_Build.j3 K a0 x1919 ((List.replicate (x1919.f1 : Int).toNat (0 : Int)).set (0 : Int).toNat (IntKind.wrap .u8 x1910)))) else (if x1910 = 147 then (asrt (1 < (((List.replicate (x1919.f1 : Int).toNat (0 : Int)).set (0 : Int).toNat (IntKind.wrap .u8 x1910)).length : Int)) (cdb_Build.j3 K a0 x1919 (((List.replicate (x1919.f1 : Int).toNat (0 : Int)).set (0 : Int).toNat (IntKind.wrap .u8 x1910)).set (1 : Int).toNat 1))) else (if x1910 = 94 then (cdb_Build.j2 K a0 x1910 x1919 (x1910 == 94)) else (cdb_Build.j2 K a0 x1910 x1919 (x1910 == 95))))
def cdb_Build.j0 (K : Nat) (a0 : T_cdb_Ask) (x1910 : Int) : Option (ByteArray × Int) :=
  (cdb_formOf.f K x1910).bind fun t1914 => (optc t1914 (some ((⟨#[]⟩ : ByteArray), 150)) (fun x1919 => (if a0.f0 < 0 then (some ((⟨#[]⟩ : ByteArray), 150)) else (asrt (0 ≤ x1919.f1) (asrt (x1919.f1 ≤ 281474976710656) (asrt (0 < ((List.replicate (x1919.f1 : Int).toNat (0 : Int)).length : Int)) (if x1910 = 18 then (if a0.f4 > 0 then (asrt (1 < (((List.replicate (x1919.f1 : Int).toNat (0 : Int)).set (0 : Int).toNat (IntKind.wrap .u8 x1910)).length : Int)) (asrt (2 < ((((List.replicate (x1919.f1 : Int).toNat (0 : Int)).set (0 : Int).toNat (IntKind.wrap .u8 x1910)).set (1 : Int).toNat 1).length : Int)) (cdb_Build.j3 K a0 x1919 ((((List.replicate (x1919.f1 : Int).toNat (0 : Int)).set (0 : Int).toNat (IntKind.wrap .u8 x1910)).set (1 : Int).toNat 1).set (2 : Int).toNat (IntKind.wrap .u8 a0.f4))))) else (cdb_Build.j3 K a0 x1919 ((List.replicate (x1919.f1 : Int).toNat (0 : Int)).set (0 : Int).toNat (IntKind.wrap .u8 x1910)))) else (if x1910 = 42 then (cdb_Build.j1 K a0 x1910 x1919 (x1910 == 42)) else (cdb_Build.j1 K a0 x1910 x1919 (x1910 == 138))))))))))
def cdb_Build.f (K : Nat) (a0 : T_cdb_Ask) : Option (ByteArray × Int) :=
  if a0.f0 > 255 then (cdb_Build.j0 K a0 (IntKind.wrap .i64 (Int.tdiv a0.f0 256))) else (cdb_Build.j0 K a0 a0.f0)
set_option maxRecDepth 100000 in
set_option maxHeartbeats 4000000 in
theorem cdb_Build.calls (K : Nat) (a0 : T_cdb_Ask)  (r : ByteArray × Int) (w : World) (hG0 : CA w 0 0 (encs (encI .i64) G_cdb_numbers).toArray) (hG1 : CA w 1 0 (encs T_cdb_form.enc G_cdb_forms).toArray) (h : cdb_Build.f K a0 = some r) :
    Calls Tryd.prog 22 #[.agg #[.int .i64 a0.f0, .int .i64 a0.f1, .int .i64 a0.f2, .bool a0.f3, .int .i64 a0.f4, .int .i64 a0.f5, .int .i64 a0.f6]] w (fun e W' => e = .returned (.tuple #[.string r.1, .int .i64 r.2]) ∧ Wd w W' [] [] ) := by
  refine sxstart (n := 137) (l := [(0, .agg #[.int .i64 a0.f0, .int .i64 a0.f1, .int .i64 a0.f2, .bool a0.f3, .int .i64 a0.f4, .int .i64 a0.f5, .int .i64 a0.f6])]) Tryd.func22 rfl rfl (Nat.le_of_ble_eq_true KR) (subsA_cons rfl (subsA_nil _)) ?_
  intro a ha
  have HW := Wd.refl w
  unfold cdb_Build.f at h
  refine wp_seq_k (fun K1899 hK1900 => ?_)
  refine wp_region_lit ?_
  refine stepnew ha HW 1 #[.int .i64 a0.f0, .int .i64 a0.f1, .int .i64 a0.f2, .bool a0.f3, .int .i64 a0.f4, .int .i64 a0.f5, .int .i64 a0.f6] 39 KR KR ?_; clear ha HW a; intro b1901 a W1902 HW ha
  refine stepp ha 2 (.string (⟨#[]⟩ : ByteArray)) KR KR ?_; clear ha a; intro a ha
  refine stepp ha 3 (.int .i64 0) KR KR ?_; clear ha a; intro a ha
  refine endl ?_
  refine thenN (hK1900 _ _ ?_); clear hK1900
  refine wp_seq_k (fun K1903 hK1904 => ?_)
  refine wp_region_lit ?_
  refine stepp ha 13 (.pointer (some ⟨b1901, 0, none⟩)) KR KR ?_; clear ha a; intro a ha
  refine stepl ha 14 (HW.ca (i := 0) (b := b1901) (C := #[.int .i64 a0.f0, .int .i64 a0.f1, .int .i64 a0.f2, .bool a0.f3, .int .i64 a0.f4, .int .i64 a0.f5, .int .i64 a0.f6]) (T := 39) (fr := (0, 0)) KR) 3 0 (.tmp 13) (.int .i64 a0.f0) rfl KR KR KR ?_; clear ha a; intro a ha
  refine stepp ha 4 (.int .i64 a0.f0) KR KR ?_; clear ha a; intro a ha
  refine endl ?_
  refine thenN (hK1904 _ _ ?_); clear hK1904
  refine wp_seq_k (fun K1905 hK1906 => ?_)
  refine cutn (fun a W1911 => ∃ (x1910 : Int), cdb_Build.j0 K a0 x1910 = some r ∧ Has 137 [(1, .pointer (some ⟨b1901, 0, none⟩)), (4, .int .i64 x1910)] a ∧ Wd w W1911 [(b1901, .cells #[.int .i64 a0.f0, .int .i64 a0.f1, .int .i64 a0.f2, .bool a0.f3, .int .i64 a0.f4, .int .i64 a0.f5, .int .i64 a0.f6] 39 (0, 0))] []) ?_ ?_
  · skip
    refine wp_seq_k (fun K1907 hK1908 => ?_)
    refine wp_region_lit ?_
    refine stepp ha 15 (.int .i64 a0.f0) KR KR ?_; clear ha a; intro a ha
    refine stepp ha 16 (.bool (decide (a0.f0 > 255))) KR KR ?_; clear ha a; intro a ha
    refine endl ?_
    refine thenN (hK1908 _ _ ?_); clear hK1908
    by_cases hp1909 : a0.f0 > 255
    · skip
      replace h := ite_pos' h hp1909
      refine condT ha KR KR (t := decide (a0.f0 > 255)) (decide_eq_true hp1909) ?_
      refine wp_region_lit ?_
      refine stepp ha 17 (.int .i64 a0.f0) KR KR ?_; clear ha a; intro a ha
      refine stepp ha 18 (.int .i64 (IntKind.wrap .i64 (Int.tdiv a0.f0 256))) KR KR ?_; clear ha a; intro a ha
      refine stepp ha 4 (.int .i64 (IntKind.wrap .i64 (Int.tdiv a0.f0 256))) KR KR ?_; clear ha a; intro a ha
      refine endl ?_
      exact thenN ⟨IntKind.wrap .i64 (Int.tdiv a0.f0 256), h, ha.sub (subs_cons KR (subs_cons KR (subs_nil _))), HW.pick [0] [] (by decide) (by decide) KR KR⟩
    · skip
      replace h := ite_neg' h hp1909
      refine condF ha KR KR (t := decide (a0.f0 > 255)) (decide_eq_false hp1909) ?_
      refine wp_skip ?_
      exact thenN ⟨a0.f0, h, ha.sub (subs_cons KR (subs_cons KR (subs_nil _))), HW.pick [0] [] (by decide) (by decide) KR KR⟩
  · skip
    intro a W1911 hJ
    obtain ⟨x1910, h, ha, HW⟩ := hJ
    replace h : cdb_Build.j0 K a0 x1910 = some r := h
    unfold cdb_Build.j0 at h
    refine hK1906 _ _ ?_; clear hK1906
    refine wp_seq_k (fun K1912 hK1913 => ?_)
    refine wp_region_lit ?_
    refine stepp ha 19 (.int .i64 x1910) KR KR ?_; clear ha a; intro a ha
    obtain ⟨t1914, ht1915, h_⟩ := bind_some' h; clear h; have h := h_; clear h_
    refine stepc ha 20 KR KR (cdb_formOf.calls K x1910 t1914 _ (HW.ca0 hG1) ht1915) ?_; clear ha a; rintro e W1917 ⟨b1916, rfl, HX1918⟩
    refine ⟨_, rfl, ?_⟩; intro a ha; replace HW := HW.callw HX1918; clear HX1918
    rcases t1914 with _ | x1919
    · skip
      replace h := optc_n h
      replace HW : Wd w W1917 [(b1901, .cells #[.int .i64 a0.f0, .int .i64 a0.f1, .int .i64 a0.f2, .bool a0.f3, .int .i64 a0.f4, .int .i64 a0.f5, .int .i64 a0.f6] 39 (0, 0))] [] := HW
      replace ha := ha.turn 20 (v := .pointer none) KR rfl
      refine stepp ha 5 (.pointer none) KR KR ?_; clear ha a; intro a ha
      refine endl ?_
      refine thenN (hK1913 _ _ ?_); clear hK1913
      refine wp_seq_k (fun K1920 hK1921 => ?_)
      refine wp_seq_k (fun K1922 hK1923 => ?_)
      refine wp_region_lit ?_
      refine stepp ha 21 (.pointer none) KR KR ?_; clear ha a; intro a ha
      refine stepp ha 22 (.bool true) KR KR ?_; clear ha a; intro a ha
      refine stepp ha 23 (.bool true) KR KR ?_; clear ha a; intro a ha
      refine stepo ha 24 KR ?_; clear ha a; intro a ha
      refine stepo ha 25 KR ?_; clear ha a; intro a ha
      refine stepo ha 26 KR ?_; clear ha a; intro a ha
      refine stepp ha 27 (.bool true) KR KR ?_; clear ha a; intro a ha
      refine endl ?_
      refine thenN (hK1923 _ _ ?_); clear hK1923
      refine condT ha KR KR (t := true) (rfl) ?_
      refine wp_seq_k (fun K1924 hK1925 => ?_)
      refine wp_region_lit ?_
      refine stepp ha 2 (.string (⟨#[]⟩ : ByteArray)) KR KR ?_; clear ha a; intro a ha
      refine stepp ha 3 (.int .i64 150) KR KR ?_; clear ha a; intro a ha
      refine endl ?_
      refine thenN (hK1925 _ _ ?_); clear hK1925
      refine wp_ret ?_
      refine thenR ?_
      obtain rfl := Option.some.inj h
      exact finv ha _ _ rfl (.tmp (v := .string (⟨#[]⟩ : ByteArray)) KR (.tmp (v := .int .i64 150) KR .nil)) (.tuple #[.string (⟨#[]⟩ : ByteArray), .int .i64 150]) rfl ⟨rfl, HW.pick [] [] (by decide) (by decide) rfl KR⟩
    · skip
      replace h := optc_s h
      replace HW : Wd w W1917 [(b1916, .cells #[.int .i64 x1919.f0, .int .i64 x1919.f1, .int .i64 x1919.f2.f0, .int .i64 x1919.f2.f1, .int .i64 x1919.f3.f0, .int .i64 x1919.f3.f1, .int .i64 x1919.f4.f0, .int .i64 x1919.f4.f1] 75 (0, 0)), (b1901, .cells #[.int .i64 a0.f0, .int .i64 a0.f1, .int .i64 a0.f2, .bool a0.f3, .int .i64 a0.f4, .int .i64 a0.f5, .int .i64 a0.f6] 39 (0, 0))] [] := HW
      replace ha := ha.turn 20 (v := .pointer (some ⟨b1916, 0, none⟩)) KR rfl
      refine stepp ha 5 (.pointer (some ⟨b1916, 0, none⟩)) KR KR ?_; clear ha a; intro a ha
      refine endl ?_
      refine thenN (hK1913 _ _ ?_); clear hK1913
      refine wp_seq_k (fun K1926 hK1927 => ?_)
      refine wp_seq_k (fun K1928 hK1929 => ?_)
      refine wp_region_lit ?_
      refine stepp ha 21 (.pointer (some ⟨b1916, 0, none⟩)) KR KR ?_; clear ha a; intro a ha
      refine stepp ha 22 (.bool false) KR KR ?_; clear ha a; intro a ha
      refine stepp ha 23 (.bool false) KR KR ?_; clear ha a; intro a ha
      refine stepp ha 24 (.pointer (some ⟨b1901, 0, none⟩)) KR KR ?_; clear ha a; intro a ha
      refine stepl ha 25 (HW.ca (i := 1) (b := b1901) (C := #[.int .i64 a0.f0, .int .i64 a0.f1, .int .i64 a0.f2, .bool a0.f3, .int .i64 a0.f4, .int .i64 a0.f5, .int .i64 a0.f6]) (T := 39) (fr := (0, 0)) KR) 3 0 (.tmp 24) (.int .i64 a0.f0) rfl KR KR KR ?_; clear ha a; intro a ha
      refine stepp ha 26 (.bool (decide (a0.f0 < 0))) KR KR ?_; clear ha a; intro a ha
      refine stepp ha 27 (.bool (decide (a0.f0 < 0))) KR KR ?_; clear ha a; intro a ha
      refine endl ?_
      refine thenN (hK1929 _ _ ?_); clear hK1929
      by_cases hp1930 : a0.f0 < 0
      · skip
        replace h := ite_pos' h hp1930
        refine condT ha KR KR (t := decide (a0.f0 < 0)) (decide_eq_true hp1930) ?_
        refine wp_seq_k (fun K1931 hK1932 => ?_)
        refine wp_region_lit ?_
        refine stepp ha 2 (.string (⟨#[]⟩ : ByteArray)) KR KR ?_; clear ha a; intro a ha
        refine stepp ha 3 (.int .i64 150) KR KR ?_; clear ha a; intro a ha
        refine endl ?_
        refine thenN (hK1932 _ _ ?_); clear hK1932
        refine wp_ret ?_
        refine thenR ?_
        obtain rfl := Option.some.inj h
        exact finv ha _ _ rfl (.tmp (v := .string (⟨#[]⟩ : ByteArray)) KR (.tmp (v := .int .i64 150) KR .nil)) (.tuple #[.string (⟨#[]⟩ : ByteArray), .int .i64 150]) rfl ⟨rfl, HW.pick [] [] (by decide) (by decide) rfl KR⟩
      · skip
        replace h := ite_neg' h hp1930
        refine condF ha KR KR (t := decide (a0.f0 < 0)) (decide_eq_false hp1930) ?_
        refine wp_skip ?_
        refine thenN (hK1927 _ _ ?_); clear hK1927
        refine wp_seq_k (fun K1933 hK1934 => ?_)
        refine wp_region_lit ?_
        refine stepp ha 28 (.pointer (some ⟨b1916, 0, none⟩)) KR KR ?_; clear ha a; intro a ha
        refine stepp ha 29 (.pointer (some ⟨b1916, 0, none⟩)) KR KR ?_; clear ha a; intro a ha
        refine stepp ha 30 (.pointer (some ⟨b1916, 1, none⟩)) KR KR ?_; clear ha a; intro a ha
        refine stepl ha 31 (HW.ca (i := 0) (b := b1916) (C := #[.int .i64 x1919.f0, .int .i64 x1919.f1, .int .i64 x1919.f2.f0, .int .i64 x1919.f2.f1, .int .i64 x1919.f3.f0, .int .i64 x1919.f3.f1, .int .i64 x1919.f4.f0, .int .i64 x1919.f4.f1]) (T := 75) (fr := (0, 0)) KR) 3 1 (.tmp 30) (.int .i64 x1919.f1) rfl KR KR KR ?_; clear ha a; intro a ha
        obtain ⟨hA1935, h_⟩ := asrt_some h; clear h; have h := h_; clear h_
        obtain ⟨hA1936, h_⟩ := asrt_some h; clear h; have h := h_; clear h_
        refine stepmk (encI .u8) (0 : Int) ha HW 32 56 5 (.tmp 31) (.tmp 31) .i64 .i64 x1919.f1 (.int .u8 0) 1 rfl KR KR KR KR rfl rfl hA1935 (by have := hA1936; omega) (by have := hA1936; omega) KR ?_; clear ha HW a; intro b1937 a W1938 HW ha
        refine stepp ha 6 (.slice (some ⟨b1937, 0, none⟩) (List.replicate (x1919.f1 : Int).toNat (0 : Int)).length ((x1919.f1 : Int).toNat)) KR KR ?_; clear ha a; intro a ha
        refine endl ?_
        refine thenN (hK1934 _ _ ?_); clear hK1934
        refine wp_seq_k (fun K1940 hK1941 => ?_)
        refine wp_region_lit ?_
        refine stepp ha 33 (.slice (some ⟨b1937, 0, none⟩) (List.replicate (x1919.f1 : Int).toNat (0 : Int)).length ((x1919.f1 : Int).toNat)) KR KR ?_; clear ha a; intro a ha
        refine stepp ha 34 (.int .i64 x1910) KR KR ?_; clear ha a; intro a ha
        refine stepp ha 35 (.int .u8 (IntKind.wrap .u8 x1910)) KR KR ?_; clear ha a; intro a ha
        obtain ⟨hA1942, h_⟩ := asrt_some h; clear h; have h := h_; clear h_
        refine stepio (encI .u8) ha HW 36 0 (sz := 1) (e := 5) (v := .slice (some ⟨b1937, 0, none⟩) (List.replicate (x1919.f1 : Int).toNat (0 : Int)).length ((x1919.f1 : Int).toNat)) (xs := List.replicate (x1919.f1 : Int).toNat (0 : Int)) KR 56 (.tmp 33) (.const (.int .i64 0)) .i64 0 rfl KR KR KR KR (by decide) (show (0 : Int) < ((List.replicate (x1919.f1 : Int).toNat (0 : Int)).length : Int) from hA1942) KR ?_; clear ha a; intro b1943 a hb1944 ha
        refine stepos (encI .u8) (0 : Int) ha HW 0 (sz := 1) (e := 5) (fun _ => rfl) (v := .slice (some ⟨b1937, 0, none⟩) (List.replicate (x1919.f1 : Int).toNat (0 : Int)).length ((x1919.f1 : Int).toNat)) (xs := List.replicate (x1919.f1 : Int).toNat (0 : Int)) KR hb1944 0 (by decide) (show (0 : Int) < ((List.replicate (x1919.f1 : Int).toNat (0 : Int)).length : Int) from hA1942) 5 0 (.tmp 36) (.tmp 35) (.int .u8 (IntKind.wrap .u8 x1910)) (IntKind.wrap .u8 x1910) rfl KR KR KR KR KR KR KR (.slice (some ⟨b1937, 0, none⟩) ((List.replicate (x1919.f1 : Int).toNat (0 : Int)).set (0 : Int).toNat (IntKind.wrap .u8 x1910)).length ((x1919.f1 : Int).toNat)) (by rw [List.length_set]) ?_; clear ha HW a; intro a W1945 HW ha
        replace ha := ha.turn 32 (v := .slice (some ⟨b1937, 0, none⟩) ((List.replicate (x1919.f1 : Int).toNat (0 : Int)).set (0 : Int).toNat (IntKind.wrap .u8 x1910)).length ((x1919.f1 : Int).toNat)) KR (by rw [List.length_set])
        replace ha := ha.turn 6 (v := .slice (some ⟨b1937, 0, none⟩) ((List.replicate (x1919.f1 : Int).toNat (0 : Int)).set (0 : Int).toNat (IntKind.wrap .u8 x1910)).length ((x1919.f1 : Int).toNat)) KR (by rw [List.length_set])
        replace ha := ha.turn 33 (v := .slice (some ⟨b1937, 0, none⟩) ((List.replicate (x1919.f1 : Int).toNat (0 : Int)).set (0 : Int).toNat (IntKind.wrap .u8 x1910)).length ((x1919.f1 : Int).toNat)) KR (by rw [List.length_set])
        replace HW : Wd w W1945 [(b1916, .cells #[.int .i64 x1919.f0, .int .i64 x1919.f1, .int .i64 x1919.f2.f0, .int .i64 x1919.f2.f1, .int .i64 x1919.f3.f0, .int .i64 x1919.f3.f1, .int .i64 x1919.f4.f0, .int .i64 x1919.f4.f1] 75 (0, 0)), (b1901, .cells #[.int .i64 a0.f0, .int .i64 a0.f1, .int .i64 a0.f2, .bool a0.f3, .int .i64 a0.f4, .int .i64 a0.f5, .int .i64 a0.f6] 39 (0, 0))] [⟨5, 1, .slice (some ⟨b1937, 0, none⟩) ((List.replicate (x1919.f1 : Int).toNat (0 : Int)).set (0 : Int).toNat (IntKind.wrap .u8 x1910)).length ((x1919.f1 : Int).toNat), ((List.replicate (x1919.f1 : Int).toNat (0 : Int)).set (0 : Int).toNat (IntKind.wrap .u8 x1910)).length, encs (encI .u8) ((List.replicate (x1919.f1 : Int).toNat (0 : Int)).set (0 : Int).toNat (IntKind.wrap .u8 x1910))⟩] := HW
        refine endl ?_
        refine thenN (hK1941 _ _ ?_); clear hK1941
        refine wp_seq_k (fun K1946 hK1947 => ?_)
        refine cutn (fun a W2015 => ∃ (x2013 : List Int), cdb_Build.j3 K a0 x1919 x2013 = some r ∧ Has 137 [(1, .pointer (some ⟨b1901, 0, none⟩)), (5, .pointer (some ⟨b1916, 0, none⟩)), (6, .slice (some ⟨b1937, 0, none⟩) x2013.length ((x1919.f1 : Int).toNat))] a ∧ Wd w W2015 [(b1901, .cells #[.int .i64 a0.f0, .int .i64 a0.f1, .int .i64 a0.f2, .bool a0.f3, .int .i64 a0.f4, .int .i64 a0.f5, .int .i64 a0.f6] 39 (0, 0)), (b1916, .cells #[.int .i64 x1919.f0, .int .i64 x1919.f1, .int .i64 x1919.f2.f0, .int .i64 x1919.f2.f1, .int .i64 x1919.f3.f0, .int .i64 x1919.f3.f1, .int .i64 x1919.f4.f0, .int .i64 x1919.f4.f1] 75 (0, 0))] [⟨5, 1, .slice (some ⟨b1937, 0, none⟩) x2013.length ((x1919.f1 : Int).toNat), x2013.length, encs (encI .u8) x2013⟩]) ?_ ?_
        · skip
          refine wp_seq_k (fun K1948 hK1949 => ?_)
          refine wp_region_lit ?_
          refine stepp ha 37 (.int .i64 x1910) KR KR ?_; clear ha a; intro a ha
          refine endl ?_
          refine thenN (hK1949 _ _ ?_); clear hK1949
          refine wp_block ?_
          refine wp_seq_k (fun K1950 hK1951 => ?_)
          refine wp_region_lit ?_
          refine stepp ha 39 (.bool (x1910 == 18)) KR KR ?_; clear ha a; intro a ha
          refine stepp ha 38 (.bool (x1910 == 18)) KR KR ?_; clear ha a; intro a ha
          refine endl ?_
          refine thenN (hK1951 _ _ ?_); clear hK1951
          by_cases hp1952 : x1910 = 18
          · skip
            replace h := ite_pos' h hp1952
            refine condT ha KR KR (t := (x1910 == 18)) (ieq_t hp1952) ?_
            refine wp_seq_k (fun K1953 hK1954 => ?_)
            refine wp_region_lit ?_
            refine stepp ha 40 (.pointer (some ⟨b1901, 4, none⟩)) KR KR ?_; clear ha a; intro a ha
            refine stepl ha 41 (HW.ca (i := 1) (b := b1901) (C := #[.int .i64 a0.f0, .int .i64 a0.f1, .int .i64 a0.f2, .bool a0.f3, .int .i64 a0.f4, .int .i64 a0.f5, .int .i64 a0.f6]) (T := 39) (fr := (0, 0)) KR) 3 4 (.tmp 40) (.int .i64 a0.f4) rfl KR KR KR ?_; clear ha a; intro a ha
            refine stepp ha 42 (.bool (decide (a0.f4 > 0))) KR KR ?_; clear ha a; intro a ha
            refine endl ?_
            refine thenN (hK1954 _ _ ?_); clear hK1954
            by_cases hp1955 : a0.f4 > 0
            · skip
              replace h := ite_pos' h hp1955
              refine condT ha KR KR (t := decide (a0.f4 > 0)) (decide_eq_true hp1955) ?_
              obtain ⟨hA1956, h_⟩ := asrt_some h; clear h; have h := h_; clear h_
              refine regionL 7 KR ([(b1916, .cells #[.int .i64 x1919.f0, .int .i64 x1919.f1, .int .i64 x1919.f2.f0, .int .i64 x1919.f2.f1, .int .i64 x1919.f3.f0, .int .i64 x1919.f3.f1, .int .i64 x1919.f4.f0, .int .i64 x1919.f4.f1] 75 (0, 0)), (b1901, .cells #[.int .i64 a0.f0, .int .i64 a0.f1, .int .i64 a0.f2, .bool a0.f3, .int .i64 a0.f4, .int .i64 a0.f5, .int .i64 a0.f6] 39 (0, 0))], []) ([(b1916, .cells #[.int .i64 x1919.f0, .int .i64 x1919.f1, .int .i64 x1919.f2.f0, .int .i64 x1919.f2.f1, .int .i64 x1919.f3.f0, .int .i64 x1919.f3.f1, .int .i64 x1919.f4.f0, .int .i64 x1919.f4.f1] 75 (0, 0)), (b1901, .cells #[.int .i64 a0.f0, .int .i64 a0.f1, .int .i64 a0.f2, .bool a0.f3, .int .i64 a0.f4, .int .i64 a0.f5, .int .i64 a0.f6] 39 (0, 0))], [⟨5, 1, .slice (some ⟨b1937, 0, none⟩) ((List.replicate (x1919.f1 : Int).toNat (0 : Int)).set (0 : Int).toNat (IntKind.wrap .u8 x1910)).length ((x1919.f1 : Int).toNat), ((List.replicate (x1919.f1 : Int).toNat (0 : Int)).set (0 : Int).toNat (IntKind.wrap .u8 x1910)).length, encs (encI .u8) ((List.replicate (x1919.f1 : Int).toNat (0 : Int)).set (0 : Int).toNat (IntKind.wrap .u8 x1910))⟩]) [none, none, none, none, none, none, some ([(b1916, .cells #[.int .i64 x1919.f0, .int .i64 x1919.f1, .int .i64 x1919.f2.f0, .int .i64 x1919.f2.f1, .int .i64 x1919.f3.f0, .int .i64 x1919.f3.f1, .int .i64 x1919.f4.f0, .int .i64 x1919.f4.f1] 75 (0, 0)), (b1901, .cells #[.int .i64 a0.f0, .int .i64 a0.f1, .int .i64 a0.f2, .bool a0.f3, .int .i64 a0.f4, .int .i64 a0.f5, .int .i64 a0.f6] 39 (0, 0))], [⟨5, 1, .slice (some ⟨b1937, 0, none⟩) (((List.replicate (x1919.f1 : Int).toNat (0 : Int)).set (0 : Int).toNat (IntKind.wrap .u8 x1910)).set (1 : Int).toNat 1).length ((x1919.f1 : Int).toNat), (((List.replicate (x1919.f1 : Int).toNat (0 : Int)).set (0 : Int).toNat (IntKind.wrap .u8 x1910)).set (1 : Int).toNat 1).length, encs (encI .u8) (((List.replicate (x1919.f1 : Int).toNat (0 : Int)).set (0 : Int).toNat (IntKind.wrap .u8 x1910)).set (1 : Int).toNat 1)⟩])] [.fix (.slice (some ⟨b1937, 0, none⟩) ((List.replicate (x1919.f1 : Int).toNat (0 : Int)).set (0 : Int).toNat (IntKind.wrap .u8 x1910)).length ((x1919.f1 : Int).toNat)), .fix (.slice (some ⟨b1937, 0, none⟩) ((List.replicate (x1919.f1 : Int).toNat (0 : Int)).set (0 : Int).toNat (IntKind.wrap .u8 x1910)).length ((x1919.f1 : Int).toNat)), .fix (.pointer (some ⟨b1901, 4, none⟩)), .fix (.int .i64 a0.f4), .fix (.int .u8 (IntKind.wrap .u8 a0.f4)), .fix (.pointer (some ⟨b1937, 0 + (1 : Int).toNat * 1, none⟩)), .any] KR ha HW ⟨(fun w_ h_ => h_.pick [0, 1] [] (by decide) (by decide) KR KR), (fun w_ h_ => h_.pick [0, 1] [] (by decide) (by decide) KR KR)⟩ ?_ ?_
              · skip
                refine ⟨?_, ?_, ?_, ?_, ?_, ?_, ?_, trivial⟩
                · skip
                  intro a wr hn hd HW hs; have ha := hasNil hn hd
                  have ha := ha.add (seeE hs 6 (.slice (some ⟨b1937, 0, none⟩) ((List.replicate (x1919.f1 : Int).toNat (0 : Int)).set (0 : Int).toNat (IntKind.wrap .u8 x1910)).length ((x1919.f1 : Int).toNat)) KR KR)
                  refine yStep ha 43 KR ?_; intro l_ ha HK
                  refine stepp ha 43 (.slice (some ⟨b1937, 0, none⟩) ((List.replicate (x1919.f1 : Int).toNat (0 : Int)).set (0 : Int).toNat (IntKind.wrap .u8 x1910)).length ((x1919.f1 : Int).toNat)) KR KR ?_; intro ax hax; exact HK _ _ _ hax rfl (Below.refl _ _)
                · skip
                  intro a wr hn hd HW hs; have ha := hasNil hn hd
                  have ha := ha.add (seeE hs 6 (.slice (some ⟨b1937, 0, none⟩) ((List.replicate (x1919.f1 : Int).toNat (0 : Int)).set (0 : Int).toNat (IntKind.wrap .u8 x1910)).length ((x1919.f1 : Int).toNat)) KR KR)
                  refine yStep ha 44 KR ?_; intro l_ ha HK
                  refine stepp ha 44 (.slice (some ⟨b1937, 0, none⟩) ((List.replicate (x1919.f1 : Int).toNat (0 : Int)).set (0 : Int).toNat (IntKind.wrap .u8 x1910)).length ((x1919.f1 : Int).toNat)) KR KR ?_; intro ax hax; exact HK _ _ _ hax rfl (Below.refl _ _)
                · skip
                  intro a wr hn hd HW hs; have ha := hasNil hn hd
                  have ha := ha.add (seeE hs 1 (.pointer (some ⟨b1901, 0, none⟩)) KR KR)
                  refine yStep ha 45 KR ?_; intro l_ ha HK
                  refine stepp ha 45 (.pointer (some ⟨b1901, 4, none⟩)) KR KR ?_; intro ax hax; exact HK _ _ _ hax rfl (Below.refl _ _)
                · skip
                  intro a wr hn hd HW hs; have ha := hasNil hn hd
                  have ha := ha.add (seeF hs 45 2 (.pointer (some ⟨b1901, 4, none⟩)) KR KR)
                  refine yStep ha 46 KR ?_; intro l_ ha HK
                  refine stepl ha 46 (HW.ca (i := 1) (b := b1901) (C := #[.int .i64 a0.f0, .int .i64 a0.f1, .int .i64 a0.f2, .bool a0.f3, .int .i64 a0.f4, .int .i64 a0.f5, .int .i64 a0.f6]) (T := 39) (fr := (0, 0)) KR) 3 4 (.tmp 45) (.int .i64 a0.f4) rfl KR KR KR ?_; intro ax hax; exact HK _ _ _ hax rfl (Below.refl _ _)
                · skip
                  intro a wr hn hd HW hs; have ha := hasNil hn hd
                  have ha := ha.add (seeF hs 46 3 (.int .i64 a0.f4) KR KR)
                  refine yStep ha 47 KR ?_; intro l_ ha HK
                  refine stepp ha 47 (.int .u8 (IntKind.wrap .u8 a0.f4)) KR KR ?_; intro ax hax; exact HK _ _ _ hax rfl (Below.refl _ _)
                · skip
                  intro a wr hn hd HW hs; have ha := hasNil hn hd
                  have ha := ha.add (seeF hs 43 0 (.slice (some ⟨b1937, 0, none⟩) ((List.replicate (x1919.f1 : Int).toNat (0 : Int)).set (0 : Int).toNat (IntKind.wrap .u8 x1910)).length ((x1919.f1 : Int).toNat)) KR KR)
                  refine yStep ha 48 KR ?_; intro l_ ha HK
                  refine stepif ha 48 (sz := 1) (len := ((List.replicate (x1919.f1 : Int).toNat (0 : Int)).set (0 : Int).toNat (IntKind.wrap .u8 x1910)).length) (b := b1937) (off := 0) (c := (x1919.f1 : Int).toNat) 56 5 (.tmp 43) (.const (.int .i64 1)) .i64 1 rfl KR KR KR KR (by decide) (show (1 : Int) < (((List.replicate (x1919.f1 : Int).toNat (0 : Int)).set (0 : Int).toNat (IntKind.wrap .u8 x1910)).length : Int) from hA1956) KR ?_; intro ax hax; exact HK _ _ _ hax rfl (Below.refl _ _)
                · skip
                  intro a wr hn hd HW hs; have ha := hasNil hn hd
                  have ha := ha.add (seeF hs 48 5 (.pointer (some ⟨b1937, 0 + (1 : Int).toNat * 1, none⟩)) KR KR)
                  refine yStepS ha KR ?_; intro l_ ha HK
                  refine stepos (encI .u8) (0 : Int) ha HW 0 (sz := 1) (e := 5) (fun _ => rfl) (v := .slice (some ⟨b1937, 0, none⟩) ((List.replicate (x1919.f1 : Int).toNat (0 : Int)).set (0 : Int).toNat (IntKind.wrap .u8 x1910)).length ((x1919.f1 : Int).toNat)) (xs := (List.replicate (x1919.f1 : Int).toNat (0 : Int)).set (0 : Int).toNat (IntKind.wrap .u8 x1910)) KR rfl 1 (by decide) (show (1 : Int) < (((List.replicate (x1919.f1 : Int).toNat (0 : Int)).set (0 : Int).toNat (IntKind.wrap .u8 x1910)).length : Int) from hA1956) 5 0 (.tmp 48) (.const (.int .u8 1)) (.int .u8 1) 1 rfl KR KR KR KR KR KR KR (.slice (some ⟨b1937, 0, none⟩) (((List.replicate (x1919.f1 : Int).toNat (0 : Int)).set (0 : Int).toNat (IntKind.wrap .u8 x1910)).set (1 : Int).toNat 1).length ((x1919.f1 : Int).toNat)) (by rw [List.length_set]) ?_; intro ax wx HV hax; exact HK _ _ hax HV
              · skip
                intro a W1959 ha HW he hf
                replace HW : Wd w W1959 [(b1916, .cells #[.int .i64 x1919.f0, .int .i64 x1919.f1, .int .i64 x1919.f2.f0, .int .i64 x1919.f2.f1, .int .i64 x1919.f3.f0, .int .i64 x1919.f3.f1, .int .i64 x1919.f4.f0, .int .i64 x1919.f4.f1] 75 (0, 0)), (b1901, .cells #[.int .i64 a0.f0, .int .i64 a0.f1, .int .i64 a0.f2, .bool a0.f3, .int .i64 a0.f4, .int .i64 a0.f5, .int .i64 a0.f6] 39 (0, 0))] [⟨5, 1, .slice (some ⟨b1937, 0, none⟩) (((List.replicate (x1919.f1 : Int).toNat (0 : Int)).set (0 : Int).toNat (IntKind.wrap .u8 x1910)).set (1 : Int).toNat 1).length ((x1919.f1 : Int).toNat), (((List.replicate (x1919.f1 : Int).toNat (0 : Int)).set (0 : Int).toNat (IntKind.wrap .u8 x1910)).set (1 : Int).toNat 1).length, encs (encI .u8) (((List.replicate (x1919.f1 : Int).toNat (0 : Int)).set (0 : Int).toNat (IntKind.wrap .u8 x1910)).set (1 : Int).toNat 1)⟩] := HW
                replace ha := ha.add (he 1 (.pointer (some ⟨b1901, 0, none⟩)) KR KR)
                replace ha := ha.add (he 5 (.pointer (some ⟨b1916, 0, none⟩)) KR KR)
                replace ha := ha.add (he 6 (.slice (some ⟨b1937, 0, none⟩) ((List.replicate (x1919.f1 : Int).toNat (0 : Int)).set (0 : Int).toNat (IntKind.wrap .u8 x1910)).length ((x1919.f1 : Int).toNat)) KR KR)
                replace ha := ha.add (gotF (m := 7) (j := 1) (d := 44) (v := .slice (some ⟨b1937, 0, none⟩) ((List.replicate (x1919.f1 : Int).toNat (0 : Int)).set (0 : Int).toNat (IntKind.wrap .u8 x1910)).length ((x1919.f1 : Int).toNat)) hf KR KR KR)
                replace ha := ha.add (gotF (m := 7) (j := 4) (d := 47) (v := .int .u8 (IntKind.wrap .u8 a0.f4)) hf KR KR KR)
                clear he hf
                replace ha := ha.turn 6 (v := .slice (some ⟨b1937, 0, none⟩) (((List.replicate (x1919.f1 : Int).toNat (0 : Int)).set (0 : Int).toNat (IntKind.wrap .u8 x1910)).set (1 : Int).toNat 1).length ((x1919.f1 : Int).toNat)) KR (by rw [List.length_set])
                replace ha := ha.turn 44 (v := .slice (some ⟨b1937, 0, none⟩) (((List.replicate (x1919.f1 : Int).toNat (0 : Int)).set (0 : Int).toNat (IntKind.wrap .u8 x1910)).set (1 : Int).toNat 1).length ((x1919.f1 : Int).toNat)) KR (by rw [List.length_set])
                obtain ⟨hA1960, h_⟩ := asrt_some h; clear h; have h := h_; clear h_
                refine stepio (encI .u8) ha HW 49 0 (sz := 1) (e := 5) (v := .slice (some ⟨b1937, 0, none⟩) (((List.replicate (x1919.f1 : Int).toNat (0 : Int)).set (0 : Int).toNat (IntKind.wrap .u8 x1910)).set (1 : Int).toNat 1).length ((x1919.f1 : Int).toNat)) (xs := ((List.replicate (x1919.f1 : Int).toNat (0 : Int)).set (0 : Int).toNat (IntKind.wrap .u8 x1910)).set (1 : Int).toNat 1) KR 56 (.tmp 44) (.const (.int .i64 2)) .i64 2 rfl KR KR KR KR (by decide) (show (2 : Int) < ((((List.replicate (x1919.f1 : Int).toNat (0 : Int)).set (0 : Int).toNat (IntKind.wrap .u8 x1910)).set (1 : Int).toNat 1).length : Int) from hA1960) KR ?_; clear ha a; intro b1961 a hb1962 ha
                refine stepos (encI .u8) (0 : Int) ha HW 0 (sz := 1) (e := 5) (fun _ => rfl) (v := .slice (some ⟨b1937, 0, none⟩) (((List.replicate (x1919.f1 : Int).toNat (0 : Int)).set (0 : Int).toNat (IntKind.wrap .u8 x1910)).set (1 : Int).toNat 1).length ((x1919.f1 : Int).toNat)) (xs := ((List.replicate (x1919.f1 : Int).toNat (0 : Int)).set (0 : Int).toNat (IntKind.wrap .u8 x1910)).set (1 : Int).toNat 1) KR hb1962 2 (by decide) (show (2 : Int) < ((((List.replicate (x1919.f1 : Int).toNat (0 : Int)).set (0 : Int).toNat (IntKind.wrap .u8 x1910)).set (1 : Int).toNat 1).length : Int) from hA1960) 5 0 (.tmp 49) (.tmp 47) (.int .u8 (IntKind.wrap .u8 a0.f4)) (IntKind.wrap .u8 a0.f4) rfl KR KR KR KR KR KR KR (.slice (some ⟨b1937, 0, none⟩) ((((List.replicate (x1919.f1 : Int).toNat (0 : Int)).set (0 : Int).toNat (IntKind.wrap .u8 x1910)).set (1 : Int).toNat 1).set (2 : Int).toNat (IntKind.wrap .u8 a0.f4)).length ((x1919.f1 : Int).toNat)) (by rw [List.length_set]) ?_; clear ha HW a; intro a W1963 HW ha
                replace ha := ha.turn 6 (v := .slice (some ⟨b1937, 0, none⟩) ((((List.replicate (x1919.f1 : Int).toNat (0 : Int)).set (0 : Int).toNat (IntKind.wrap .u8 x1910)).set (1 : Int).toNat 1).set (2 : Int).toNat (IntKind.wrap .u8 a0.f4)).length ((x1919.f1 : Int).toNat)) KR (by rw [List.length_set])
                replace ha := ha.turn 44 (v := .slice (some ⟨b1937, 0, none⟩) ((((List.replicate (x1919.f1 : Int).toNat (0 : Int)).set (0 : Int).toNat (IntKind.wrap .u8 x1910)).set (1 : Int).toNat 1).set (2 : Int).toNat (IntKind.wrap .u8 a0.f4)).length ((x1919.f1 : Int).toNat)) KR (by rw [List.length_set])
                replace HW : Wd w W1963 [(b1916, .cells #[.int .i64 x1919.f0, .int .i64 x1919.f1, .int .i64 x1919.f2.f0, .int .i64 x1919.f2.f1, .int .i64 x1919.f3.f0, .int .i64 x1919.f3.f1, .int .i64 x1919.f4.f0, .int .i64 x1919.f4.f1] 75 (0, 0)), (b1901, .cells #[.int .i64 a0.f0, .int .i64 a0.f1, .int .i64 a0.f2, .bool a0.f3, .int .i64 a0.f4, .int .i64 a0.f5, .int .i64 a0.f6] 39 (0, 0))] [⟨5, 1, .slice (some ⟨b1937, 0, none⟩) ((((List.replicate (x1919.f1 : Int).toNat (0 : Int)).set (0 : Int).toNat (IntKind.wrap .u8 x1910)).set (1 : Int).toNat 1).set (2 : Int).toNat (IntKind.wrap .u8 a0.f4)).length ((x1919.f1 : Int).toNat), ((((List.replicate (x1919.f1 : Int).toNat (0 : Int)).set (0 : Int).toNat (IntKind.wrap .u8 x1910)).set (1 : Int).toNat 1).set (2 : Int).toNat (IntKind.wrap .u8 a0.f4)).length, encs (encI .u8) ((((List.replicate (x1919.f1 : Int).toNat (0 : Int)).set (0 : Int).toNat (IntKind.wrap .u8 x1910)).set (1 : Int).toNat 1).set (2 : Int).toNat (IntKind.wrap .u8 a0.f4))⟩] := HW
                refine endl ?_
                refine blkN ?_
                exact thenN ⟨(((List.replicate (x1919.f1 : Int).toNat (0 : Int)).set (0 : Int).toNat (IntKind.wrap .u8 x1910)).set (1 : Int).toNat 1).set (2 : Int).toNat (IntKind.wrap .u8 a0.f4), h, ha.sub (subs_cons KR (subs_cons KR (subs_cons KR (subs_nil _)))), HW.pick [1, 0] [0] (by decide) (by decide) KR KR⟩
            · skip
              replace h := ite_neg' h hp1955
              refine condF ha KR KR (t := decide (a0.f4 > 0)) (decide_eq_false hp1955) ?_
              refine wp_skip ?_
              refine blkN ?_
              exact thenN ⟨(List.replicate (x1919.f1 : Int).toNat (0 : Int)).set (0 : Int).toNat (IntKind.wrap .u8 x1910), h, ha.sub (subs_cons KR (subs_cons KR (subs_cons KR (subs_nil _)))), HW.pick [1, 0] [0] (by decide) (by decide) KR KR⟩
          · skip
            replace h := ite_neg' h hp1952
            refine condF ha KR KR (t := (x1910 == 18)) (ieq_f hp1952) ?_
            refine wp_seq_k (fun K1964 hK1965 => ?_)
            refine cutn (fun a W1971 => ∃ (x1970 : Bool), cdb_Build.j1 K a0 x1910 x1919 x1970 = some r ∧ Has 137 [(1, .pointer (some ⟨b1901, 0, none⟩)), (4, .int .i64 x1910), (5, .pointer (some ⟨b1916, 0, none⟩)), (6, .slice (some ⟨b1937, 0, none⟩) ((List.replicate (x1919.f1 : Int).toNat (0 : Int)).set (0 : Int).toNat (IntKind.wrap .u8 x1910)).length ((x1919.f1 : Int).toNat)), (37, .int .i64 x1910), (50, .bool x1970)] a ∧ Wd w W1971 [(b1901, .cells #[.int .i64 a0.f0, .int .i64 a0.f1, .int .i64 a0.f2, .bool a0.f3, .int .i64 a0.f4, .int .i64 a0.f5, .int .i64 a0.f6] 39 (0, 0)), (b1916, .cells #[.int .i64 x1919.f0, .int .i64 x1919.f1, .int .i64 x1919.f2.f0, .int .i64 x1919.f2.f1, .int .i64 x1919.f3.f0, .int .i64 x1919.f3.f1, .int .i64 x1919.f4.f0, .int .i64 x1919.f4.f1] 75 (0, 0))] [⟨5, 1, .slice (some ⟨b1937, 0, none⟩) ((List.replicate (x1919.f1 : Int).toNat (0 : Int)).set (0 : Int).toNat (IntKind.wrap .u8 x1910)).length ((x1919.f1 : Int).toNat), ((List.replicate (x1919.f1 : Int).toNat (0 : Int)).set (0 : Int).toNat (IntKind.wrap .u8 x1910)).length, encs (encI .u8) ((List.replicate (x1919.f1 : Int).toNat (0 : Int)).set (0 : Int).toNat (IntKind.wrap .u8 x1910))⟩]) ?_ ?_
            · skip
              refine wp_seq_k (fun K1966 hK1967 => ?_)
              refine wp_region_lit ?_
              refine stepp ha 51 (.bool (x1910 == 42)) KR KR ?_; clear ha a; intro a ha
              refine stepp ha 50 (.bool (x1910 == 42)) KR KR ?_; clear ha a; intro a ha
              refine endl ?_
              refine thenN (hK1967 _ _ ?_); clear hK1967
              by_cases hp1968 : x1910 = 42
              · skip
                replace h := ite_pos' h hp1968
                refine condT ha KR KR (t := (x1910 == 42)) (ieq_t hp1968) ?_
                refine wp_skip ?_
                exact thenN ⟨(x1910 == 42), h, ha.sub (subs_cons KR (subs_cons KR (subs_cons KR (subs_cons KR (subs_cons KR (subs_cons KR (subs_nil _))))))), HW.pick [1, 0] [0] (by decide) (by decide) KR KR⟩
              · skip
                replace h := ite_neg' h hp1968
                refine condF ha KR KR (t := (x1910 == 42)) (ieq_f hp1968) ?_
                refine wp_region_lit ?_
                refine stepp ha 52 (.bool (x1910 == 138)) KR KR ?_; clear ha a; intro a ha
                refine stepp ha 50 (.bool (x1910 == 138)) KR KR ?_; clear ha a; intro a ha
                refine endl ?_
                exact thenN ⟨(x1910 == 138), h, ha.sub (subs_cons KR (subs_cons KR (subs_cons KR (subs_cons KR (subs_cons KR (subs_cons KR (subs_nil _))))))), HW.pick [1, 0] [0] (by decide) (by decide) KR KR⟩
            · skip
              intro a W1971 hJ
              obtain ⟨x1970, h, ha, HW⟩ := hJ
              replace h : cdb_Build.j1 K a0 x1910 x1919 x1970 = some r := h
              unfold cdb_Build.j1 at h
              refine hK1965 _ _ ?_; clear hK1965
              by_cases hp1972 : x1970 = true
              · skip
                replace h := ite_pos' h hp1972
                refine condT ha KR KR (t := x1970) (hp1972) ?_
                refine wp_seq_k (fun K1973 hK1974 => ?_)
                refine wp_region_lit ?_
                refine stepp ha 53 (.pointer (some ⟨b1901, 3, none⟩)) KR KR ?_; clear ha a; intro a ha
                refine stepl ha 54 (HW.ca (i := 0) (b := b1901) (C := #[.int .i64 a0.f0, .int .i64 a0.f1, .int .i64 a0.f2, .bool a0.f3, .int .i64 a0.f4, .int .i64 a0.f5, .int .i64 a0.f6]) (T := 39) (fr := (0, 0)) KR) 4 3 (.tmp 53) (.bool a0.f3) rfl KR KR KR ?_; clear ha a; intro a ha
                refine endl ?_
                refine thenN (hK1974 _ _ ?_); clear hK1974
                by_cases hp1975 : a0.f3 = true
                · skip
                  replace h := ite_pos' h hp1975
                  refine condT ha KR KR (t := a0.f3) (hp1975) ?_
                  refine wp_region_lit ?_
                  refine stepp ha 55 (.slice (some ⟨b1937, 0, none⟩) ((List.replicate (x1919.f1 : Int).toNat (0 : Int)).set (0 : Int).toNat (IntKind.wrap .u8 x1910)).length ((x1919.f1 : Int).toNat)) KR KR ?_; clear ha a; intro a ha
                  obtain ⟨hA1976, h_⟩ := asrt_some h; clear h; have h := h_; clear h_
                  refine stepio (encI .u8) ha HW 56 0 (sz := 1) (e := 5) (v := .slice (some ⟨b1937, 0, none⟩) ((List.replicate (x1919.f1 : Int).toNat (0 : Int)).set (0 : Int).toNat (IntKind.wrap .u8 x1910)).length ((x1919.f1 : Int).toNat)) (xs := (List.replicate (x1919.f1 : Int).toNat (0 : Int)).set (0 : Int).toNat (IntKind.wrap .u8 x1910)) KR 56 (.tmp 55) (.const (.int .i64 1)) .i64 1 rfl KR KR KR KR (by decide) (show (1 : Int) < (((List.replicate (x1919.f1 : Int).toNat (0 : Int)).set (0 : Int).toNat (IntKind.wrap .u8 x1910)).length : Int) from hA1976) KR ?_; clear ha a; intro b1977 a hb1978 ha
                  refine stepos (encI .u8) (0 : Int) ha HW 0 (sz := 1) (e := 5) (fun _ => rfl) (v := .slice (some ⟨b1937, 0, none⟩) ((List.replicate (x1919.f1 : Int).toNat (0 : Int)).set (0 : Int).toNat (IntKind.wrap .u8 x1910)).length ((x1919.f1 : Int).toNat)) (xs := (List.replicate (x1919.f1 : Int).toNat (0 : Int)).set (0 : Int).toNat (IntKind.wrap .u8 x1910)) KR hb1978 1 (by decide) (show (1 : Int) < (((List.replicate (x1919.f1 : Int).toNat (0 : Int)).set (0 : Int).toNat (IntKind.wrap .u8 x1910)).length : Int) from hA1976) 5 0 (.tmp 56) (.const (.int .u8 8)) (.int .u8 8) 8 rfl KR KR KR KR KR KR KR (.slice (some ⟨b1937, 0, none⟩) (((List.replicate (x1919.f1 : Int).toNat (0 : Int)).set (0 : Int).toNat (IntKind.wrap .u8 x1910)).set (1 : Int).toNat 8).length ((x1919.f1 : Int).toNat)) (by rw [List.length_set]) ?_; clear ha HW a; intro a W1979 HW ha
                  replace ha := ha.turn 6 (v := .slice (some ⟨b1937, 0, none⟩) (((List.replicate (x1919.f1 : Int).toNat (0 : Int)).set (0 : Int).toNat (IntKind.wrap .u8 x1910)).set (1 : Int).toNat 8).length ((x1919.f1 : Int).toNat)) KR (by rw [List.length_set])
                  replace ha := ha.turn 55 (v := .slice (some ⟨b1937, 0, none⟩) (((List.replicate (x1919.f1 : Int).toNat (0 : Int)).set (0 : Int).toNat (IntKind.wrap .u8 x1910)).set (1 : Int).toNat 8).length ((x1919.f1 : Int).toNat)) KR (by rw [List.length_set])
                  replace HW : Wd w W1979 [(b1901, .cells #[.int .i64 a0.f0, .int .i64 a0.f1, .int .i64 a0.f2, .bool a0.f3, .int .i64 a0.f4, .int .i64 a0.f5, .int .i64 a0.f6] 39 (0, 0)), (b1916, .cells #[.int .i64 x1919.f0, .int .i64 x1919.f1, .int .i64 x1919.f2.f0, .int .i64 x1919.f2.f1, .int .i64 x1919.f3.f0, .int .i64 x1919.f3.f1, .int .i64 x1919.f4.f0, .int .i64 x1919.f4.f1] 75 (0, 0))] [⟨5, 1, .slice (some ⟨b1937, 0, none⟩) (((List.replicate (x1919.f1 : Int).toNat (0 : Int)).set (0 : Int).toNat (IntKind.wrap .u8 x1910)).set (1 : Int).toNat 8).length ((x1919.f1 : Int).toNat), (((List.replicate (x1919.f1 : Int).toNat (0 : Int)).set (0 : Int).toNat (IntKind.wrap .u8 x1910)).set (1 : Int).toNat 8).length, encs (encI .u8) (((List.replicate (x1919.f1 : Int).toNat (0 : Int)).set (0 : Int).toNat (IntKind.wrap .u8 x1910)).set (1 : Int).toNat 8)⟩] := HW
                  refine endl ?_
                  refine blkN ?_
                  exact thenN ⟨((List.replicate (x1919.f1 : Int).toNat (0 : Int)).set (0 : Int).toNat (IntKind.wrap .u8 x1910)).set (1 : Int).toNat 8, h, ha.sub (subs_cons KR (subs_cons KR (subs_cons KR (subs_nil _)))), HW.pick [0, 1] [0] (by decide) (by decide) KR KR⟩
                · skip
                  replace h := ite_neg' h hp1975
                  refine condF ha KR KR (t := a0.f3) (bool_f hp1975) ?_
                  refine wp_skip ?_
                  refine blkN ?_
                  exact thenN ⟨(List.replicate (x1919.f1 : Int).toNat (0 : Int)).set (0 : Int).toNat (IntKind.wrap .u8 x1910), h, ha.sub (subs_cons KR (subs_cons KR (subs_cons KR (subs_nil _)))), HW.pick [0, 1] [0] (by decide) (by decide) KR KR⟩
              · skip
                replace h := ite_neg' h hp1972
                refine condF ha KR KR (t := x1970) (bool_f hp1972) ?_
                refine wp_seq_k (fun K1980 hK1981 => ?_)
                refine wp_region_lit ?_
                refine stepp ha 58 (.bool (x1910 == 147)) KR KR ?_; clear ha a; intro a ha
                refine stepp ha 57 (.bool (x1910 == 147)) KR KR ?_; clear ha a; intro a ha
                refine endl ?_
                refine thenN (hK1981 _ _ ?_); clear hK1981
                by_cases hp1982 : x1910 = 147
                · skip
                  replace h := ite_pos' h hp1982
                  refine condT ha KR KR (t := (x1910 == 147)) (ieq_t hp1982) ?_
                  refine wp_region_lit ?_
                  refine stepp ha 59 (.slice (some ⟨b1937, 0, none⟩) ((List.replicate (x1919.f1 : Int).toNat (0 : Int)).set (0 : Int).toNat (IntKind.wrap .u8 x1910)).length ((x1919.f1 : Int).toNat)) KR KR ?_; clear ha a; intro a ha
                  obtain ⟨hA1983, h_⟩ := asrt_some h; clear h; have h := h_; clear h_
                  refine stepio (encI .u8) ha HW 60 0 (sz := 1) (e := 5) (v := .slice (some ⟨b1937, 0, none⟩) ((List.replicate (x1919.f1 : Int).toNat (0 : Int)).set (0 : Int).toNat (IntKind.wrap .u8 x1910)).length ((x1919.f1 : Int).toNat)) (xs := (List.replicate (x1919.f1 : Int).toNat (0 : Int)).set (0 : Int).toNat (IntKind.wrap .u8 x1910)) KR 56 (.tmp 59) (.const (.int .i64 1)) .i64 1 rfl KR KR KR KR (by decide) (show (1 : Int) < (((List.replicate (x1919.f1 : Int).toNat (0 : Int)).set (0 : Int).toNat (IntKind.wrap .u8 x1910)).length : Int) from hA1983) KR ?_; clear ha a; intro b1984 a hb1985 ha
                  refine stepos (encI .u8) (0 : Int) ha HW 0 (sz := 1) (e := 5) (fun _ => rfl) (v := .slice (some ⟨b1937, 0, none⟩) ((List.replicate (x1919.f1 : Int).toNat (0 : Int)).set (0 : Int).toNat (IntKind.wrap .u8 x1910)).length ((x1919.f1 : Int).toNat)) (xs := (List.replicate (x1919.f1 : Int).toNat (0 : Int)).set (0 : Int).toNat (IntKind.wrap .u8 x1910)) KR hb1985 1 (by decide) (show (1 : Int) < (((List.replicate (x1919.f1 : Int).toNat (0 : Int)).set (0 : Int).toNat (IntKind.wrap .u8 x1910)).length : Int) from hA1983) 5 0 (.tmp 60) (.const (.int .u8 1)) (.int .u8 1) 1 rfl KR KR KR KR KR KR KR (.slice (some ⟨b1937, 0, none⟩) (((List.replicate (x1919.f1 : Int).toNat (0 : Int)).set (0 : Int).toNat (IntKind.wrap .u8 x1910)).set (1 : Int).toNat 1).length ((x1919.f1 : Int).toNat)) (by rw [List.length_set]) ?_; clear ha HW a; intro a W1986 HW ha
                  replace ha := ha.turn 6 (v := .slice (some ⟨b1937, 0, none⟩) (((List.replicate (x1919.f1 : Int).toNat (0 : Int)).set (0 : Int).toNat (IntKind.wrap .u8 x1910)).set (1 : Int).toNat 1).length ((x1919.f1 : Int).toNat)) KR (by rw [List.length_set])
                  replace ha := ha.turn 59 (v := .slice (some ⟨b1937, 0, none⟩) (((List.replicate (x1919.f1 : Int).toNat (0 : Int)).set (0 : Int).toNat (IntKind.wrap .u8 x1910)).set (1 : Int).toNat 1).length ((x1919.f1 : Int).toNat)) KR (by rw [List.length_set])
                  replace HW : Wd w W1986 [(b1901, .cells #[.int .i64 a0.f0, .int .i64 a0.f1, .int .i64 a0.f2, .bool a0.f3, .int .i64 a0.f4, .int .i64 a0.f5, .int .i64 a0.f6] 39 (0, 0)), (b1916, .cells #[.int .i64 x1919.f0, .int .i64 x1919.f1, .int .i64 x1919.f2.f0, .int .i64 x1919.f2.f1, .int .i64 x1919.f3.f0, .int .i64 x1919.f3.f1, .int .i64 x1919.f4.f0, .int .i64 x1919.f4.f1] 75 (0, 0))] [⟨5, 1, .slice (some ⟨b1937, 0, none⟩) (((List.replicate (x1919.f1 : Int).toNat (0 : Int)).set (0 : Int).toNat (IntKind.wrap .u8 x1910)).set (1 : Int).toNat 1).length ((x1919.f1 : Int).toNat), (((List.replicate (x1919.f1 : Int).toNat (0 : Int)).set (0 : Int).toNat (IntKind.wrap .u8 x1910)).set (1 : Int).toNat 1).length, encs (encI .u8) (((List.replicate (x1919.f1 : Int).toNat (0 : Int)).set (0 : Int).toNat (IntKind.wrap .u8 x1910)).set (1 : Int).toNat 1)⟩] := HW
                  refine endl ?_
                  refine blkN ?_
                  exact thenN ⟨((List.replicate (x1919.f1 : Int).toNat (0 : Int)).set (0 : Int).toNat (IntKind.wrap .u8 x1910)).set (1 : Int).toNat 1, h, ha.sub (subs_cons KR (subs_cons KR (subs_cons KR (subs_nil _)))), HW.pick [0, 1] [0] (by decide) (by decide) KR KR⟩
                · skip
                  replace h := ite_neg' h hp1982
                  refine condF ha KR KR (t := (x1910 == 147)) (ieq_f hp1982) ?_
                  refine wp_seq_k (fun K1987 hK1988 => ?_)
                  refine cutn (fun a W1994 => ∃ (x1993 : Bool), cdb_Build.j2 K a0 x1910 x1919 x1993 = some r ∧ Has 137 [(1, .pointer (some ⟨b1901, 0, none⟩)), (4, .int .i64 x1910), (5, .pointer (some ⟨b1916, 0, none⟩)), (6, .slice (some ⟨b1937, 0, none⟩) ((List.replicate (x1919.f1 : Int).toNat (0 : Int)).set (0 : Int).toNat (IntKind.wrap .u8 x1910)).length ((x1919.f1 : Int).toNat)), (61, .bool x1993)] a ∧ Wd w W1994 [(b1901, .cells #[.int .i64 a0.f0, .int .i64 a0.f1, .int .i64 a0.f2, .bool a0.f3, .int .i64 a0.f4, .int .i64 a0.f5, .int .i64 a0.f6] 39 (0, 0)), (b1916, .cells #[.int .i64 x1919.f0, .int .i64 x1919.f1, .int .i64 x1919.f2.f0, .int .i64 x1919.f2.f1, .int .i64 x1919.f3.f0, .int .i64 x1919.f3.f1, .int .i64 x1919.f4.f0, .int .i64 x1919.f4.f1] 75 (0, 0))] [⟨5, 1, .slice (some ⟨b1937, 0, none⟩) ((List.replicate (x1919.f1 : Int).toNat (0 : Int)).set (0 : Int).toNat (IntKind.wrap .u8 x1910)).length ((x1919.f1 : Int).toNat), ((List.replicate (x1919.f1 : Int).toNat (0 : Int)).set (0 : Int).toNat (IntKind.wrap .u8 x1910)).length, encs (encI .u8) ((List.replicate (x1919.f1 : Int).toNat (0 : Int)).set (0 : Int).toNat (IntKind.wrap .u8 x1910))⟩]) ?_ ?_
                  · skip
                    refine wp_seq_k (fun K1989 hK1990 => ?_)
                    refine wp_region_lit ?_
                    refine stepp ha 62 (.bool (x1910 == 94)) KR KR ?_; clear ha a; intro a ha
                    refine stepp ha 61 (.bool (x1910 == 94)) KR KR ?_; clear ha a; intro a ha
                    refine endl ?_
                    refine thenN (hK1990 _ _ ?_); clear hK1990
                    by_cases hp1991 : x1910 = 94
                    · skip
                      replace h := ite_pos' h hp1991
                      refine condT ha KR KR (t := (x1910 == 94)) (ieq_t hp1991) ?_
                      refine wp_skip ?_
                      exact thenN ⟨(x1910 == 94), h, ha.sub (subs_cons KR (subs_cons KR (subs_cons KR (subs_cons KR (subs_cons KR (subs_nil _)))))), HW.pick [0, 1] [0] (by decide) (by decide) KR KR⟩
                    · skip
                      replace h := ite_neg' h hp1991
                      refine condF ha KR KR (t := (x1910 == 94)) (ieq_f hp1991) ?_
                      refine wp_region_lit ?_
                      refine stepp ha 63 (.bool (x1910 == 95)) KR KR ?_; clear ha a; intro a ha
                      refine stepp ha 61 (.bool (x1910 == 95)) KR KR ?_; clear ha a; intro a ha
                      refine endl ?_
                      exact thenN ⟨(x1910 == 95), h, ha.sub (subs_cons KR (subs_cons KR (subs_cons KR (subs_cons KR (subs_cons KR (subs_nil _)))))), HW.pick [0, 1] [0] (by decide) (by decide) KR KR⟩
                  · skip
                    intro a W1994 hJ
                    obtain ⟨x1993, h, ha, HW⟩ := hJ
                    replace h : cdb_Build.j2 K a0 x1910 x1919 x1993 = some r := h
                    unfold cdb_Build.j2 at h
                    refine hK1988 _ _ ?_; clear hK1988
                    by_cases hp1995 : x1993 = true
                    · skip
                      replace h := ite_pos' h hp1995
                      refine condT ha KR KR (t := x1993) (hp1995) ?_
                      refine wp_seq_k (fun K1996 hK1997 => ?_)
                      refine wp_region_lit ?_
                      refine stepp ha 64 (.slice (some ⟨b1937, 0, none⟩) ((List.replicate (x1919.f1 : Int).toNat (0 : Int)).set (0 : Int).toNat (IntKind.wrap .u8 x1910)).length ((x1919.f1 : Int).toNat)) KR KR ?_; clear ha a; intro a ha
                      refine stepp ha 65 (.pointer (some ⟨b1901, 0, none⟩)) KR KR ?_; clear ha a; intro a ha
                      refine stepl ha 66 (HW.ca (i := 0) (b := b1901) (C := #[.int .i64 a0.f0, .int .i64 a0.f1, .int .i64 a0.f2, .bool a0.f3, .int .i64 a0.f4, .int .i64 a0.f5, .int .i64 a0.f6]) (T := 39) (fr := (0, 0)) KR) 3 0 (.tmp 65) (.int .i64 a0.f0) rfl KR KR KR ?_; clear ha a; intro a ha
                      refine stepp ha 67 (.int .u8 (IntKind.wrap .u8 a0.f0)) KR KR ?_; clear ha a; intro a ha
                      obtain ⟨hA1998, h_⟩ := asrt_some h; clear h; have h := h_; clear h_
                      refine stepio (encI .u8) ha HW 68 0 (sz := 1) (e := 5) (v := .slice (some ⟨b1937, 0, none⟩) ((List.replicate (x1919.f1 : Int).toNat (0 : Int)).set (0 : Int).toNat (IntKind.wrap .u8 x1910)).length ((x1919.f1 : Int).toNat)) (xs := (List.replicate (x1919.f1 : Int).toNat (0 : Int)).set (0 : Int).toNat (IntKind.wrap .u8 x1910)) KR 56 (.tmp 64) (.const (.int .i64 1)) .i64 1 rfl KR KR KR KR (by decide) (show (1 : Int) < (((List.replicate (x1919.f1 : Int).toNat (0 : Int)).set (0 : Int).toNat (IntKind.wrap .u8 x1910)).length : Int) from hA1998) KR ?_; clear ha a; intro b1999 a hb2000 ha
                      refine stepos (encI .u8) (0 : Int) ha HW 0 (sz := 1) (e := 5) (fun _ => rfl) (v := .slice (some ⟨b1937, 0, none⟩) ((List.replicate (x1919.f1 : Int).toNat (0 : Int)).set (0 : Int).toNat (IntKind.wrap .u8 x1910)).length ((x1919.f1 : Int).toNat)) (xs := (List.replicate (x1919.f1 : Int).toNat (0 : Int)).set (0 : Int).toNat (IntKind.wrap .u8 x1910)) KR hb2000 1 (by decide) (show (1 : Int) < (((List.replicate (x1919.f1 : Int).toNat (0 : Int)).set (0 : Int).toNat (IntKind.wrap .u8 x1910)).length : Int) from hA1998) 5 0 (.tmp 68) (.tmp 67) (.int .u8 (IntKind.wrap .u8 a0.f0)) (IntKind.wrap .u8 a0.f0) rfl KR KR KR KR KR KR KR (.slice (some ⟨b1937, 0, none⟩) (((List.replicate (x1919.f1 : Int).toNat (0 : Int)).set (0 : Int).toNat (IntKind.wrap .u8 x1910)).set (1 : Int).toNat (IntKind.wrap .u8 a0.f0)).length ((x1919.f1 : Int).toNat)) (by rw [List.length_set]) ?_; clear ha HW a; intro a W2001 HW ha
                      replace ha := ha.turn 6 (v := .slice (some ⟨b1937, 0, none⟩) (((List.replicate (x1919.f1 : Int).toNat (0 : Int)).set (0 : Int).toNat (IntKind.wrap .u8 x1910)).set (1 : Int).toNat (IntKind.wrap .u8 a0.f0)).length ((x1919.f1 : Int).toNat)) KR (by rw [List.length_set])
                      replace ha := ha.turn 64 (v := .slice (some ⟨b1937, 0, none⟩) (((List.replicate (x1919.f1 : Int).toNat (0 : Int)).set (0 : Int).toNat (IntKind.wrap .u8 x1910)).set (1 : Int).toNat (IntKind.wrap .u8 a0.f0)).length ((x1919.f1 : Int).toNat)) KR (by rw [List.length_set])
                      replace HW : Wd w W2001 [(b1901, .cells #[.int .i64 a0.f0, .int .i64 a0.f1, .int .i64 a0.f2, .bool a0.f3, .int .i64 a0.f4, .int .i64 a0.f5, .int .i64 a0.f6] 39 (0, 0)), (b1916, .cells #[.int .i64 x1919.f0, .int .i64 x1919.f1, .int .i64 x1919.f2.f0, .int .i64 x1919.f2.f1, .int .i64 x1919.f3.f0, .int .i64 x1919.f3.f1, .int .i64 x1919.f4.f0, .int .i64 x1919.f4.f1] 75 (0, 0))] [⟨5, 1, .slice (some ⟨b1937, 0, none⟩) (((List.replicate (x1919.f1 : Int).toNat (0 : Int)).set (0 : Int).toNat (IntKind.wrap .u8 x1910)).set (1 : Int).toNat (IntKind.wrap .u8 a0.f0)).length ((x1919.f1 : Int).toNat), (((List.replicate (x1919.f1 : Int).toNat (0 : Int)).set (0 : Int).toNat (IntKind.wrap .u8 x1910)).set (1 : Int).toNat (IntKind.wrap .u8 a0.f0)).length, encs (encI .u8) (((List.replicate (x1919.f1 : Int).toNat (0 : Int)).set (0 : Int).toNat (IntKind.wrap .u8 x1910)).set (1 : Int).toNat (IntKind.wrap .u8 a0.f0))⟩] := HW
                      refine endl ?_
                      refine thenN (hK1997 _ _ ?_); clear hK1997
                      refine wp_seq_k (fun K2002 hK2003 => ?_)
                      refine wp_region_lit ?_
                      refine stepp ha 69 (.int .i64 x1910) KR KR ?_; clear ha a; intro a ha
                      refine stepp ha 70 (.bool (x1910 == 95)) KR KR ?_; clear ha a; intro a ha
                      refine endl ?_
                      refine thenN (hK2003 _ _ ?_); clear hK2003
                      by_cases hp2004 : x1910 = 95
                      · skip
                        replace h := ite_pos' h hp2004
                        refine condT ha KR KR (t := (x1910 == 95)) (ieq_t hp2004) ?_
                        refine wp_region_lit ?_
                        refine stepp ha 71 (.slice (some ⟨b1937, 0, none⟩) (((List.replicate (x1919.f1 : Int).toNat (0 : Int)).set (0 : Int).toNat (IntKind.wrap .u8 x1910)).set (1 : Int).toNat (IntKind.wrap .u8 a0.f0)).length ((x1919.f1 : Int).toNat)) KR KR ?_; clear ha a; intro a ha
                        refine stepp ha 72 (.pointer (some ⟨b1901, 6, none⟩)) KR KR ?_; clear ha a; intro a ha
                        refine stepl ha 73 (HW.ca (i := 0) (b := b1901) (C := #[.int .i64 a0.f0, .int .i64 a0.f1, .int .i64 a0.f2, .bool a0.f3, .int .i64 a0.f4, .int .i64 a0.f5, .int .i64 a0.f6]) (T := 39) (fr := (0, 0)) KR) 3 6 (.tmp 72) (.int .i64 a0.f6) rfl KR KR KR ?_; clear ha a; intro a ha
                        obtain ⟨t2005, ht2006, h_⟩ := bind_some' h; clear h; have h := h_; clear h_
                        refine stepc ha 74 KR KR (cdb_Number.calls a0.f6 t2005 _ (HW.ca0 hG0) ht2006) ?_; clear ha a; rintro e W2007 ⟨rfl, HX2008⟩
                        refine ⟨_, rfl, ?_⟩; intro a ha; replace HW := HW.callw HX2008; clear HX2008
                        refine stepp ha 75 (.int .u8 (IntKind.wrap .u8 t2005)) KR KR ?_; clear ha a; intro a ha
                        obtain ⟨hA2009, h_⟩ := asrt_some h; clear h; have h := h_; clear h_
                        refine stepio (encI .u8) ha HW 76 0 (sz := 1) (e := 5) (v := .slice (some ⟨b1937, 0, none⟩) (((List.replicate (x1919.f1 : Int).toNat (0 : Int)).set (0 : Int).toNat (IntKind.wrap .u8 x1910)).set (1 : Int).toNat (IntKind.wrap .u8 a0.f0)).length ((x1919.f1 : Int).toNat)) (xs := ((List.replicate (x1919.f1 : Int).toNat (0 : Int)).set (0 : Int).toNat (IntKind.wrap .u8 x1910)).set (1 : Int).toNat (IntKind.wrap .u8 a0.f0)) KR 56 (.tmp 71) (.const (.int .i64 2)) .i64 2 rfl KR KR KR KR (by decide) (show (2 : Int) < ((((List.replicate (x1919.f1 : Int).toNat (0 : Int)).set (0 : Int).toNat (IntKind.wrap .u8 x1910)).set (1 : Int).toNat (IntKind.wrap .u8 a0.f0)).length : Int) from hA2009) KR ?_; clear ha a; intro b2010 a hb2011 ha
                        refine stepos (encI .u8) (0 : Int) ha HW 0 (sz := 1) (e := 5) (fun _ => rfl) (v := .slice (some ⟨b1937, 0, none⟩) (((List.replicate (x1919.f1 : Int).toNat (0 : Int)).set (0 : Int).toNat (IntKind.wrap .u8 x1910)).set (1 : Int).toNat (IntKind.wrap .u8 a0.f0)).length ((x1919.f1 : Int).toNat)) (xs := ((List.replicate (x1919.f1 : Int).toNat (0 : Int)).set (0 : Int).toNat (IntKind.wrap .u8 x1910)).set (1 : Int).toNat (IntKind.wrap .u8 a0.f0)) KR hb2011 2 (by decide) (show (2 : Int) < ((((List.replicate (x1919.f1 : Int).toNat (0 : Int)).set (0 : Int).toNat (IntKind.wrap .u8 x1910)).set (1 : Int).toNat (IntKind.wrap .u8 a0.f0)).length : Int) from hA2009) 5 0 (.tmp 76) (.tmp 75) (.int .u8 (IntKind.wrap .u8 t2005)) (IntKind.wrap .u8 t2005) rfl KR KR KR KR KR KR KR (.slice (some ⟨b1937, 0, none⟩) ((((List.replicate (x1919.f1 : Int).toNat (0 : Int)).set (0 : Int).toNat (IntKind.wrap .u8 x1910)).set (1 : Int).toNat (IntKind.wrap .u8 a0.f0)).set (2 : Int).toNat (IntKind.wrap .u8 t2005)).length ((x1919.f1 : Int).toNat)) (by rw [List.length_set]) ?_; clear ha HW a; intro a W2012 HW ha
                        replace ha := ha.turn 6 (v := .slice (some ⟨b1937, 0, none⟩) ((((List.replicate (x1919.f1 : Int).toNat (0 : Int)).set (0 : Int).toNat (IntKind.wrap .u8 x1910)).set (1 : Int).toNat (IntKind.wrap .u8 a0.f0)).set (2 : Int).toNat (IntKind.wrap .u8 t2005)).length ((x1919.f1 : Int).toNat)) KR (by rw [List.length_set])
                        replace ha := ha.turn 64 (v := .slice (some ⟨b1937, 0, none⟩) ((((List.replicate (x1919.f1 : Int).toNat (0 : Int)).set (0 : Int).toNat (IntKind.wrap .u8 x1910)).set (1 : Int).toNat (IntKind.wrap .u8 a0.f0)).set (2 : Int).toNat (IntKind.wrap .u8 t2005)).length ((x1919.f1 : Int).toNat)) KR (by rw [List.length_set])
                        replace ha := ha.turn 71 (v := .slice (some ⟨b1937, 0, none⟩) ((((List.replicate (x1919.f1 : Int).toNat (0 : Int)).set (0 : Int).toNat (IntKind.wrap .u8 x1910)).set (1 : Int).toNat (IntKind.wrap .u8 a0.f0)).set (2 : Int).toNat (IntKind.wrap .u8 t2005)).length ((x1919.f1 : Int).toNat)) KR (by rw [List.length_set])
                        replace HW : Wd w W2012 [(b1901, .cells #[.int .i64 a0.f0, .int .i64 a0.f1, .int .i64 a0.f2, .bool a0.f3, .int .i64 a0.f4, .int .i64 a0.f5, .int .i64 a0.f6] 39 (0, 0)), (b1916, .cells #[.int .i64 x1919.f0, .int .i64 x1919.f1, .int .i64 x1919.f2.f0, .int .i64 x1919.f2.f1, .int .i64 x1919.f3.f0, .int .i64 x1919.f3.f1, .int .i64 x1919.f4.f0, .int .i64 x1919.f4.f1] 75 (0, 0))] [⟨5, 1, .slice (some ⟨b1937, 0, none⟩) ((((List.replicate (x1919.f1 : Int).toNat (0 : Int)).set (0 : Int).toNat (IntKind.wrap .u8 x1910)).set (1 : Int).toNat (IntKind.wrap .u8 a0.f0)).set (2 : Int).toNat (IntKind.wrap .u8 t2005)).length ((x1919.f1 : Int).toNat), ((((List.replicate (x1919.f1 : Int).toNat (0 : Int)).set (0 : Int).toNat (IntKind.wrap .u8 x1910)).set (1 : Int).toNat (IntKind.wrap .u8 a0.f0)).set (2 : Int).toNat (IntKind.wrap .u8 t2005)).length, encs (encI .u8) ((((List.replicate (x1919.f1 : Int).toNat (0 : Int)).set (0 : Int).toNat (IntKind.wrap .u8 x1910)).set (1 : Int).toNat (IntKind.wrap .u8 a0.f0)).set (2 : Int).toNat (IntKind.wrap .u8 t2005))⟩] := HW
                        refine endl ?_
                        refine blkN ?_
                        exact thenN ⟨(((List.replicate (x1919.f1 : Int).toNat (0 : Int)).set (0 : Int).toNat (IntKind.wrap .u8 x1910)).set (1 : Int).toNat (IntKind.wrap .u8 a0.f0)).set (2 : Int).toNat (IntKind.wrap .u8 t2005), h, ha.sub (subs_cons KR (subs_cons KR (subs_cons KR (subs_nil _)))), HW.pick [0, 1] [0] (by decide) (by decide) KR KR⟩
                      · skip
                        replace h := ite_neg' h hp2004
                        refine condF ha KR KR (t := (x1910 == 95)) (ieq_f hp2004) ?_
                        refine wp_skip ?_
                        refine blkN ?_
                        exact thenN ⟨((List.replicate (x1919.f1 : Int).toNat (0 : Int)).set (0 : Int).toNat (IntKind.wrap .u8 x1910)).set (1 : Int).toNat (IntKind.wrap .u8 a0.f0), h, ha.sub (subs_cons KR (subs_cons KR (subs_cons KR (subs_nil _)))), HW.pick [0, 1] [0] (by decide) (by decide) KR KR⟩
                    · skip
                      replace h := ite_neg' h hp1995
                      refine condF ha KR KR (t := x1993) (bool_f hp1995) ?_
                      refine wp_skip ?_
                      refine blkN ?_
                      exact thenN ⟨(List.replicate (x1919.f1 : Int).toNat (0 : Int)).set (0 : Int).toNat (IntKind.wrap .u8 x1910), h, ha.sub (subs_cons KR (subs_cons KR (subs_cons KR (subs_nil _)))), HW.pick [0, 1] [0] (by decide) (by decide) KR KR⟩
        · skip
          intro a W2015 hJ
          obtain ⟨x2013, h, ha, HW⟩ := hJ
          replace h : cdb_Build.j3 K a0 x1919 x2013 = some r := h
          unfold cdb_Build.j3 at h
          refine hK1947 _ _ ?_; clear hK1947
          refine wp_seq_k (fun K2016 hK2017 => ?_)
          refine wp_region_lit ?_
          refine stepp ha 77 (.slice (some ⟨b1937, 0, none⟩) x2013.length ((x1919.f1 : Int).toNat)) KR KR ?_; clear ha a; intro a ha
          refine stepbt ha 78 56 9 5 (.tmp 77) (v := .slice (some ⟨b1937, 0, none⟩) x2013.length ((x1919.f1 : Int).toNat)) (xs := x2013) (HW.rdo (i := 0) (q := ⟨5, 1, .slice (some ⟨b1937, 0, none⟩) x2013.length ((x1919.f1 : Int).toNat), x2013.length, encs (encI .u8) x2013⟩) KR) rfl KR KR KR KR KR ?_; clear ha a; intro a ha
          refine stepp ha 7 (.string (strOfNums x2013)) KR KR ?_; clear ha a; intro a ha
          refine endl ?_
          refine thenN (hK2017 _ _ ?_); clear hK2017
          refine wp_seq_k (fun K2018 hK2019 => ?_)
          refine wp_seq_k (fun K2020 hK2021 => ?_)
          refine regionG 15 KR KR ha HW [.fix (.pointer (some ⟨b1916, 0, none⟩)), .fix (.pointer (some ⟨b1916, 0, none⟩)), .fix (.pointer (some ⟨b1916, 2, none⟩)), .fix (.agg #[.int .i64 x1919.f2.f0, .int .i64 x1919.f2.f1]), .fix (.pointer (some ⟨b1916, 0, none⟩)), .fix (.pointer (some ⟨b1916, 0, none⟩)), .fix (.pointer (some ⟨b1916, 4, none⟩)), .fix (.agg #[.int .i64 x1919.f3.f0, .int .i64 x1919.f3.f1]), .fix (.pointer (some ⟨b1916, 0, none⟩)), .fix (.pointer (some ⟨b1916, 0, none⟩)), .fix (.pointer (some ⟨b1916, 6, none⟩)), .fix (.agg #[.int .i64 x1919.f4.f0, .int .i64 x1919.f4.f1]), .lit w 73 ([(⟨x1919.f2.f0, x1919.f2.f1⟩ : T_cdb_span), (⟨x1919.f3.f0, x1919.f3.f1⟩ : T_cdb_span), (⟨x1919.f4.f0, x1919.f4.f1⟩ : T_cdb_span)] : List T_cdb_span).length #[.int .i64 x1919.f2.f0, .int .i64 x1919.f2.f1, .int .i64 x1919.f3.f0, .int .i64 x1919.f3.f1, .int .i64 x1919.f4.f0, .int .i64 x1919.f4.f1] [(b1901, .cells #[.int .i64 a0.f0, .int .i64 a0.f1, .int .i64 a0.f2, .bool a0.f3, .int .i64 a0.f4, .int .i64 a0.f5, .int .i64 a0.f6] 39 (0, 0)), (b1916, .cells #[.int .i64 x1919.f0, .int .i64 x1919.f1, .int .i64 x1919.f2.f0, .int .i64 x1919.f2.f1, .int .i64 x1919.f3.f0, .int .i64 x1919.f3.f1, .int .i64 x1919.f4.f0, .int .i64 x1919.f4.f1] 75 (0, 0))] [⟨5, 1, .slice (some ⟨b1937, 0, none⟩) x2013.length ((x1919.f1 : Int).toNat), x2013.length, encs (encI .u8) x2013⟩], .fix (.int .i64 (([(⟨x1919.f2.f0, x1919.f2.f1⟩ : T_cdb_span), (⟨x1919.f3.f0, x1919.f3.f1⟩ : T_cdb_span), (⟨x1919.f4.f0, x1919.f4.f1⟩ : T_cdb_span)] : List T_cdb_span).length : Int)), .fix (.int .i64 0)] ?_ ?_
          · skip
            refine ⟨?_, ?_, ?_, ?_, ?_, ?_, ?_, ?_, ?_, ?_, ?_, ?_, ?_, ?_, ?_, trivial⟩
            · skip
              intro a wr hn hd HW hs; have ha := hasNil hn hd
              have ha := ha.add (seeE hs 5 (.pointer (some ⟨b1916, 0, none⟩)) KR KR)
              refine yStep ha 79 KR ?_; intro l_ ha HK
              refine stepp ha 79 (.pointer (some ⟨b1916, 0, none⟩)) KR KR ?_; intro ax hax; exact HK _ _ _ hax rfl (Below.refl _ _)
            · skip
              intro a wr hn hd HW hs; have ha := hasNil hn hd
              have ha := ha.add (seeF hs 79 0 (.pointer (some ⟨b1916, 0, none⟩)) KR KR)
              refine yStep ha 80 KR ?_; intro l_ ha HK
              refine stepp ha 80 (.pointer (some ⟨b1916, 0, none⟩)) KR KR ?_; intro ax hax; exact HK _ _ _ hax rfl (Below.refl _ _)
            · skip
              intro a wr hn hd HW hs; have ha := hasNil hn hd
              have ha := ha.add (seeF hs 80 1 (.pointer (some ⟨b1916, 0, none⟩)) KR KR)
              refine yStep ha 81 KR ?_; intro l_ ha HK
              refine stepp ha 81 (.pointer (some ⟨b1916, 2, none⟩)) KR KR ?_; intro ax hax; exact HK _ _ _ hax rfl (Below.refl _ _)
            · skip
              intro a wr hn hd HW hs; have ha := hasNil hn hd
              have ha := ha.add (seeF hs 81 2 (.pointer (some ⟨b1916, 2, none⟩)) KR KR)
              refine yStep ha 82 KR ?_; intro l_ ha HK
              refine stepl ha 82 (HW.ca (i := 1) (b := b1916) (C := #[.int .i64 x1919.f0, .int .i64 x1919.f1, .int .i64 x1919.f2.f0, .int .i64 x1919.f2.f1, .int .i64 x1919.f3.f0, .int .i64 x1919.f3.f1, .int .i64 x1919.f4.f0, .int .i64 x1919.f4.f1]) (T := 75) (fr := (0, 0)) KR) 73 2 (.tmp 81) (.agg #[.int .i64 x1919.f2.f0, .int .i64 x1919.f2.f1]) rfl KR KR KR ?_; intro ax hax; exact HK _ _ _ hax rfl (Below.refl _ _)
            · skip
              intro a wr hn hd HW hs; have ha := hasNil hn hd
              have ha := ha.add (seeE hs 5 (.pointer (some ⟨b1916, 0, none⟩)) KR KR)
              refine yStep ha 83 KR ?_; intro l_ ha HK
              refine stepp ha 83 (.pointer (some ⟨b1916, 0, none⟩)) KR KR ?_; intro ax hax; exact HK _ _ _ hax rfl (Below.refl _ _)
            · skip
              intro a wr hn hd HW hs; have ha := hasNil hn hd
              have ha := ha.add (seeF hs 83 4 (.pointer (some ⟨b1916, 0, none⟩)) KR KR)
              refine yStep ha 84 KR ?_; intro l_ ha HK
              refine stepp ha 84 (.pointer (some ⟨b1916, 0, none⟩)) KR KR ?_; intro ax hax; exact HK _ _ _ hax rfl (Below.refl _ _)
            · skip
              intro a wr hn hd HW hs; have ha := hasNil hn hd
              have ha := ha.add (seeF hs 84 5 (.pointer (some ⟨b1916, 0, none⟩)) KR KR)
              refine yStep ha 85 KR ?_; intro l_ ha HK
              refine stepp ha 85 (.pointer (some ⟨b1916, 4, none⟩)) KR KR ?_; intro ax hax; exact HK _ _ _ hax rfl (Below.refl _ _)
            · skip
              intro a wr hn hd HW hs; have ha := hasNil hn hd
              have ha := ha.add (seeF hs 85 6 (.pointer (some ⟨b1916, 4, none⟩)) KR KR)
              refine yStep ha 86 KR ?_; intro l_ ha HK
              refine stepl ha 86 (HW.ca (i := 1) (b := b1916) (C := #[.int .i64 x1919.f0, .int .i64 x1919.f1, .int .i64 x1919.f2.f0, .int .i64 x1919.f2.f1, .int .i64 x1919.f3.f0, .int .i64 x1919.f3.f1, .int .i64 x1919.f4.f0, .int .i64 x1919.f4.f1]) (T := 75) (fr := (0, 0)) KR) 73 4 (.tmp 85) (.agg #[.int .i64 x1919.f3.f0, .int .i64 x1919.f3.f1]) rfl KR KR KR ?_; intro ax hax; exact HK _ _ _ hax rfl (Below.refl _ _)
            · skip
              intro a wr hn hd HW hs; have ha := hasNil hn hd
              have ha := ha.add (seeE hs 5 (.pointer (some ⟨b1916, 0, none⟩)) KR KR)
              refine yStep ha 87 KR ?_; intro l_ ha HK
              refine stepp ha 87 (.pointer (some ⟨b1916, 0, none⟩)) KR KR ?_; intro ax hax; exact HK _ _ _ hax rfl (Below.refl _ _)
            · skip
              intro a wr hn hd HW hs; have ha := hasNil hn hd
              have ha := ha.add (seeF hs 87 8 (.pointer (some ⟨b1916, 0, none⟩)) KR KR)
              refine yStep ha 88 KR ?_; intro l_ ha HK
              refine stepp ha 88 (.pointer (some ⟨b1916, 0, none⟩)) KR KR ?_; intro ax hax; exact HK _ _ _ hax rfl (Below.refl _ _)
            · skip
              intro a wr hn hd HW hs; have ha := hasNil hn hd
              have ha := ha.add (seeF hs 88 9 (.pointer (some ⟨b1916, 0, none⟩)) KR KR)
              refine yStep ha 89 KR ?_; intro l_ ha HK
              refine stepp ha 89 (.pointer (some ⟨b1916, 6, none⟩)) KR KR ?_; intro ax hax; exact HK _ _ _ hax rfl (Below.refl _ _)
            · skip
              intro a wr hn hd HW hs; have ha := hasNil hn hd
              have ha := ha.add (seeF hs 89 10 (.pointer (some ⟨b1916, 6, none⟩)) KR KR)
              refine yStep ha 90 KR ?_; intro l_ ha HK
              refine stepl ha 90 (HW.ca (i := 1) (b := b1916) (C := #[.int .i64 x1919.f0, .int .i64 x1919.f1, .int .i64 x1919.f2.f0, .int .i64 x1919.f2.f1, .int .i64 x1919.f3.f0, .int .i64 x1919.f3.f1, .int .i64 x1919.f4.f0, .int .i64 x1919.f4.f1]) (T := 75) (fr := (0, 0)) KR) 73 6 (.tmp 89) (.agg #[.int .i64 x1919.f4.f0, .int .i64 x1919.f4.f1]) rfl KR KR KR ?_; intro ax hax; exact HK _ _ _ hax rfl (Below.refl _ _)
            · skip
              intro a wr hn hd HW hs; have ha := hasNil hn hd
              have ha := ha.add (seeF hs 82 3 (.agg #[.int .i64 x1919.f2.f0, .int .i64 x1919.f2.f1]) KR KR)
              have ha := ha.add (seeF hs 86 7 (.agg #[.int .i64 x1919.f3.f0, .int .i64 x1919.f3.f1]) KR KR)
              have ha := ha.add (seeF hs 90 11 (.agg #[.int .i64 x1919.f4.f0, .int .i64 x1919.f4.f1]) KR KR)
              refine yStep ha 91 KR ?_; intro l_ ha HK
              refine stepbk ha (Wd.refl wr) 91 73 3 #[.int .i64 x1919.f2.f0, .int .i64 x1919.f2.f1, .int .i64 x1919.f3.f0, .int .i64 x1919.f3.f1, .int .i64 x1919.f4.f0, .int .i64 x1919.f4.f1] KR KR ?_; intro b2022 ax W2023 HV hax
              exact HK _ _ _ hax ⟨b2022, rfl, HW.callw HV⟩ HV.below
            · skip
              intro a wr hn hd HW hs; have ha := hasNil hn hd
              obtain ⟨b2022, he_, hR2025⟩ := seeL (enc := T_cdb_span.enc) hs 91 12 2 73 #[.int .i64 x1919.f2.f0, .int .i64 x1919.f2.f1, .int .i64 x1919.f3.f0, .int .i64 x1919.f3.f1, .int .i64 x1919.f4.f0, .int .i64 x1919.f4.f1] ([(⟨x1919.f2.f0, x1919.f2.f1⟩ : T_cdb_span), (⟨x1919.f3.f0, x1919.f3.f1⟩ : T_cdb_span), (⟨x1919.f4.f0, x1919.f4.f1⟩ : T_cdb_span)] : List T_cdb_span) (w1 := w) (bs1 := [(b1901, .cells #[.int .i64 a0.f0, .int .i64 a0.f1, .int .i64 a0.f2, .bool a0.f3, .int .i64 a0.f4, .int .i64 a0.f5, .int .i64 a0.f6] 39 (0, 0)), (b1916, .cells #[.int .i64 x1919.f0, .int .i64 x1919.f1, .int .i64 x1919.f2.f0, .int .i64 x1919.f2.f1, .int .i64 x1919.f3.f0, .int .i64 x1919.f3.f1, .int .i64 x1919.f4.f0, .int .i64 x1919.f4.f1] 75 (0, 0))]) (os1 := [⟨5, 1, .slice (some ⟨b1937, 0, none⟩) x2013.length ((x1919.f1 : Int).toNat), x2013.length, encs (encI .u8) x2013⟩]) KR KR (fun _ => rfl) rfl; have ha := ha.add he_
              refine yStep ha 92 KR ?_; intro l_ ha HK
              refine stepp ha 92 (.int .i64 (([(⟨x1919.f2.f0, x1919.f2.f1⟩ : T_cdb_span), (⟨x1919.f3.f0, x1919.f3.f1⟩ : T_cdb_span), (⟨x1919.f4.f0, x1919.f4.f1⟩ : T_cdb_span)] : List T_cdb_span).length : Int)) KR KR ?_; intro ax hax; exact HK _ _ _ hax rfl (Below.refl _ _)
            · skip
              intro a wr hn hd HW hs; have ha := hasNil hn hd
              refine yStep ha 93 KR ?_; intro l_ ha HK
              refine stepp ha 93 (.int .i64 0) KR KR ?_; intro ax hax; exact HK _ _ _ hax rfl (Below.refl _ _)
          · skip
            intro a W2026 ha HW he hf
            replace ha := ha.add (he 1 (.pointer (some ⟨b1901, 0, none⟩)) KR KR)
            replace ha := ha.add (he 7 (.string (strOfNums x2013)) KR KR)
            obtain ⟨b2027, he_, HW⟩ := gotL (w1 := w) (m := 15) (j := 12) (d := 91) (e := 73) (k := ([(⟨x1919.f2.f0, x1919.f2.f1⟩ : T_cdb_span), (⟨x1919.f3.f0, x1919.f3.f1⟩ : T_cdb_span), (⟨x1919.f4.f0, x1919.f4.f1⟩ : T_cdb_span)] : List T_cdb_span).length) (C := #[.int .i64 x1919.f2.f0, .int .i64 x1919.f2.f1, .int .i64 x1919.f3.f0, .int .i64 x1919.f3.f1, .int .i64 x1919.f4.f0, .int .i64 x1919.f4.f1]) (bs1 := [(b1901, .cells #[.int .i64 a0.f0, .int .i64 a0.f1, .int .i64 a0.f2, .bool a0.f3, .int .i64 a0.f4, .int .i64 a0.f5, .int .i64 a0.f6] 39 (0, 0)), (b1916, .cells #[.int .i64 x1919.f0, .int .i64 x1919.f1, .int .i64 x1919.f2.f0, .int .i64 x1919.f2.f1, .int .i64 x1919.f3.f0, .int .i64 x1919.f3.f1, .int .i64 x1919.f4.f0, .int .i64 x1919.f4.f1] 75 (0, 0))]) (os1 := [⟨5, 1, .slice (some ⟨b1937, 0, none⟩) x2013.length ((x1919.f1 : Int).toNat), x2013.length, encs (encI .u8) x2013⟩]) hf KR KR KR; replace ha := ha.add he_; clear he_
            replace ha := ha.add (gotF (m := 15) (j := 13) (d := 92) (v := .int .i64 (([(⟨x1919.f2.f0, x1919.f2.f1⟩ : T_cdb_span), (⟨x1919.f3.f0, x1919.f3.f1⟩ : T_cdb_span), (⟨x1919.f4.f0, x1919.f4.f1⟩ : T_cdb_span)] : List T_cdb_span).length : Int)) hf KR KR KR)
            replace ha := ha.add (gotF (m := 15) (j := 14) (d := 93) (v := .int .i64 0) hf KR KR KR)
            clear he hf
            refine endl ?_
            refine thenN (hK2021 _ _ ?_); clear hK2021
            refine wp_block ?_
            refine loopk (fun k => fun a W2109 => ∃ (x2107 : ByteArray), ∃ (x2108 : Int), cdb_Build.l0 K a0 x1919 k x2107 x2108 = some r ∧ Has 137 [(1, .pointer (some ⟨b1901, 0, none⟩)), (7, .string x2107), (91, .slice (some ⟨b2027, 0, none⟩) ([(⟨x1919.f2.f0, x1919.f2.f1⟩ : T_cdb_span), (⟨x1919.f3.f0, x1919.f3.f1⟩ : T_cdb_span), (⟨x1919.f4.f0, x1919.f4.f1⟩ : T_cdb_span)] : List T_cdb_span).length (([(⟨x1919.f2.f0, x1919.f2.f1⟩ : T_cdb_span), (⟨x1919.f3.f0, x1919.f3.f1⟩ : T_cdb_span), (⟨x1919.f4.f0, x1919.f4.f1⟩ : T_cdb_span)] : List T_cdb_span).length)), (92, .int .i64 (([(⟨x1919.f2.f0, x1919.f2.f1⟩ : T_cdb_span), (⟨x1919.f3.f0, x1919.f3.f1⟩ : T_cdb_span), (⟨x1919.f4.f0, x1919.f4.f1⟩ : T_cdb_span)] : List T_cdb_span).length : Int)), (93, .int .i64 x2108)] a ∧ Wd w W2109 [(b2027, .cells #[.int .i64 x1919.f2.f0, .int .i64 x1919.f2.f1, .int .i64 x1919.f3.f0, .int .i64 x1919.f3.f1, .int .i64 x1919.f4.f0, .int .i64 x1919.f4.f1] 73 (0, 0)), (b1901, .cells #[.int .i64 a0.f0, .int .i64 a0.f1, .int .i64 a0.f2, .bool a0.f3, .int .i64 a0.f4, .int .i64 a0.f5, .int .i64 a0.f6] 39 (0, 0))] []) K ?_ ?_
            · skip
              exact ⟨strOfNums x2013, 0, h, ha.sub (subs_cons KR (subs_cons KR (subs_cons KR (subs_cons KR (subs_cons KR (subs_nil _)))))), HW.pick [0, 1] [] (by decide) (by decide) KR KR⟩
            · skip
              intro k a W2109 hI
              obtain ⟨x2107, x2108, h, ha, HW⟩ := hI
              cases k with
              | zero => exact (none_some (show none = some r from h)).elim
              | succ k2110 =>
                replace h : cdb_Build.b0 K a0 x1919 (cdb_Build.l0 K a0 x1919 k2110) x2107 x2108 = some r := h
                obtain ⟨again2106, hag2111⟩ : ∃ g_, g_ = cdb_Build.l0 K a0 x1919 k2110 := ⟨_, rfl⟩
                rw [← hag2111] at h
                unfold cdb_Build.b0 at h
                refine wp_seq_k (fun K2112 hK2113 => ?_)
                refine wp_region_lit ?_
                refine stepp ha 94 (.bool (decide (x2108 < (([(⟨x1919.f2.f0, x1919.f2.f1⟩ : T_cdb_span), (⟨x1919.f3.f0, x1919.f3.f1⟩ : T_cdb_span), (⟨x1919.f4.f0, x1919.f4.f1⟩ : T_cdb_span)] : List T_cdb_span).length : Int)))) KR KR ?_; clear ha a; intro a ha
                refine endl ?_
                refine thenN (hK2113 _ _ ?_); clear hK2113
                refine wp_seq_k (fun K2114 hK2115 => ?_)
                by_cases hp2116 : x2108 < (([(⟨x1919.f2.f0, x1919.f2.f1⟩ : T_cdb_span), (⟨x1919.f3.f0, x1919.f3.f1⟩ : T_cdb_span), (⟨x1919.f4.f0, x1919.f4.f1⟩ : T_cdb_span)] : List T_cdb_span).length : Int)
                · skip
                  replace h := ite_pos' h hp2116
                  refine condT ha KR KR (t := decide (x2108 < (([(⟨x1919.f2.f0, x1919.f2.f1⟩ : T_cdb_span), (⟨x1919.f3.f0, x1919.f3.f1⟩ : T_cdb_span), (⟨x1919.f4.f0, x1919.f4.f1⟩ : T_cdb_span)] : List T_cdb_span).length : Int))) (decide_eq_true hp2116) ?_
                  refine wp_skip ?_
                  refine thenN (hK2115 _ _ ?_); clear hK2115
                  refine wp_seq_k (fun K2117 hK2118 => ?_)
                  refine wp_block ?_
                  refine wp_seq_k (fun K2119 hK2120 => ?_)
                  refine wp_region_lit ?_
                  refine stepp ha 95 (.int .i64 x2108) KR KR ?_; clear ha a; intro a ha
                  obtain ⟨hA2121, h_⟩ := asrt_some h; clear h; have h := h_; clear h_
                  refine stepie T_cdb_span.enc T_cdb_span.z ha 96 (fun _ => rfl) (v := .slice (some ⟨b2027, 0, none⟩) ([(⟨x1919.f2.f0, x1919.f2.f1⟩ : T_cdb_span), (⟨x1919.f3.f0, x1919.f3.f1⟩ : T_cdb_span), (⟨x1919.f4.f0, x1919.f4.f1⟩ : T_cdb_span)] : List T_cdb_span).length (([(⟨x1919.f2.f0, x1919.f2.f1⟩ : T_cdb_span), (⟨x1919.f3.f0, x1919.f3.f1⟩ : T_cdb_span), (⟨x1919.f4.f0, x1919.f4.f1⟩ : T_cdb_span)] : List T_cdb_span).length)) (xs := ([(⟨x1919.f2.f0, x1919.f2.f1⟩ : T_cdb_span), (⟨x1919.f3.f0, x1919.f3.f1⟩ : T_cdb_span), (⟨x1919.f4.f0, x1919.f4.f1⟩ : T_cdb_span)] : List T_cdb_span)) ((rd_blk (enc := T_cdb_span.enc) HW (i := 0) (b := b2027) (sz := 2) (T := 73) (C := #[.int .i64 x1919.f2.f0, .int .i64 x1919.f2.f1, .int .i64 x1919.f3.f0, .int .i64 x1919.f3.f1, .int .i64 x1919.f4.f0, .int .i64 x1919.f4.f1]) KR (fun _ => rfl) ([(⟨x1919.f2.f0, x1919.f2.f1⟩ : T_cdb_span), (⟨x1919.f3.f0, x1919.f3.f1⟩ : T_cdb_span), (⟨x1919.f4.f0, x1919.f4.f1⟩ : T_cdb_span)] : List T_cdb_span) rfl)) 83 73 (.tmp 91) (.tmp 93) .i64 x2108 rfl KR KR KR KR hA2121 (show (x2108 : Int) < ((([(⟨x1919.f2.f0, x1919.f2.f1⟩ : T_cdb_span), (⟨x1919.f3.f0, x1919.f3.f1⟩ : T_cdb_span), (⟨x1919.f4.f0, x1919.f4.f1⟩ : T_cdb_span)] : List T_cdb_span)).length : Int) from hp2116) KR ?_; clear ha a; intro b2122 off2123 a hC2124 ha
                  refine stepl ha 97 hC2124 73 0 (.tmp 96) (.agg #[.int .i64 ((rdL T_cdb_span.z ([(⟨x1919.f2.f0, x1919.f2.f1⟩ : T_cdb_span), (⟨x1919.f3.f0, x1919.f3.f1⟩ : T_cdb_span), (⟨x1919.f4.f0, x1919.f4.f1⟩ : T_cdb_span)] : List T_cdb_span) x2108).f0), .int .i64 ((rdL T_cdb_span.z ([(⟨x1919.f2.f0, x1919.f2.f1⟩ : T_cdb_span), (⟨x1919.f3.f0, x1919.f3.f1⟩ : T_cdb_span), (⟨x1919.f4.f0, x1919.f4.f1⟩ : T_cdb_span)] : List T_cdb_span) x2108).f1)]) rfl KR KR KR ?_; clear ha a; intro a ha
                  refine stepnew ha HW 9 #[.int .i64 0, .int .i64 0] 73 KR KR ?_; clear ha HW a; intro b2125 a W2126 HW ha
                  refine stepp ha 8 (.int .i64 x2108) KR KR ?_; clear ha a; intro a ha
                  refine stepst ha HW 0 (b := b2125) (C := #[.int .i64 0, .int .i64 0]) (T := 73) KR 73 0 (.tmp 9) (.tmp 97) (.agg #[.int .i64 ((rdL T_cdb_span.z ([(⟨x1919.f2.f0, x1919.f2.f1⟩ : T_cdb_span), (⟨x1919.f3.f0, x1919.f3.f1⟩ : T_cdb_span), (⟨x1919.f4.f0, x1919.f4.f1⟩ : T_cdb_span)] : List T_cdb_span) x2108).f0), .int .i64 ((rdL T_cdb_span.z ([(⟨x1919.f2.f0, x1919.f2.f1⟩ : T_cdb_span), (⟨x1919.f3.f0, x1919.f3.f1⟩ : T_cdb_span), (⟨x1919.f4.f0, x1919.f4.f1⟩ : T_cdb_span)] : List T_cdb_span) x2108).f1)]) #[.int .i64 ((rdL T_cdb_span.z ([(⟨x1919.f2.f0, x1919.f2.f1⟩ : T_cdb_span), (⟨x1919.f3.f0, x1919.f3.f1⟩ : T_cdb_span), (⟨x1919.f4.f0, x1919.f4.f1⟩ : T_cdb_span)] : List T_cdb_span) x2108).f0), .int .i64 ((rdL T_cdb_span.z ([(⟨x1919.f2.f0, x1919.f2.f1⟩ : T_cdb_span), (⟨x1919.f3.f0, x1919.f3.f1⟩ : T_cdb_span), (⟨x1919.f4.f0, x1919.f4.f1⟩ : T_cdb_span)] : List T_cdb_span) x2108).f1)] rfl KR KR KR KR KR KR KR ?_; clear ha HW a; intro a W2127 HW ha
                  refine endl ?_
                  refine thenN (hK2120 _ _ ?_); clear hK2120
                  refine wp_seq_k (fun K2128 hK2129 => ?_)
                  refine wp_region_lit ?_
                  refine stepp ha 98 (.pointer (some ⟨b1901, 1, none⟩)) KR KR ?_; clear ha a; intro a ha
                  refine stepl ha 99 (HW.ca (i := 2) (b := b1901) (C := #[.int .i64 a0.f0, .int .i64 a0.f1, .int .i64 a0.f2, .bool a0.f3, .int .i64 a0.f4, .int .i64 a0.f5, .int .i64 a0.f6]) (T := 39) (fr := (0, 0)) KR) 3 1 (.tmp 98) (.int .i64 a0.f1) rfl KR KR KR ?_; clear ha a; intro a ha
                  refine stepp ha 100 (.pointer (some ⟨b1901, 2, none⟩)) KR KR ?_; clear ha a; intro a ha
                  refine stepl ha 101 (HW.ca (i := 2) (b := b1901) (C := #[.int .i64 a0.f0, .int .i64 a0.f1, .int .i64 a0.f2, .bool a0.f3, .int .i64 a0.f4, .int .i64 a0.f5, .int .i64 a0.f6]) (T := 39) (fr := (0, 0)) KR) 3 2 (.tmp 100) (.int .i64 a0.f2) rfl KR KR KR ?_; clear ha a; intro a ha
                  refine stepp ha 102 (.pointer (some ⟨b1901, 5, none⟩)) KR KR ?_; clear ha a; intro a ha
                  refine stepl ha 103 (HW.ca (i := 2) (b := b1901) (C := #[.int .i64 a0.f0, .int .i64 a0.f1, .int .i64 a0.f2, .bool a0.f3, .int .i64 a0.f4, .int .i64 a0.f5, .int .i64 a0.f6]) (T := 39) (fr := (0, 0)) KR) 3 5 (.tmp 102) (.int .i64 a0.f5) rfl KR KR KR ?_; clear ha a; intro a ha
                  refine stepbs ha HW 104 3 1 3 #[.int .i64 a0.f1, .int .i64 a0.f2, .int .i64 a0.f5] [.int .i64 a0.f1, .int .i64 a0.f2, .int .i64 a0.f5] (by decide) KR KR KR KR ?_; clear ha HW a; intro b2130 a W2131 HW ha
                  replace HW : Wd w W2131 [(b2125, .cells #[.int .i64 ((rdL T_cdb_span.z ([(⟨x1919.f2.f0, x1919.f2.f1⟩ : T_cdb_span), (⟨x1919.f3.f0, x1919.f3.f1⟩ : T_cdb_span), (⟨x1919.f4.f0, x1919.f4.f1⟩ : T_cdb_span)] : List T_cdb_span) x2108).f0), .int .i64 ((rdL T_cdb_span.z ([(⟨x1919.f2.f0, x1919.f2.f1⟩ : T_cdb_span), (⟨x1919.f3.f0, x1919.f3.f1⟩ : T_cdb_span), (⟨x1919.f4.f0, x1919.f4.f1⟩ : T_cdb_span)] : List T_cdb_span) x2108).f1)] 73 (0, 0)), (b2027, .cells #[.int .i64 x1919.f2.f0, .int .i64 x1919.f2.f1, .int .i64 x1919.f3.f0, .int .i64 x1919.f3.f1, .int .i64 x1919.f4.f0, .int .i64 x1919.f4.f1] 73 (0, 0)), (b1901, .cells #[.int .i64 a0.f0, .int .i64 a0.f1, .int .i64 a0.f2, .bool a0.f3, .int .i64 a0.f4, .int .i64 a0.f5, .int .i64 a0.f6] 39 (0, 0))] [⟨3, 1, .slice (some ⟨b2130, 0, none⟩) ([a0.f1, a0.f2, a0.f5] : List Int).length 3, ([a0.f1, a0.f2, a0.f5] : List Int).length, encs (encI .i64) ([a0.f1, a0.f2, a0.f5] : List Int)⟩] := HW
                  replace ha := ha.turn 104 (v := .slice (some ⟨b2130, 0, none⟩) ([a0.f1, a0.f2, a0.f5] : List Int).length 3) KR rfl
                  refine stepp ha 105 (.int .i64 x2108) KR KR ?_; clear ha a; intro a ha
                  obtain ⟨hA2133, h_⟩ := asrt_some h; clear h; have h := h_; clear h_
                  refine stepie (encI .i64) (0 : Int) ha 106 (fun _ => rfl) (v := .slice (some ⟨b2130, 0, none⟩) ([a0.f1, a0.f2, a0.f5] : List Int).length 3) (xs := ([a0.f1, a0.f2, a0.f5] : List Int)) (HW.rdo (i := 0) (q := ⟨3, 1, .slice (some ⟨b2130, 0, none⟩) ([a0.f1, a0.f2, a0.f5] : List Int).length 3, ([a0.f1, a0.f2, a0.f5] : List Int).length, encs (encI .i64) ([a0.f1, a0.f2, a0.f5] : List Int)⟩) KR) 84 3 (.tmp 104) (.tmp 105) .i64 x2108 rfl KR KR KR KR hA2121 (show (x2108 : Int) < ((([a0.f1, a0.f2, a0.f5] : List Int)).length : Int) from hA2133) KR ?_; clear ha a; intro b2134 off2135 a hC2136 ha
                  refine stepl ha 107 hC2136 3 0 (.tmp 106) (.int .i64 (rdL (0 : Int) ([a0.f1, a0.f2, a0.f5] : List Int) x2108)) rfl KR KR KR ?_; clear ha a; intro a ha
                  refine stepp ha 10 (.int .i64 (rdL (0 : Int) ([a0.f1, a0.f2, a0.f5] : List Int) x2108)) KR KR ?_; clear ha a; intro a ha
                  refine endl ?_
                  refine thenN (hK2129 _ _ ?_); clear hK2129
                  refine wp_seq_k (fun K2137 hK2138 => ?_)
                  refine wp_region_lit ?_
                  refine stepp ha 108 (.pointer (some ⟨b2125, 1, none⟩)) KR KR ?_; clear ha a; intro a ha
                  refine stepl ha 109 (HW.ca (i := 0) (b := b2125) (C := #[.int .i64 ((rdL T_cdb_span.z ([(⟨x1919.f2.f0, x1919.f2.f1⟩ : T_cdb_span), (⟨x1919.f3.f0, x1919.f3.f1⟩ : T_cdb_span), (⟨x1919.f4.f0, x1919.f4.f1⟩ : T_cdb_span)] : List T_cdb_span) x2108).f0), .int .i64 ((rdL T_cdb_span.z ([(⟨x1919.f2.f0, x1919.f2.f1⟩ : T_cdb_span), (⟨x1919.f3.f0, x1919.f3.f1⟩ : T_cdb_span), (⟨x1919.f4.f0, x1919.f4.f1⟩ : T_cdb_span)] : List T_cdb_span) x2108).f1)]) (T := 73) (fr := (0, 0)) KR) 3 1 (.tmp 108) (.int .i64 ((rdL T_cdb_span.z ([(⟨x1919.f2.f0, x1919.f2.f1⟩ : T_cdb_span), (⟨x1919.f3.f0, x1919.f3.f1⟩ : T_cdb_span), (⟨x1919.f4.f0, x1919.f4.f1⟩ : T_cdb_span)] : List T_cdb_span) x2108).f1)) rfl KR KR KR ?_; clear ha a; intro a ha
                  refine stepp ha 110 (.bool (decide (((rdL T_cdb_span.z ([(⟨x1919.f2.f0, x1919.f2.f1⟩ : T_cdb_span), (⟨x1919.f3.f0, x1919.f3.f1⟩ : T_cdb_span), (⟨x1919.f4.f0, x1919.f4.f1⟩ : T_cdb_span)] : List T_cdb_span) x2108).f1) > 0))) KR KR ?_; clear ha a; intro a ha
                  refine endl ?_
                  refine thenN (hK2138 _ _ ?_); clear hK2138
                  by_cases hp2139 : ((rdL T_cdb_span.z ([(⟨x1919.f2.f0, x1919.f2.f1⟩ : T_cdb_span), (⟨x1919.f3.f0, x1919.f3.f1⟩ : T_cdb_span), (⟨x1919.f4.f0, x1919.f4.f1⟩ : T_cdb_span)] : List T_cdb_span) x2108).f1) > 0
                  · skip
                    replace h := ite_pos' h hp2139
                    refine condT ha KR KR (t := decide (((rdL T_cdb_span.z ([(⟨x1919.f2.f0, x1919.f2.f1⟩ : T_cdb_span), (⟨x1919.f3.f0, x1919.f3.f1⟩ : T_cdb_span), (⟨x1919.f4.f0, x1919.f4.f1⟩ : T_cdb_span)] : List T_cdb_span) x2108).f1) > 0)) (decide_eq_true hp2139) ?_
                    obtain ⟨t2140, ht2141, h_⟩ := bind_some' h; clear h; have h := h_; clear h_
                    obtain ⟨t2144, ht2145, h_⟩ := bind_some' h; clear h; have h := h_; clear h_
                    refine regionG 13 KR KR ha HW [.fix (.string x2107), .fix (.pointer (some ⟨b2125, 0, none⟩)), .fix (.int .i64 ((rdL T_cdb_span.z ([(⟨x1919.f2.f0, x1919.f2.f1⟩ : T_cdb_span), (⟨x1919.f3.f0, x1919.f3.f1⟩ : T_cdb_span), (⟨x1919.f4.f0, x1919.f4.f1⟩ : T_cdb_span)] : List T_cdb_span) x2108).f0)), .fix (.int .i64 (rdL (0 : Int) ([a0.f1, a0.f2, a0.f5] : List Int) x2108)), .fix (.int .u64 (IntKind.wrap .u64 (rdL (0 : Int) ([a0.f1, a0.f2, a0.f5] : List Int) x2108))), .fix (.pointer (some ⟨b2125, 1, none⟩)), .fix (.int .i64 ((rdL T_cdb_span.z ([(⟨x1919.f2.f0, x1919.f2.f1⟩ : T_cdb_span), (⟨x1919.f3.f0, x1919.f3.f1⟩ : T_cdb_span), (⟨x1919.f4.f0, x1919.f4.f1⟩ : T_cdb_span)] : List T_cdb_span) x2108).f1)), .fix (.string t2140), .fix (.tuple #[.string t2144.1, .bool t2144.2]), .fix (.tuple #[.string t2144.1, .bool t2144.2]), .fix (.string t2144.1), .fix (.bool t2144.2), .fix (.string t2144.1)] ?_ ?_
                    · skip
                      refine ⟨?_, ?_, ?_, ?_, ?_, ?_, ?_, ?_, ?_, ?_, ?_, ?_, ?_, trivial⟩
                      · skip
                        intro a wr hn hd HW hs; have ha := hasNil hn hd
                        have ha := ha.add (seeE hs 7 (.string x2107) KR KR)
                        refine yStep ha 112 KR ?_; intro l_ ha HK
                        refine stepp ha 112 (.string x2107) KR KR ?_; intro ax hax; exact HK _ _ _ hax rfl (Below.refl _ _)
                      · skip
                        intro a wr hn hd HW hs; have ha := hasNil hn hd
                        have ha := ha.add (seeE hs 9 (.pointer (some ⟨b2125, 0, none⟩)) KR KR)
                        refine yStep ha 113 KR ?_; intro l_ ha HK
                        refine stepp ha 113 (.pointer (some ⟨b2125, 0, none⟩)) KR KR ?_; intro ax hax; exact HK _ _ _ hax rfl (Below.refl _ _)
                      · skip
                        intro a wr hn hd HW hs; have ha := hasNil hn hd
                        have ha := ha.add (seeF hs 113 1 (.pointer (some ⟨b2125, 0, none⟩)) KR KR)
                        refine yStep ha 114 KR ?_; intro l_ ha HK
                        refine stepl ha 114 (HW.ca (i := 0) (b := b2125) (C := #[.int .i64 ((rdL T_cdb_span.z ([(⟨x1919.f2.f0, x1919.f2.f1⟩ : T_cdb_span), (⟨x1919.f3.f0, x1919.f3.f1⟩ : T_cdb_span), (⟨x1919.f4.f0, x1919.f4.f1⟩ : T_cdb_span)] : List T_cdb_span) x2108).f0), .int .i64 ((rdL T_cdb_span.z ([(⟨x1919.f2.f0, x1919.f2.f1⟩ : T_cdb_span), (⟨x1919.f3.f0, x1919.f3.f1⟩ : T_cdb_span), (⟨x1919.f4.f0, x1919.f4.f1⟩ : T_cdb_span)] : List T_cdb_span) x2108).f1)]) (T := 73) (fr := (0, 0)) KR) 3 0 (.tmp 113) (.int .i64 ((rdL T_cdb_span.z ([(⟨x1919.f2.f0, x1919.f2.f1⟩ : T_cdb_span), (⟨x1919.f3.f0, x1919.f3.f1⟩ : T_cdb_span), (⟨x1919.f4.f0, x1919.f4.f1⟩ : T_cdb_span)] : List T_cdb_span) x2108).f0)) rfl KR KR KR ?_; intro ax hax; exact HK _ _ _ hax rfl (Below.refl _ _)
                      · skip
                        intro a wr hn hd HW hs; have ha := hasNil hn hd
                        have ha := ha.add (seeE hs 10 (.int .i64 (rdL (0 : Int) ([a0.f1, a0.f2, a0.f5] : List Int) x2108)) KR KR)
                        refine yStep ha 115 KR ?_; intro l_ ha HK
                        refine stepp ha 115 (.int .i64 (rdL (0 : Int) ([a0.f1, a0.f2, a0.f5] : List Int) x2108)) KR KR ?_; intro ax hax; exact HK _ _ _ hax rfl (Below.refl _ _)
                      · skip
                        intro a wr hn hd HW hs; have ha := hasNil hn hd
                        have ha := ha.add (seeF hs 115 3 (.int .i64 (rdL (0 : Int) ([a0.f1, a0.f2, a0.f5] : List Int) x2108)) KR KR)
                        refine yStep ha 116 KR ?_; intro l_ ha HK
                        refine stepp ha 116 (.int .u64 (IntKind.wrap .u64 (rdL (0 : Int) ([a0.f1, a0.f2, a0.f5] : List Int) x2108))) KR KR ?_; intro ax hax; exact HK _ _ _ hax rfl (Below.refl _ _)
                      · skip
                        intro a wr hn hd HW hs; have ha := hasNil hn hd
                        have ha := ha.add (seeE hs 9 (.pointer (some ⟨b2125, 0, none⟩)) KR KR)
                        refine yStep ha 117 KR ?_; intro l_ ha HK
                        refine stepp ha 117 (.pointer (some ⟨b2125, 1, none⟩)) KR KR ?_; intro ax hax; exact HK _ _ _ hax rfl (Below.refl _ _)
                      · skip
                        intro a wr hn hd HW hs; have ha := hasNil hn hd
                        have ha := ha.add (seeF hs 117 5 (.pointer (some ⟨b2125, 1, none⟩)) KR KR)
                        refine yStep ha 118 KR ?_; intro l_ ha HK
                        refine stepl ha 118 (HW.ca (i := 0) (b := b2125) (C := #[.int .i64 ((rdL T_cdb_span.z ([(⟨x1919.f2.f0, x1919.f2.f1⟩ : T_cdb_span), (⟨x1919.f3.f0, x1919.f3.f1⟩ : T_cdb_span), (⟨x1919.f4.f0, x1919.f4.f1⟩ : T_cdb_span)] : List T_cdb_span) x2108).f0), .int .i64 ((rdL T_cdb_span.z ([(⟨x1919.f2.f0, x1919.f2.f1⟩ : T_cdb_span), (⟨x1919.f3.f0, x1919.f3.f1⟩ : T_cdb_span), (⟨x1919.f4.f0, x1919.f4.f1⟩ : T_cdb_span)] : List T_cdb_span) x2108).f1)]) (T := 73) (fr := (0, 0)) KR) 3 1 (.tmp 117) (.int .i64 ((rdL T_cdb_span.z ([(⟨x1919.f2.f0, x1919.f2.f1⟩ : T_cdb_span), (⟨x1919.f3.f0, x1919.f3.f1⟩ : T_cdb_span), (⟨x1919.f4.f0, x1919.f4.f1⟩ : T_cdb_span)] : List T_cdb_span) x2108).f1)) rfl KR KR KR ?_; intro ax hax; exact HK _ _ _ hax rfl (Below.refl _ _)
                      · skip
                        intro a wr hn hd HW hs; have ha := hasNil hn hd
                        have ha := ha.add (seeF hs 116 4 (.int .u64 (IntKind.wrap .u64 (rdL (0 : Int) ([a0.f1, a0.f2, a0.f5] : List Int) x2108))) KR KR)
                        have ha := ha.add (seeF hs 118 6 (.int .i64 ((rdL T_cdb_span.z ([(⟨x1919.f2.f0, x1919.f2.f1⟩ : T_cdb_span), (⟨x1919.f3.f0, x1919.f3.f1⟩ : T_cdb_span), (⟨x1919.f4.f0, x1919.f4.f1⟩ : T_cdb_span)] : List T_cdb_span) x2108).f1)) KR KR)
                        refine yStep ha 119 KR ?_; intro l_ ha HK
                        refine stepc ha 119 KR KR (fields_PutBig.calls K (IntKind.wrap .u64 (rdL (0 : Int) ([a0.f1, a0.f2, a0.f5] : List Int) x2108)) ((rdL T_cdb_span.z ([(⟨x1919.f2.f0, x1919.f2.f1⟩ : T_cdb_span), (⟨x1919.f3.f0, x1919.f3.f1⟩ : T_cdb_span), (⟨x1919.f4.f0, x1919.f4.f1⟩ : T_cdb_span)] : List T_cdb_span) x2108).f1) t2140 _ ht2141) ?_; rintro e W2142 ⟨rfl, HX2143⟩
                        refine ⟨_, rfl, ?_⟩; intro ax hax; exact HK _ _ _ hax rfl HX2143.below
                      · skip
                        intro a wr hn hd HW hs; have ha := hasNil hn hd
                        have ha := ha.add (seeF hs 112 0 (.string x2107) KR KR)
                        have ha := ha.add (seeF hs 114 2 (.int .i64 ((rdL T_cdb_span.z ([(⟨x1919.f2.f0, x1919.f2.f1⟩ : T_cdb_span), (⟨x1919.f3.f0, x1919.f3.f1⟩ : T_cdb_span), (⟨x1919.f4.f0, x1919.f4.f1⟩ : T_cdb_span)] : List T_cdb_span) x2108).f0)) KR KR)
                        have ha := ha.add (seeF hs 119 7 (.string t2140) KR KR)
                        refine yStep ha 120 KR ?_; intro l_ ha HK
                        refine stepc ha 120 KR KR (fields_Set.calls x2107 ((rdL T_cdb_span.z ([(⟨x1919.f2.f0, x1919.f2.f1⟩ : T_cdb_span), (⟨x1919.f3.f0, x1919.f3.f1⟩ : T_cdb_span), (⟨x1919.f4.f0, x1919.f4.f1⟩ : T_cdb_span)] : List T_cdb_span) x2108).f0) t2140 t2144 _ ht2145) ?_; rintro e W2146 ⟨rfl, HX2147⟩
                        refine ⟨_, rfl, ?_⟩; intro ax hax; exact HK _ _ _ hax rfl HX2147.below
                      · skip
                        intro a wr hn hd HW hs; have ha := hasNil hn hd
                        have ha := ha.add (seeF hs 120 8 (.tuple #[.string t2144.1, .bool t2144.2]) KR KR)
                        refine yStep ha 111 KR ?_; intro l_ ha HK
                        refine stepp ha 111 (.tuple #[.string t2144.1, .bool t2144.2]) KR KR ?_; intro ax hax; exact HK _ _ _ hax rfl (Below.refl _ _)
                      · skip
                        intro a wr hn hd HW hs; have ha := hasNil hn hd
                        have ha := ha.add (seeF hs 111 9 (.tuple #[.string t2144.1, .bool t2144.2]) KR KR)
                        refine yStep ha 121 KR ?_; intro l_ ha HK
                        refine stepp ha 121 (.string t2144.1) KR KR ?_; intro ax hax; exact HK _ _ _ hax rfl (Below.refl _ _)
                      · skip
                        intro a wr hn hd HW hs; have ha := hasNil hn hd
                        have ha := ha.add (seeF hs 111 9 (.tuple #[.string t2144.1, .bool t2144.2]) KR KR)
                        refine yStep ha 122 KR ?_; intro l_ ha HK
                        refine stepp ha 122 (.bool t2144.2) KR KR ?_; intro ax hax; exact HK _ _ _ hax rfl (Below.refl _ _)
                      · skip
                        intro a wr hn hd HW hs; have ha := hasNil hn hd
                        have ha := ha.add (seeF hs 121 10 (.string t2144.1) KR KR)
                        refine yStep ha 7 KR ?_; intro l_ ha HK
                        refine stepp ha 7 (.string t2144.1) KR KR ?_; intro ax hax; exact HK _ _ _ hax rfl (Below.refl _ _)
                    · skip
                      intro a W2148 ha HW he hf
                      replace ha := ha.add (he 1 (.pointer (some ⟨b1901, 0, none⟩)) KR KR)
                      replace ha := ha.add (gotF (m := 13) (j := 12) (d := 7) (v := .string t2144.1) hf KR KR KR)
                      replace ha := ha.add (he 91 (.slice (some ⟨b2027, 0, none⟩) ([(⟨x1919.f2.f0, x1919.f2.f1⟩ : T_cdb_span), (⟨x1919.f3.f0, x1919.f3.f1⟩ : T_cdb_span), (⟨x1919.f4.f0, x1919.f4.f1⟩ : T_cdb_span)] : List T_cdb_span).length (([(⟨x1919.f2.f0, x1919.f2.f1⟩ : T_cdb_span), (⟨x1919.f3.f0, x1919.f3.f1⟩ : T_cdb_span), (⟨x1919.f4.f0, x1919.f4.f1⟩ : T_cdb_span)] : List T_cdb_span).length)) KR KR)
                      replace ha := ha.add (he 92 (.int .i64 (([(⟨x1919.f2.f0, x1919.f2.f1⟩ : T_cdb_span), (⟨x1919.f3.f0, x1919.f3.f1⟩ : T_cdb_span), (⟨x1919.f4.f0, x1919.f4.f1⟩ : T_cdb_span)] : List T_cdb_span).length : Int)) KR KR)
                      replace ha := ha.add (he 93 (.int .i64 x2108) KR KR)
                      clear he hf
                      refine endl ?_
                      refine blkN ?_
                      refine thenN (hK2118 _ _ ?_); clear hK2118
                      refine wp_region_lit ?_
                      refine stepp ha 123 (.int .i64 (IntKind.wrap .i64 (x2108 + 1))) KR KR ?_; clear ha a; intro a ha
                      refine stepp ha 93 (.int .i64 (IntKind.wrap .i64 (x2108 + 1))) KR KR ?_; clear ha a; intro a ha
                      refine endl ?_
                      exact thenN ⟨k2110, Nat.lt_succ_self k2110, t2144.1, IntKind.wrap .i64 (x2108 + 1), (by rw [← hag2111]; exact h), ha.sub (subs_cons KR (subs_cons KR (subs_cons KR (subs_cons KR (subs_cons KR (subs_nil _)))))), HW.pick [1, 2] [] (by decide) (by decide) KR KR⟩
                  · skip
                    replace h := ite_neg' h hp2139
                    refine condF ha KR KR (t := decide (((rdL T_cdb_span.z ([(⟨x1919.f2.f0, x1919.f2.f1⟩ : T_cdb_span), (⟨x1919.f3.f0, x1919.f3.f1⟩ : T_cdb_span), (⟨x1919.f4.f0, x1919.f4.f1⟩ : T_cdb_span)] : List T_cdb_span) x2108).f1) > 0)) (decide_eq_false hp2139) ?_
                    refine wp_skip ?_
                    refine blkN ?_
                    refine thenN (hK2118 _ _ ?_); clear hK2118
                    refine wp_region_lit ?_
                    refine stepp ha 123 (.int .i64 (IntKind.wrap .i64 (x2108 + 1))) KR KR ?_; clear ha a; intro a ha
                    refine stepp ha 93 (.int .i64 (IntKind.wrap .i64 (x2108 + 1))) KR KR ?_; clear ha a; intro a ha
                    refine endl ?_
                    exact thenN ⟨k2110, Nat.lt_succ_self k2110, x2107, IntKind.wrap .i64 (x2108 + 1), (by rw [← hag2111]; exact h), ha.sub (subs_cons KR (subs_cons KR (subs_cons KR (subs_cons KR (subs_cons KR (subs_nil _)))))), HW.pick [1, 2] [] (by decide) (by decide) KR KR⟩
                · skip
                  replace h := ite_neg' h hp2116
                  refine condF ha KR KR (t := decide (x2108 < (([(⟨x1919.f2.f0, x1919.f2.f1⟩ : T_cdb_span), (⟨x1919.f3.f0, x1919.f3.f1⟩ : T_cdb_span), (⟨x1919.f4.f0, x1919.f4.f1⟩ : T_cdb_span)] : List T_cdb_span).length : Int))) (decide_eq_false hp2116) ?_
                  refine wp_exit ?_
                  refine thenE ?_
                  refine thenE ?_
                  refine inBlk ?_
                  refine thenN (hK2019 _ _ ?_); clear hK2019
                  refine wp_seq_k (fun K2149 hK2150 => ?_)
                  refine wp_seq_k (fun K2151 hK2152 => ?_)
                  refine wp_region_lit ?_
                  refine stepp ha 125 (.string x2107) KR KR ?_; clear ha a; intro a ha
                  obtain ⟨t2153, ht2154, h_⟩ := bind_some' h; clear h; have h := h_; clear h_
                  refine stepc ha 126 KR KR (cdb_Parse.calls K x2107 t2153 _ (HW.ca0 hG0) (HW.ca0 hG1) ht2154) ?_; clear ha a; rintro e W2155 ⟨rfl, HX2156⟩
                  refine ⟨_, rfl, ?_⟩; intro a ha; replace HW := HW.callw HX2156; clear HX2156
                  refine stepp ha 124 (.tuple #[.agg #[.int .i64 t2153.1.f0, .int .i64 t2153.1.f1, .int .i64 t2153.1.f2, .bool t2153.1.f3, .int .i64 t2153.1.f4, .int .i64 t2153.1.f5, .int .i64 t2153.1.f6], .int .i64 t2153.2]) KR KR ?_; clear ha a; intro a ha
                  refine stepp ha 127 (.agg #[.int .i64 t2153.1.f0, .int .i64 t2153.1.f1, .int .i64 t2153.1.f2, .bool t2153.1.f3, .int .i64 t2153.1.f4, .int .i64 t2153.1.f5, .int .i64 t2153.1.f6]) KR KR ?_; clear ha a; intro a ha
                  refine stepp ha 128 (.int .i64 t2153.2) KR KR ?_; clear ha a; intro a ha
                  refine stepnew ha HW 11 #[.int .i64 0, .int .i64 0, .int .i64 0, .bool false, .int .i64 0, .int .i64 0, .int .i64 0] 39 KR KR ?_; clear ha HW a; intro b2157 a W2158 HW ha
                  refine stepst ha HW 0 (b := b2157) (C := #[.int .i64 0, .int .i64 0, .int .i64 0, .bool false, .int .i64 0, .int .i64 0, .int .i64 0]) (T := 39) KR 39 0 (.tmp 11) (.tmp 127) (.agg #[.int .i64 t2153.1.f0, .int .i64 t2153.1.f1, .int .i64 t2153.1.f2, .bool t2153.1.f3, .int .i64 t2153.1.f4, .int .i64 t2153.1.f5, .int .i64 t2153.1.f6]) #[.int .i64 t2153.1.f0, .int .i64 t2153.1.f1, .int .i64 t2153.1.f2, .bool t2153.1.f3, .int .i64 t2153.1.f4, .int .i64 t2153.1.f5, .int .i64 t2153.1.f6] rfl KR KR KR KR KR KR KR ?_; clear ha HW a; intro a W2159 HW ha
                  refine stepp ha 12 (.int .i64 t2153.2) KR KR ?_; clear ha a; intro a ha
                  refine endl ?_
                  refine thenN (hK2152 _ _ ?_); clear hK2152
                  refine wp_seq_k (fun K2160 hK2161 => ?_)
                  refine wp_region_lit ?_
                  refine stepp ha 129 (.int .i64 t2153.2) KR KR ?_; clear ha a; intro a ha
                  refine stepp ha 130 (.bool (t2153.2 != 0)) KR KR ?_; clear ha a; intro a ha
                  refine stepp ha 131 (.bool (t2153.2 != 0)) KR KR ?_; clear ha a; intro a ha
                  by_cases hp2162 : t2153.2 = 0
                  · skip
                    replace h := ite_pos' h hp2162
                    replace ha := ha.bool 131 KR (ineq_f hp2162)
                    refine stepl ha 132 (HW.ca (i := 0) (b := b2157) (C := #[.int .i64 t2153.1.f0, .int .i64 t2153.1.f1, .int .i64 t2153.1.f2, .bool t2153.1.f3, .int .i64 t2153.1.f4, .int .i64 t2153.1.f5, .int .i64 t2153.1.f6]) (T := 39) (fr := (0, 0)) KR) 39 0 (.tmp 11) (.agg #[.int .i64 t2153.1.f0, .int .i64 t2153.1.f1, .int .i64 t2153.1.f2, .bool t2153.1.f3, .int .i64 t2153.1.f4, .int .i64 t2153.1.f5, .int .i64 t2153.1.f6]) rfl KR KR KR ?_; clear ha a; intro a ha
                    refine stepl ha 133 (HW.ca (i := 2) (b := b1901) (C := #[.int .i64 a0.f0, .int .i64 a0.f1, .int .i64 a0.f2, .bool a0.f3, .int .i64 a0.f4, .int .i64 a0.f5, .int .i64 a0.f6]) (T := 39) (fr := (0, 0)) KR) 39 0 (.tmp 1) (.agg #[.int .i64 a0.f0, .int .i64 a0.f1, .int .i64 a0.f2, .bool a0.f3, .int .i64 a0.f4, .int .i64 a0.f5, .int .i64 a0.f6]) rfl KR KR KR ?_; clear ha a; intro a ha
                    refine stepne ha 134 39 39 (.tmp 132) (.tmp 133) #[.int .i64 t2153.1.f0, .int .i64 t2153.1.f1, .int .i64 t2153.1.f2, .bool t2153.1.f3, .int .i64 t2153.1.f4, .int .i64 t2153.1.f5, .int .i64 t2153.1.f6] #[.int .i64 a0.f0, .int .i64 a0.f1, .int .i64 a0.f2, .bool a0.f3, .int .i64 a0.f4, .int .i64 a0.f5, .int .i64 a0.f6] (t2153.1.f0 == a0.f0 && (t2153.1.f1 == a0.f1 && (t2153.1.f2 == a0.f2 && (t2153.1.f3 == a0.f3 && (t2153.1.f4 == a0.f4 && (t2153.1.f5 == a0.f5 && (t2153.1.f6 == a0.f6 && true))))))) rfl KR KR KR KR KR KR KR ?_; clear ha a; intro a ha
                    refine stepp ha 135 (.bool (!(t2153.1.f0 == a0.f0 && (t2153.1.f1 == a0.f1 && (t2153.1.f2 == a0.f2 && (t2153.1.f3 == a0.f3 && (t2153.1.f4 == a0.f4 && (t2153.1.f5 == a0.f5 && (t2153.1.f6 == a0.f6 && true))))))))) KR KR ?_; clear ha a; intro a ha
                    refine endl ?_
                    refine thenN (hK2161 _ _ ?_); clear hK2161
                    by_cases hp2163 : (!(t2153.1.f0 == a0.f0 && (t2153.1.f1 == a0.f1 && (t2153.1.f2 == a0.f2 && (t2153.1.f3 == a0.f3 && (t2153.1.f4 == a0.f4 && (t2153.1.f5 == a0.f5 && (t2153.1.f6 == a0.f6 && true)))))))) = true
                    · skip
                      replace h := ite_pos' h hp2163
                      refine condT ha KR KR (t := (!(t2153.1.f0 == a0.f0 && (t2153.1.f1 == a0.f1 && (t2153.1.f2 == a0.f2 && (t2153.1.f3 == a0.f3 && (t2153.1.f4 == a0.f4 && (t2153.1.f5 == a0.f5 && (t2153.1.f6 == a0.f6 && true))))))))) (hp2163) ?_
                      refine wp_seq_k (fun K2164 hK2165 => ?_)
                      refine wp_region_lit ?_
                      refine stepp ha 2 (.string (⟨#[]⟩ : ByteArray)) KR KR ?_; clear ha a; intro a ha
                      refine stepp ha 3 (.int .i64 150) KR KR ?_; clear ha a; intro a ha
                      refine endl ?_
                      refine thenN (hK2165 _ _ ?_); clear hK2165
                      refine wp_ret ?_
                      refine thenR ?_
                      obtain rfl := Option.some.inj h
                      exact finv ha _ _ rfl (.tmp (v := .string (⟨#[]⟩ : ByteArray)) KR (.tmp (v := .int .i64 150) KR .nil)) (.tuple #[.string (⟨#[]⟩ : ByteArray), .int .i64 150]) rfl ⟨rfl, HW.pick [] [] (by decide) (by decide) rfl KR⟩
                    · skip
                      replace h := ite_neg' h hp2163
                      refine condF ha KR KR (t := (!(t2153.1.f0 == a0.f0 && (t2153.1.f1 == a0.f1 && (t2153.1.f2 == a0.f2 && (t2153.1.f3 == a0.f3 && (t2153.1.f4 == a0.f4 && (t2153.1.f5 == a0.f5 && (t2153.1.f6 == a0.f6 && true))))))))) (bool_f hp2163) ?_
                      refine wp_skip ?_
                      refine thenN (hK2150 _ _ ?_); clear hK2150
                      refine wp_seq_k (fun K2168 hK2169 => ?_)
                      refine wp_region_lit ?_
                      refine stepp ha 136 (.string x2107) KR KR ?_; clear ha a; intro a ha
                      refine stepp ha 2 (.string x2107) KR KR ?_; clear ha a; intro a ha
                      refine stepp ha 3 (.int .i64 0) KR KR ?_; clear ha a; intro a ha
                      refine endl ?_
                      refine thenN (hK2169 _ _ ?_); clear hK2169
                      refine wp_ret ?_
                      obtain rfl := Option.some.inj h
                      exact finv ha _ _ rfl (.tmp (v := .string x2107) KR (.tmp (v := .int .i64 0) KR .nil)) (.tuple #[.string x2107, .int .i64 0]) rfl ⟨rfl, HW.pick [] [] (by decide) (by decide) rfl KR⟩
                  · skip
                    replace h := ite_neg' h hp2162
                    replace ha := ha.bool 131 KR (ineq_t hp2162)
                    refine stepo ha 132 KR ?_; clear ha a; intro a ha
                    refine stepo ha 133 KR ?_; clear ha a; intro a ha
                    refine stepo ha 134 KR ?_; clear ha a; intro a ha
                    refine stepp ha 135 (.bool true) KR KR ?_; clear ha a; intro a ha
                    refine endl ?_
                    refine thenN (hK2161 _ _ ?_); clear hK2161
                    refine condT ha KR KR (t := true) (rfl) ?_
                    refine wp_seq_k (fun K2166 hK2167 => ?_)
                    refine wp_region_lit ?_
                    refine stepp ha 2 (.string (⟨#[]⟩ : ByteArray)) KR KR ?_; clear ha a; intro a ha
                    refine stepp ha 3 (.int .i64 150) KR KR ?_; clear ha a; intro a ha
                    refine endl ?_
                    refine thenN (hK2167 _ _ ?_); clear hK2167
                    refine wp_ret ?_
                    refine thenR ?_
                    obtain rfl := Option.some.inj h
                    exact finv ha _ _ rfl (.tmp (v := .string (⟨#[]⟩ : ByteArray)) KR (.tmp (v := .int .i64 150) KR .nil)) (.tuple #[.string (⟨#[]⟩ : ByteArray), .int .i64 150]) rfl ⟨rfl, HW.pick [] [] (by decide) (by decide) rfl KR⟩
end Go.Proofs.YtpjcipadjegmlaaDoor.F
