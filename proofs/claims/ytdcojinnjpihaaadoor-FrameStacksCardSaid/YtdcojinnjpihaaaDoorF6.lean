/- headgate/headgatelaw05.FrameStacks: plain functions, and that the calls come to what they say. No condition. -/
import Derived.Test.YtdcojinnjpihaaaDoorFT
import Derived.Test.YtdcojinnjpihaaaDoorF9
import Derived.Test.YtdcojinnjpihaaaDoorF45
namespace Go.Proofs.YtdcojinnjpihaaaDoor.F
open Go Go.RowKit Go.Proofs.YtdcojinnjpihaaaDoor.X
set_option linter.unusedVariables false
set_option linter.unusedSimpArgs false
/-! ### headgate/headgatelaw05.FrameStacks: function 6 -/
def headgatelaw05_FrameStacks.b1 (K : Nat) (a0 : List ByteArray) (a1 : Int) (again2078 : ByteArray → Int → Option Bool) (x2079 : ByteArray) (x2080 : Int) : Option Bool :=
  if x2080 < (a0.length : Int) then ((frame_Get.f K x2079).bind fun t2093 => (if t2093.2.2.2 = 0 then (if t2093.1 = (IntKind.wrap .u64 (a1 + (IntKind.wrap .u64 x2080))) then (asrt (0 ≤ x2080) (if t2093.2.1 = (rdL (⟨#[]⟩ : ByteArray) a0 x2080) then (if t2093.2.2.1 > (x2079.size : Int) then (some false) else (asrt (0 ≤ t2093.2.2.1) (asrt (t2093.2.2.1 ≤ (x2079.size : Int)) (again2078 (x2079.extract (t2093.2.2.1 : Int).toNat (x2079).size) (IntKind.wrap .i64 (x2080 + 1)))))) else (some false))) else (some false)) else (some false))) else (if x2079 = (⟨#[]⟩ : ByteArray) then ((headgatelaw05_wakes.f K).bind fun t2122 => (some t2122)) else (some false))
def headgatelaw05_FrameStacks.l1 (K : Nat) (a0 : List ByteArray) (a1 : Int) : Nat → ByteArray → Int → Option Bool
  | 0, _, _ => none
  | k_ + 1, x2079, x2080 => headgatelaw05_FrameStacks.b1 K a0 a1 (headgatelaw05_FrameStacks.l1 K a0 a1 k_) x2079 x2080
def headgatelaw05_FrameStacks.b0 (K : Nat) (a0 : List ByteArray) (a1 : Int) (again1955 : ByteArray → Int → Option Bool) (x1956 : ByteArray) (x1957 : Int) : Option Bool :=
  if x1957 < (a0.length : Int) then (asrt (0 ≤ x1957) (if ((rdL (⟨#[]⟩ : ByteArray) a0 x1957).size : Int) > 2000 then ((headgatelaw05_wakes.f K).bind fun t1979 => (some t1979)) else ((frame_Put.f K (IntKind.wrap .u64 (a1 + (IntKind.wrap .u64 x1957))) (rdL (⟨#[]⟩ : ByteArray) a0 x1957)).bind fun t1988 => (if t1988.2 = 0 then (asrt (x1956.size + t1988.1.size ≤ 9223372036854775807) (again1955 (x1956 ++ t1988.1) (IntKind.wrap .i64 (x1957 + 1)))) else (some false))))) else (headgatelaw05_FrameStacks.l1 K a0 a1 K x1956 0)
def headgatelaw05_FrameStacks.l0 (K : Nat) (a0 : List ByteArray) (a1 : Int) : Nat → ByteArray → Int → Option Bool
  | 0, _, _ => none
  | k_ + 1, x1956, x1957 => headgatelaw05_FrameStacks.b0 K a0 a1 (headgatelaw05_FrameStacks.l0 K a0 a1 k_) x1956 x1957
def headgatelaw05_FrameStacks.f (K : Nat) (a0 : List ByteArray) (a1 : Int) : Option Bool :=
  if (a0.length : Int) > 20 then ((headgatelaw05_wakes.f K).bind fun t1863 => (some t1863)) else (headgatelaw05_FrameStacks.l0 K a0 a1 K (⟨#[]⟩ : ByteArray) 0)
set_option maxRecDepth 100000 in
set_option maxHeartbeats 4000000 in
theorem headgatelaw05_FrameStacks.calls (K : Nat) (a0 : List ByteArray) (a1 : Int) (A0_0 : Option Addr) (c0_0 : Nat) (r : Bool) (w : World) (hG0 : CA w 0 0 (encs (encIK .u32) G_crc_steps).toArray) (hr0_0 : Rd 1 w (.slice A0_0 a0.length c0_0) a0.length (encs encS a0)) (h : headgatelaw05_FrameStacks.f K a0 a1 = some r) :
    Calls Tryd.prog 6 #[.slice A0_0 a0.length c0_0, .int .u64 a1] w (fun e W' => e = .returned (.bool r) ∧ Wd w W' [] [] ) := by
  refine sxstart (n := 93) (l := [(0, .slice A0_0 a0.length c0_0), (1, .int .u64 a1)]) Tryd.func6 rfl rfl (Nat.le_of_ble_eq_true KR) (subsA_cons rfl (subsA_cons rfl (subsA_nil _))) ?_
  intro a ha
  have HW := Wd.refl w
  unfold headgatelaw05_FrameStacks.f at h
  refine wp_seq_k (fun K1854 hK1855 => ?_)
  refine wp_region_lit ?_
  refine stepp ha 4 (.bool false) KR KR ?_; clear ha a; intro a ha
  refine endl ?_
  refine thenN (hK1855 _ _ ?_); clear hK1855
  refine wp_seq_k (fun K1856 hK1857 => ?_)
  refine wp_seq_k (fun K1858 hK1859 => ?_)
  refine wp_region_lit ?_
  refine stepp ha 14 (.slice A0_0 a0.length c0_0) KR KR ?_; clear ha a; intro a ha
  refine stepp ha 15 (.int .i64 (a0.length : Int)) KR KR ?_; clear ha a; intro a ha
  refine stepp ha 16 (.bool (decide ((a0.length : Int) > 20))) KR KR ?_; clear ha a; intro a ha
  refine endl ?_
  refine thenN (hK1859 _ _ ?_); clear hK1859
  by_cases hp1860 : (a0.length : Int) > 20
  · skip
    replace h := ite_pos' h hp1860
    refine condT ha KR KR (t := decide ((a0.length : Int) > 20)) (decide_eq_true hp1860) ?_
    refine wp_seq_k (fun K1861 hK1862 => ?_)
    refine wp_region_lit ?_
    obtain ⟨t1863, ht1864, h_⟩ := bind_some' h; clear h; have h := h_; clear h_
    refine stepc ha 17 KR KR (headgatelaw05_wakes.calls K t1863 _ (HW.ca0 hG0) ht1864) ?_; clear ha a; rintro e W1865 ⟨rfl, HX1866⟩
    refine ⟨_, rfl, ?_⟩; intro a ha; replace HW := HW.callw HX1866; clear HX1866
    refine stepp ha 4 (.bool t1863) KR KR ?_; clear ha a; intro a ha
    refine endl ?_
    refine thenN (hK1862 _ _ ?_); clear hK1862
    refine wp_ret ?_
    refine thenR ?_
    obtain rfl := Option.some.inj h
    exact finv ha _ _ rfl (.tmp (v := .bool t1863) KR .nil) (.bool t1863) rfl ⟨rfl, HW.pick [] [] (by decide) (by decide) rfl KR⟩
  · skip
    replace h := ite_neg' h hp1860
    refine condF ha KR KR (t := decide ((a0.length : Int) > 20)) (decide_eq_false hp1860) ?_
    refine wp_skip ?_
    refine thenN (hK1857 _ _ ?_); clear hK1857
    refine wp_seq_k (fun K1867 hK1868 => ?_)
    refine wp_region_lit ?_
    refine stepp ha 5 (.string (⟨#[]⟩ : ByteArray)) KR KR ?_; clear ha a; intro a ha
    refine endl ?_
    refine thenN (hK1868 _ _ ?_); clear hK1868
    refine wp_seq_k (fun K1869 hK1870 => ?_)
    refine wp_seq_k (fun K1871 hK1872 => ?_)
    refine wp_region_lit ?_
    refine stepp ha 6 (.int .i64 0) KR KR ?_; clear ha a; intro a ha
    refine endl ?_
    refine thenN (hK1872 _ _ ?_); clear hK1872
    refine wp_block ?_
    refine loopk (fun k => fun a W1958 => ∃ (x1956 : ByteArray), ∃ (x1957 : Int), headgatelaw05_FrameStacks.l0 K a0 a1 k x1956 x1957 = some r ∧ Has 93 [(0, .slice A0_0 a0.length c0_0), (1, .int .u64 a1), (5, .string x1956), (6, .int .i64 x1957)] a ∧ Wd w W1958 [] []) K ?_ ?_
    · skip
      exact ⟨(⟨#[]⟩ : ByteArray), 0, h, ha.sub (subs_cons KR (subs_cons KR (subs_cons KR (subs_cons KR (subs_nil _))))), HW.pick [] [] (by decide) (by decide) KR KR⟩
    · skip
      intro k a W1958 hI
      obtain ⟨x1956, x1957, h, ha, HW⟩ := hI
      cases k with
      | zero => exact (none_some (show none = some r from h)).elim
      | succ k1959 =>
        replace h : headgatelaw05_FrameStacks.b0 K a0 a1 (headgatelaw05_FrameStacks.l0 K a0 a1 k1959) x1956 x1957 = some r := h
        obtain ⟨again1955, hag1960⟩ : ∃ g_, g_ = headgatelaw05_FrameStacks.l0 K a0 a1 k1959 := ⟨_, rfl⟩
        rw [← hag1960] at h
        unfold headgatelaw05_FrameStacks.b0 at h
        refine wp_seq_k (fun K1961 hK1962 => ?_)
        refine wp_seq_k (fun K1963 hK1964 => ?_)
        refine wp_region_lit ?_
        refine stepp ha 18 (.int .i64 x1957) KR KR ?_; clear ha a; intro a ha
        refine stepp ha 19 (.slice A0_0 a0.length c0_0) KR KR ?_; clear ha a; intro a ha
        refine stepp ha 20 (.int .i64 (a0.length : Int)) KR KR ?_; clear ha a; intro a ha
        refine stepp ha 21 (.bool (decide (x1957 < (a0.length : Int)))) KR KR ?_; clear ha a; intro a ha
        refine endl ?_
        refine thenN (hK1964 _ _ ?_); clear hK1964
        by_cases hp1965 : x1957 < (a0.length : Int)
        · skip
          replace h := ite_pos' h hp1965
          refine condT ha KR KR (t := decide (x1957 < (a0.length : Int))) (decide_eq_true hp1965) ?_
          refine wp_skip ?_
          refine thenN (hK1962 _ _ ?_); clear hK1962
          refine wp_seq_k (fun K1966 hK1967 => ?_)
          refine wp_block ?_
          refine wp_seq_k (fun K1968 hK1969 => ?_)
          refine wp_seq_k (fun K1970 hK1971 => ?_)
          refine wp_region_lit ?_
          refine stepp ha 24 (.slice A0_0 a0.length c0_0) KR KR ?_; clear ha a; intro a ha
          refine stepp ha 25 (.int .i64 x1957) KR KR ?_; clear ha a; intro a ha
          obtain ⟨hA1972, h_⟩ := asrt_some h; clear h; have h := h_; clear h_
          refine stepie encS (⟨#[]⟩ : ByteArray) ha 26 (fun _ => rfl) (v := .slice A0_0 a0.length c0_0) (xs := a0) ((HW.rd0 hr0_0)) 42 9 (.tmp 24) (.tmp 25) .i64 x1957 rfl KR KR KR KR hA1972 (show (x1957 : Int) < ((a0).length : Int) from hp1965) KR ?_; clear ha a; intro b1973 off1974 a hC1975 ha
          refine stepl ha 27 hC1975 9 0 (.tmp 26) (.string (rdL (⟨#[]⟩ : ByteArray) a0 x1957)) rfl KR KR KR ?_; clear ha a; intro a ha
          refine stepp ha 28 (.int .i64 ((rdL (⟨#[]⟩ : ByteArray) a0 x1957).size : Int)) KR KR ?_; clear ha a; intro a ha
          refine stepp ha 29 (.bool (decide (((rdL (⟨#[]⟩ : ByteArray) a0 x1957).size : Int) > 2000))) KR KR ?_; clear ha a; intro a ha
          refine endl ?_
          refine thenN (hK1971 _ _ ?_); clear hK1971
          by_cases hp1976 : ((rdL (⟨#[]⟩ : ByteArray) a0 x1957).size : Int) > 2000
          · skip
            replace h := ite_pos' h hp1976
            refine condT ha KR KR (t := decide (((rdL (⟨#[]⟩ : ByteArray) a0 x1957).size : Int) > 2000)) (decide_eq_true hp1976) ?_
            refine wp_seq_k (fun K1977 hK1978 => ?_)
            refine wp_region_lit ?_
            obtain ⟨t1979, ht1980, h_⟩ := bind_some' h; clear h; have h := h_; clear h_
            refine stepc ha 30 KR KR (headgatelaw05_wakes.calls K t1979 _ (HW.ca0 hG0) ht1980) ?_; clear ha a; rintro e W1981 ⟨rfl, HX1982⟩
            refine ⟨_, rfl, ?_⟩; intro a ha; replace HW := HW.callw HX1982; clear HX1982
            refine stepp ha 4 (.bool t1979) KR KR ?_; clear ha a; intro a ha
            refine endl ?_
            refine thenN (hK1978 _ _ ?_); clear hK1978
            refine wp_ret ?_
            refine thenR ?_
            refine blkR ?_
            refine thenR ?_
            refine thenR ?_
            refine blkR ?_
            refine thenR ?_
            obtain rfl := Option.some.inj h
            exact finv ha _ _ rfl (.tmp (v := .bool t1979) KR .nil) (.bool t1979) rfl ⟨rfl, HW.pick [] [] (by decide) (by decide) rfl KR⟩
          · skip
            replace h := ite_neg' h hp1976
            refine condF ha KR KR (t := decide (((rdL (⟨#[]⟩ : ByteArray) a0 x1957).size : Int) > 2000)) (decide_eq_false hp1976) ?_
            refine wp_skip ?_
            refine thenN (hK1969 _ _ ?_); clear hK1969
            refine wp_seq_k (fun K1983 hK1984 => ?_)
            refine wp_region_lit ?_
            refine stepp ha 32 (.int .u64 a1) KR KR ?_; clear ha a; intro a ha
            refine stepp ha 33 (.int .i64 x1957) KR KR ?_; clear ha a; intro a ha
            refine stepp ha 34 (.int .u64 (IntKind.wrap .u64 x1957)) KR KR ?_; clear ha a; intro a ha
            refine stepp ha 35 (.int .u64 (IntKind.wrap .u64 (a1 + (IntKind.wrap .u64 x1957)))) KR KR ?_; clear ha a; intro a ha
            refine stepp ha 36 (.slice A0_0 a0.length c0_0) KR KR ?_; clear ha a; intro a ha
            refine stepp ha 37 (.int .i64 x1957) KR KR ?_; clear ha a; intro a ha
            refine stepie encS (⟨#[]⟩ : ByteArray) ha 38 (fun _ => rfl) (v := .slice A0_0 a0.length c0_0) (xs := a0) ((HW.rd0 hr0_0)) 42 9 (.tmp 36) (.tmp 37) .i64 x1957 rfl KR KR KR KR hA1972 (show (x1957 : Int) < ((a0).length : Int) from hp1965) KR ?_; clear ha a; intro b1985 off1986 a hC1987 ha
            refine stepl ha 39 hC1987 9 0 (.tmp 38) (.string (rdL (⟨#[]⟩ : ByteArray) a0 x1957)) rfl KR KR KR ?_; clear ha a; intro a ha
            obtain ⟨t1988, ht1989, h_⟩ := bind_some' h; clear h; have h := h_; clear h_
            refine stepc ha 40 KR KR (frame_Put.calls K (IntKind.wrap .u64 (a1 + (IntKind.wrap .u64 x1957))) (rdL (⟨#[]⟩ : ByteArray) a0 x1957) t1988 _ (HW.ca0 hG0) ht1989) ?_; clear ha a; rintro e W1990 ⟨rfl, HX1991⟩
            refine ⟨_, rfl, ?_⟩; intro a ha; replace HW := HW.callw HX1991; clear HX1991
            refine stepp ha 31 (.tuple #[.string t1988.1, .int .i64 t1988.2]) KR KR ?_; clear ha a; intro a ha
            refine stepp ha 41 (.string t1988.1) KR KR ?_; clear ha a; intro a ha
            refine stepp ha 42 (.int .i64 t1988.2) KR KR ?_; clear ha a; intro a ha
            refine stepp ha 7 (.string t1988.1) KR KR ?_; clear ha a; intro a ha
            refine stepp ha 8 (.int .i64 t1988.2) KR KR ?_; clear ha a; intro a ha
            refine endl ?_
            refine thenN (hK1984 _ _ ?_); clear hK1984
            refine wp_seq_k (fun K1992 hK1993 => ?_)
            refine wp_seq_k (fun K1994 hK1995 => ?_)
            refine wp_region_lit ?_
            refine stepp ha 43 (.int .i64 t1988.2) KR KR ?_; clear ha a; intro a ha
            refine stepp ha 44 (.bool (t1988.2 != 0)) KR KR ?_; clear ha a; intro a ha
            refine endl ?_
            refine thenN (hK1995 _ _ ?_); clear hK1995
            by_cases hp1996 : t1988.2 = 0
            · skip
              replace h := ite_pos' h hp1996
              refine condF ha KR KR (t := (t1988.2 != 0)) (ineq_f hp1996) ?_
              refine wp_skip ?_
              refine thenN (hK1993 _ _ ?_); clear hK1993
              refine wp_region_lit ?_
              refine stepp ha 45 (.string x1956) KR KR ?_; clear ha a; intro a ha
              refine stepp ha 46 (.string t1988.1) KR KR ?_; clear ha a; intro a ha
              obtain ⟨hA1999, h_⟩ := asrt_some h; clear h; have h := h_; clear h_
              refine stepsa ha 47 9 9 (.tmp 45) (.tmp 46) x1956 t1988.1 rfl KR KR (show (x1956).size + (t1988.1).size ≤ 9223372036854775807 from hA1999) KR ?_; clear ha a; intro a ha
              refine stepp ha 5 (.string (x1956 ++ t1988.1)) KR KR ?_; clear ha a; intro a ha
              refine endl ?_
              refine blkN ?_
              refine thenN (hK1967 _ _ ?_); clear hK1967
              refine wp_region_lit ?_
              refine stepp ha 22 (.int .i64 x1957) KR KR ?_; clear ha a; intro a ha
              refine stepp ha 23 (.int .i64 (IntKind.wrap .i64 (x1957 + 1))) KR KR ?_; clear ha a; intro a ha
              refine stepp ha 6 (.int .i64 (IntKind.wrap .i64 (x1957 + 1))) KR KR ?_; clear ha a; intro a ha
              refine endl ?_
              exact thenN ⟨k1959, Nat.lt_succ_self k1959, x1956 ++ t1988.1, IntKind.wrap .i64 (x1957 + 1), (by rw [← hag1960]; exact h), ha.sub (subs_cons KR (subs_cons KR (subs_cons KR (subs_cons KR (subs_nil _))))), HW.pick [] [] (by decide) (by decide) KR KR⟩
            · skip
              replace h := ite_neg' h hp1996
              refine condT ha KR KR (t := (t1988.2 != 0)) (ineq_t hp1996) ?_
              refine wp_seq_k (fun K1997 hK1998 => ?_)
              refine wp_region_lit ?_
              refine stepp ha 4 (.bool false) KR KR ?_; clear ha a; intro a ha
              refine endl ?_
              refine thenN (hK1998 _ _ ?_); clear hK1998
              refine wp_ret ?_
              refine thenR ?_
              refine blkR ?_
              refine thenR ?_
              refine thenR ?_
              refine blkR ?_
              refine thenR ?_
              obtain rfl := Option.some.inj h
              exact finv ha _ _ rfl (.tmp (v := .bool false) KR .nil) (.bool false) rfl ⟨rfl, HW.pick [] [] (by decide) (by decide) rfl KR⟩
        · skip
          replace h := ite_neg' h hp1965
          refine condF ha KR KR (t := decide (x1957 < (a0.length : Int))) (decide_eq_false hp1965) ?_
          refine wp_exit ?_
          refine thenE ?_
          refine thenE ?_
          refine inBlk ?_
          refine thenN (hK1870 _ _ ?_); clear hK1870
          refine wp_seq_k (fun K2000 hK2001 => ?_)
          refine wp_seq_k (fun K2002 hK2003 => ?_)
          refine wp_region_lit ?_
          refine stepp ha 9 (.int .i64 0) KR KR ?_; clear ha a; intro a ha
          refine endl ?_
          refine thenN (hK2003 _ _ ?_); clear hK2003
          refine wp_block ?_
          refine loopk (fun k => fun a W2081 => ∃ (x2079 : ByteArray), ∃ (x2080 : Int), headgatelaw05_FrameStacks.l1 K a0 a1 k x2079 x2080 = some r ∧ Has 93 [(0, .slice A0_0 a0.length c0_0), (1, .int .u64 a1), (5, .string x2079), (9, .int .i64 x2080)] a ∧ Wd w W2081 [] []) K ?_ ?_
          · skip
            exact ⟨x1956, 0, h, ha.sub (subs_cons KR (subs_cons KR (subs_cons KR (subs_cons KR (subs_nil _))))), HW.pick [] [] (by decide) (by decide) KR KR⟩
          · skip
            intro k a W2081 hI
            obtain ⟨x2079, x2080, h, ha, HW⟩ := hI
            cases k with
            | zero => exact (none_some (show none = some r from h)).elim
            | succ k2082 =>
              replace h : headgatelaw05_FrameStacks.b1 K a0 a1 (headgatelaw05_FrameStacks.l1 K a0 a1 k2082) x2079 x2080 = some r := h
              obtain ⟨again2078, hag2083⟩ : ∃ g_, g_ = headgatelaw05_FrameStacks.l1 K a0 a1 k2082 := ⟨_, rfl⟩
              rw [← hag2083] at h
              unfold headgatelaw05_FrameStacks.b1 at h
              refine wp_seq_k (fun K2084 hK2085 => ?_)
              refine wp_seq_k (fun K2086 hK2087 => ?_)
              refine wp_region_lit ?_
              refine stepp ha 48 (.int .i64 x2080) KR KR ?_; clear ha a; intro a ha
              refine stepp ha 49 (.slice A0_0 a0.length c0_0) KR KR ?_; clear ha a; intro a ha
              refine stepp ha 50 (.int .i64 (a0.length : Int)) KR KR ?_; clear ha a; intro a ha
              refine stepp ha 51 (.bool (decide (x2080 < (a0.length : Int)))) KR KR ?_; clear ha a; intro a ha
              refine endl ?_
              refine thenN (hK2087 _ _ ?_); clear hK2087
              by_cases hp2088 : x2080 < (a0.length : Int)
              · skip
                replace h := ite_pos' h hp2088
                refine condT ha KR KR (t := decide (x2080 < (a0.length : Int))) (decide_eq_true hp2088) ?_
                refine wp_skip ?_
                refine thenN (hK2085 _ _ ?_); clear hK2085
                refine wp_seq_k (fun K2089 hK2090 => ?_)
                refine wp_block ?_
                refine wp_seq_k (fun K2091 hK2092 => ?_)
                refine wp_region_lit ?_
                refine stepp ha 55 (.string x2079) KR KR ?_; clear ha a; intro a ha
                obtain ⟨t2093, ht2094, h_⟩ := bind_some' h; clear h; have h := h_; clear h_
                refine stepc ha 56 KR KR (frame_Get.calls K x2079 t2093 _ (HW.ca0 hG0) ht2094) ?_; clear ha a; rintro e W2095 ⟨rfl, HX2096⟩
                refine ⟨_, rfl, ?_⟩; intro a ha; replace HW := HW.callw HX2096; clear HX2096
                refine stepp ha 54 (.tuple #[.int .u64 t2093.1, .string t2093.2.1, .int .i64 t2093.2.2.1, .int .i64 t2093.2.2.2]) KR KR ?_; clear ha a; intro a ha
                refine stepp ha 57 (.int .u64 t2093.1) KR KR ?_; clear ha a; intro a ha
                refine stepp ha 58 (.string t2093.2.1) KR KR ?_; clear ha a; intro a ha
                refine stepp ha 59 (.int .i64 t2093.2.2.1) KR KR ?_; clear ha a; intro a ha
                refine stepp ha 60 (.int .i64 t2093.2.2.2) KR KR ?_; clear ha a; intro a ha
                refine stepp ha 10 (.int .u64 t2093.1) KR KR ?_; clear ha a; intro a ha
                refine stepp ha 11 (.string t2093.2.1) KR KR ?_; clear ha a; intro a ha
                refine stepp ha 12 (.int .i64 t2093.2.2.1) KR KR ?_; clear ha a; intro a ha
                refine stepp ha 13 (.int .i64 t2093.2.2.2) KR KR ?_; clear ha a; intro a ha
                refine endl ?_
                refine thenN (hK2092 _ _ ?_); clear hK2092
                refine wp_seq_k (fun K2097 hK2098 => ?_)
                refine wp_seq_k (fun K2099 hK2100 => ?_)
                refine wp_region_lit ?_
                refine stepp ha 61 (.int .i64 t2093.2.2.2) KR KR ?_; clear ha a; intro a ha
                refine stepp ha 62 (.bool (t2093.2.2.2 != 0)) KR KR ?_; clear ha a; intro a ha
                refine stepp ha 63 (.bool (t2093.2.2.2 != 0)) KR KR ?_; clear ha a; intro a ha
                by_cases hp2101 : t2093.2.2.2 = 0
                · skip
                  replace h := ite_pos' h hp2101
                  replace ha := ha.bool 63 KR (ineq_f hp2101)
                  refine stepp ha 64 (.int .u64 t2093.1) KR KR ?_; clear ha a; intro a ha
                  refine stepp ha 65 (.int .u64 a1) KR KR ?_; clear ha a; intro a ha
                  refine stepp ha 66 (.int .i64 x2080) KR KR ?_; clear ha a; intro a ha
                  refine stepp ha 67 (.int .u64 (IntKind.wrap .u64 x2080)) KR KR ?_; clear ha a; intro a ha
                  refine stepp ha 68 (.int .u64 (IntKind.wrap .u64 (a1 + (IntKind.wrap .u64 x2080)))) KR KR ?_; clear ha a; intro a ha
                  refine stepp ha 69 (.bool (t2093.1 != (IntKind.wrap .u64 (a1 + (IntKind.wrap .u64 x2080))))) KR KR ?_; clear ha a; intro a ha
                  refine stepp ha 70 (.bool (t2093.1 != (IntKind.wrap .u64 (a1 + (IntKind.wrap .u64 x2080))))) KR KR ?_; clear ha a; intro a ha
                  refine stepp ha 71 (.bool (t2093.1 != (IntKind.wrap .u64 (a1 + (IntKind.wrap .u64 x2080))))) KR KR ?_; clear ha a; intro a ha
                  by_cases hp2102 : t2093.1 = (IntKind.wrap .u64 (a1 + (IntKind.wrap .u64 x2080)))
                  · skip
                    replace h := ite_pos' h hp2102
                    replace ha := ha.bool 71 KR (ineq_f hp2102)
                    refine stepp ha 72 (.string t2093.2.1) KR KR ?_; clear ha a; intro a ha
                    refine stepp ha 73 (.slice A0_0 a0.length c0_0) KR KR ?_; clear ha a; intro a ha
                    refine stepp ha 74 (.int .i64 x2080) KR KR ?_; clear ha a; intro a ha
                    obtain ⟨hA2103, h_⟩ := asrt_some h; clear h; have h := h_; clear h_
                    refine stepie encS (⟨#[]⟩ : ByteArray) ha 75 (fun _ => rfl) (v := .slice A0_0 a0.length c0_0) (xs := a0) ((HW.rd0 hr0_0)) 42 9 (.tmp 73) (.tmp 74) .i64 x2080 rfl KR KR KR KR hA2103 (show (x2080 : Int) < ((a0).length : Int) from hp2088) KR ?_; clear ha a; intro b2104 off2105 a hC2106 ha
                    refine stepl ha 76 hC2106 9 0 (.tmp 75) (.string (rdL (⟨#[]⟩ : ByteArray) a0 x2080)) rfl KR KR KR ?_; clear ha a; intro a ha
                    refine stepp ha 77 (.bool (!(t2093.2.1.toList == (rdL (⟨#[]⟩ : ByteArray) a0 x2080).toList))) KR KR ?_; clear ha a; intro a ha
                    refine stepp ha 78 (.bool (!(t2093.2.1.toList == (rdL (⟨#[]⟩ : ByteArray) a0 x2080).toList))) KR KR ?_; clear ha a; intro a ha
                    refine stepp ha 79 (.bool (!(t2093.2.1.toList == (rdL (⟨#[]⟩ : ByteArray) a0 x2080).toList))) KR KR ?_; clear ha a; intro a ha
                    by_cases hp2107 : t2093.2.1 = (rdL (⟨#[]⟩ : ByteArray) a0 x2080)
                    · skip
                      replace h := ite_pos' h hp2107
                      replace ha := ha.bool 79 KR (str_ne_f hp2107)
                      refine stepp ha 80 (.int .i64 t2093.2.2.1) KR KR ?_; clear ha a; intro a ha
                      refine stepp ha 81 (.string x2079) KR KR ?_; clear ha a; intro a ha
                      refine stepp ha 82 (.int .i64 (x2079.size : Int)) KR KR ?_; clear ha a; intro a ha
                      refine stepp ha 83 (.bool (decide (t2093.2.2.1 > (x2079.size : Int)))) KR KR ?_; clear ha a; intro a ha
                      refine stepp ha 84 (.bool (decide (t2093.2.2.1 > (x2079.size : Int)))) KR KR ?_; clear ha a; intro a ha
                      refine endl ?_
                      refine thenN (hK2100 _ _ ?_); clear hK2100
                      by_cases hp2108 : t2093.2.2.1 > (x2079.size : Int)
                      · skip
                        replace h := ite_pos' h hp2108
                        refine condT ha KR KR (t := decide (t2093.2.2.1 > (x2079.size : Int))) (decide_eq_true hp2108) ?_
                        refine wp_seq_k (fun K2109 hK2110 => ?_)
                        refine wp_region_lit ?_
                        refine stepp ha 4 (.bool false) KR KR ?_; clear ha a; intro a ha
                        refine endl ?_
                        refine thenN (hK2110 _ _ ?_); clear hK2110
                        refine wp_ret ?_
                        refine thenR ?_
                        refine blkR ?_
                        refine thenR ?_
                        refine thenR ?_
                        refine blkR ?_
                        refine thenR ?_
                        obtain rfl := Option.some.inj h
                        exact finv ha _ _ rfl (.tmp (v := .bool false) KR .nil) (.bool false) rfl ⟨rfl, HW.pick [] [] (by decide) (by decide) rfl KR⟩
                      · skip
                        replace h := ite_neg' h hp2108
                        refine condF ha KR KR (t := decide (t2093.2.2.1 > (x2079.size : Int))) (decide_eq_false hp2108) ?_
                        refine wp_skip ?_
                        refine thenN (hK2098 _ _ ?_); clear hK2098
                        refine wp_region_lit ?_
                        refine stepp ha 85 (.string x2079) KR KR ?_; clear ha a; intro a ha
                        refine stepp ha 86 (.int .i64 t2093.2.2.1) KR KR ?_; clear ha a; intro a ha
                        obtain ⟨hA2117, h_⟩ := asrt_some h; clear h; have h := h_; clear h_
                        obtain ⟨hA2118, h_⟩ := asrt_some h; clear h; have h := h_; clear h_
                        refine stepssl ha 87 9 (.tmp 85) (.tmp 86) x2079 .i64 t2093.2.2.1 rfl KR KR KR hA2117 (show (t2093.2.2.1 : Int) ≤ ((x2079).size : Int) from hA2118) KR ?_; clear ha a; intro a ha
                        refine stepp ha 5 (.string (x2079.extract (t2093.2.2.1 : Int).toNat (x2079).size)) KR KR ?_; clear ha a; intro a ha
                        refine endl ?_
                        refine blkN ?_
                        refine thenN (hK2090 _ _ ?_); clear hK2090
                        refine wp_region_lit ?_
                        refine stepp ha 52 (.int .i64 x2080) KR KR ?_; clear ha a; intro a ha
                        refine stepp ha 53 (.int .i64 (IntKind.wrap .i64 (x2080 + 1))) KR KR ?_; clear ha a; intro a ha
                        refine stepp ha 9 (.int .i64 (IntKind.wrap .i64 (x2080 + 1))) KR KR ?_; clear ha a; intro a ha
                        refine endl ?_
                        exact thenN ⟨k2082, Nat.lt_succ_self k2082, x2079.extract (t2093.2.2.1 : Int).toNat (x2079).size, IntKind.wrap .i64 (x2080 + 1), (by rw [← hag2083]; exact h), ha.sub (subs_cons KR (subs_cons KR (subs_cons KR (subs_cons KR (subs_nil _))))), HW.pick [] [] (by decide) (by decide) KR KR⟩
                    · skip
                      replace h := ite_neg' h hp2107
                      replace ha := ha.bool 79 KR (str_ne_t hp2107)
                      refine stepo ha 80 KR ?_; clear ha a; intro a ha
                      refine stepo ha 81 KR ?_; clear ha a; intro a ha
                      refine stepo ha 82 KR ?_; clear ha a; intro a ha
                      refine stepo ha 83 KR ?_; clear ha a; intro a ha
                      refine stepp ha 84 (.bool true) KR KR ?_; clear ha a; intro a ha
                      refine endl ?_
                      refine thenN (hK2100 _ _ ?_); clear hK2100
                      refine condT ha KR KR (t := true) (rfl) ?_
                      refine wp_seq_k (fun K2111 hK2112 => ?_)
                      refine wp_region_lit ?_
                      refine stepp ha 4 (.bool false) KR KR ?_; clear ha a; intro a ha
                      refine endl ?_
                      refine thenN (hK2112 _ _ ?_); clear hK2112
                      refine wp_ret ?_
                      refine thenR ?_
                      refine blkR ?_
                      refine thenR ?_
                      refine thenR ?_
                      refine blkR ?_
                      refine thenR ?_
                      obtain rfl := Option.some.inj h
                      exact finv ha _ _ rfl (.tmp (v := .bool false) KR .nil) (.bool false) rfl ⟨rfl, HW.pick [] [] (by decide) (by decide) rfl KR⟩
                  · skip
                    replace h := ite_neg' h hp2102
                    replace ha := ha.bool 71 KR (ineq_t hp2102)
                    refine stepo ha 72 KR ?_; clear ha a; intro a ha
                    refine stepo ha 73 KR ?_; clear ha a; intro a ha
                    refine stepo ha 74 KR ?_; clear ha a; intro a ha
                    refine stepo ha 75 KR ?_; clear ha a; intro a ha
                    refine stepo ha 76 KR ?_; clear ha a; intro a ha
                    refine stepo ha 77 KR ?_; clear ha a; intro a ha
                    refine stepp ha 78 (.bool true) KR KR ?_; clear ha a; intro a ha
                    refine stepp ha 79 (.bool true) KR KR ?_; clear ha a; intro a ha
                    refine stepo ha 80 KR ?_; clear ha a; intro a ha
                    refine stepo ha 81 KR ?_; clear ha a; intro a ha
                    refine stepo ha 82 KR ?_; clear ha a; intro a ha
                    refine stepo ha 83 KR ?_; clear ha a; intro a ha
                    refine stepp ha 84 (.bool true) KR KR ?_; clear ha a; intro a ha
                    refine endl ?_
                    refine thenN (hK2100 _ _ ?_); clear hK2100
                    refine condT ha KR KR (t := true) (rfl) ?_
                    refine wp_seq_k (fun K2113 hK2114 => ?_)
                    refine wp_region_lit ?_
                    refine stepp ha 4 (.bool false) KR KR ?_; clear ha a; intro a ha
                    refine endl ?_
                    refine thenN (hK2114 _ _ ?_); clear hK2114
                    refine wp_ret ?_
                    refine thenR ?_
                    refine blkR ?_
                    refine thenR ?_
                    refine thenR ?_
                    refine blkR ?_
                    refine thenR ?_
                    obtain rfl := Option.some.inj h
                    exact finv ha _ _ rfl (.tmp (v := .bool false) KR .nil) (.bool false) rfl ⟨rfl, HW.pick [] [] (by decide) (by decide) rfl KR⟩
                · skip
                  replace h := ite_neg' h hp2101
                  replace ha := ha.bool 63 KR (ineq_t hp2101)
                  refine stepo ha 64 KR ?_; clear ha a; intro a ha
                  refine stepo ha 65 KR ?_; clear ha a; intro a ha
                  refine stepo ha 66 KR ?_; clear ha a; intro a ha
                  refine stepo ha 67 KR ?_; clear ha a; intro a ha
                  refine stepo ha 68 KR ?_; clear ha a; intro a ha
                  refine stepo ha 69 KR ?_; clear ha a; intro a ha
                  refine stepp ha 70 (.bool true) KR KR ?_; clear ha a; intro a ha
                  refine stepp ha 71 (.bool true) KR KR ?_; clear ha a; intro a ha
                  refine stepo ha 72 KR ?_; clear ha a; intro a ha
                  refine stepo ha 73 KR ?_; clear ha a; intro a ha
                  refine stepo ha 74 KR ?_; clear ha a; intro a ha
                  refine stepo ha 75 KR ?_; clear ha a; intro a ha
                  refine stepo ha 76 KR ?_; clear ha a; intro a ha
                  refine stepo ha 77 KR ?_; clear ha a; intro a ha
                  refine stepp ha 78 (.bool true) KR KR ?_; clear ha a; intro a ha
                  refine stepp ha 79 (.bool true) KR KR ?_; clear ha a; intro a ha
                  refine stepo ha 80 KR ?_; clear ha a; intro a ha
                  refine stepo ha 81 KR ?_; clear ha a; intro a ha
                  refine stepo ha 82 KR ?_; clear ha a; intro a ha
                  refine stepo ha 83 KR ?_; clear ha a; intro a ha
                  refine stepp ha 84 (.bool true) KR KR ?_; clear ha a; intro a ha
                  refine endl ?_
                  refine thenN (hK2100 _ _ ?_); clear hK2100
                  refine condT ha KR KR (t := true) (rfl) ?_
                  refine wp_seq_k (fun K2115 hK2116 => ?_)
                  refine wp_region_lit ?_
                  refine stepp ha 4 (.bool false) KR KR ?_; clear ha a; intro a ha
                  refine endl ?_
                  refine thenN (hK2116 _ _ ?_); clear hK2116
                  refine wp_ret ?_
                  refine thenR ?_
                  refine blkR ?_
                  refine thenR ?_
                  refine thenR ?_
                  refine blkR ?_
                  refine thenR ?_
                  obtain rfl := Option.some.inj h
                  exact finv ha _ _ rfl (.tmp (v := .bool false) KR .nil) (.bool false) rfl ⟨rfl, HW.pick [] [] (by decide) (by decide) rfl KR⟩
              · skip
                replace h := ite_neg' h hp2088
                refine condF ha KR KR (t := decide (x2080 < (a0.length : Int))) (decide_eq_false hp2088) ?_
                refine wp_exit ?_
                refine thenE ?_
                refine thenE ?_
                refine inBlk ?_
                refine thenN (hK2001 _ _ ?_); clear hK2001
                refine wp_seq_k (fun K2119 hK2120 => ?_)
                refine wp_region_lit ?_
                refine stepp ha 88 (.string x2079) KR KR ?_; clear ha a; intro a ha
                refine stepp ha 89 (.bool (x2079.toList == (⟨#[]⟩ : ByteArray).toList)) KR KR ?_; clear ha a; intro a ha
                refine stepp ha 90 (.bool (x2079.toList == (⟨#[]⟩ : ByteArray).toList)) KR KR ?_; clear ha a; intro a ha
                by_cases hp2121 : x2079 = (⟨#[]⟩ : ByteArray)
                · skip
                  replace h := ite_pos' h hp2121
                  replace ha := ha.bool 90 KR (str_eq_t hp2121)
                  obtain ⟨t2122, ht2123, h_⟩ := bind_some' h; clear h; have h := h_; clear h_
                  refine stepc ha 91 KR KR (headgatelaw05_wakes.calls K t2122 _ (HW.ca0 hG0) ht2123) ?_; clear ha a; rintro e W2124 ⟨rfl, HX2125⟩
                  refine ⟨_, rfl, ?_⟩; intro a ha; replace HW := HW.callw HX2125; clear HX2125
                  refine stepp ha 92 (.bool t2122) KR KR ?_; clear ha a; intro a ha
                  refine stepp ha 4 (.bool t2122) KR KR ?_; clear ha a; intro a ha
                  refine endl ?_
                  refine thenN (hK2120 _ _ ?_); clear hK2120
                  refine wp_ret ?_
                  obtain rfl := Option.some.inj h
                  exact finv ha _ _ rfl (.tmp (v := .bool t2122) KR .nil) (.bool t2122) rfl ⟨rfl, HW.pick [] [] (by decide) (by decide) rfl KR⟩
                · skip
                  replace h := ite_neg' h hp2121
                  replace ha := ha.bool 90 KR (str_eq_f hp2121)
                  refine stepo ha 91 KR ?_; clear ha a; intro a ha
                  refine stepp ha 92 (.bool false) KR KR ?_; clear ha a; intro a ha
                  refine stepp ha 4 (.bool false) KR KR ?_; clear ha a; intro a ha
                  refine endl ?_
                  refine thenN (hK2120 _ _ ?_); clear hK2120
                  refine wp_ret ?_
                  obtain rfl := Option.some.inj h
                  exact finv ha _ _ rfl (.tmp (v := .bool false) KR .nil) (.bool false) rfl ⟨rfl, HW.pick [] [] (by decide) (by decide) rfl KR⟩
end Go.Proofs.YtdcojinnjpihaaaDoor.F
