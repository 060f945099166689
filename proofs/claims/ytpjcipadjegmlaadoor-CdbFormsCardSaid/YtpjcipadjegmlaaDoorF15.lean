/- headgate/headgatelaw15.wakes: plain functions, and that the calls come to what they say. No condition. -/
import Derived.Test.YtpjcipadjegmlaaDoorFT
import Derived.Test.YtpjcipadjegmlaaDoorF16
import Derived.Test.YtpjcipadjegmlaaDoorF22
import Derived.Test.YtpjcipadjegmlaaDoorF48
namespace Go.Proofs.YtpjcipadjegmlaaDoor.F
open Go Go.RowKit Go.Proofs.YtpjcipadjegmlaaDoor.X
set_option linter.unusedVariables false
set_option linter.unusedSimpArgs false
/-! ### headgate/headgatelaw15.wakes: function 15 -/
def headgatelaw15_wakes.f (K : Nat)  : Option Bool :=
  (cdb_Parse.f K (⟨#[40, 0, 0, 0, 0, 5, 0, 0, 2, 0]⟩ : ByteArray)).bind fun t1993 => ((cdb_Build.f K (⟨40, 5, 2, false, 0, 0, 0⟩ : T_cdb_Ask)).bind fun t2002 => (if t1993.2 = 0 then (if t2002.2 = 0 then (if t1993.1.f1 = 5 then (if t1993.1.f2 = 2 then (if t2002.1 = (⟨#[40, 0, 0, 0, 0, 5, 0, 0, 2, 0]⟩ : ByteArray) then ((cdb_Type.f K 8).bind fun t2013 => (if t2013 = 6 then ((cdb_Number.f 2).bind fun t2018 => (some (t2018 == 3))) else (some false))) else (some false)) else (some false)) else (some false)) else (some false)) else (some false)))
set_option maxRecDepth 100000 in
set_option maxHeartbeats 4000000 in
theorem headgatelaw15_wakes.calls (K : Nat)   (r : Bool) (w : World) (hG0 : CA w 0 0 (encs (encI .i64) G_cdb_numbers).toArray) (hG1 : CA w 1 0 (encs T_cdb_form.enc G_cdb_forms).toArray) (h : headgatelaw15_wakes.f K  = some r) :
    Calls Tryd.prog 15 #[] w (fun e W' => e = .returned (.bool r) ∧ Wd w W' [] [] ) := by
  refine sxstart (n := 42) (l := []) Tryd.func15 rfl rfl (Nat.le_of_ble_eq_true KR) (subsA_nil _) ?_
  intro a ha
  have HW := Wd.refl w
  unfold headgatelaw15_wakes.f at h
  refine wp_seq_k (fun K1989 hK1990 => ?_)
  refine wp_region_lit ?_
  refine stepp ha 0 (.bool false) KR KR ?_; clear ha a; intro a ha
  refine endl ?_
  refine thenN (hK1990 _ _ ?_); clear hK1990
  refine wp_seq_k (fun K1991 hK1992 => ?_)
  refine wp_region_lit ?_
  obtain ⟨t1993, ht1994, h_⟩ := bind_some' h; clear h; have h := h_; clear h_
  refine stepc ha 6 KR KR (cdb_Parse.calls K (⟨#[40, 0, 0, 0, 0, 5, 0, 0, 2, 0]⟩ : ByteArray) t1993 _ (HW.ca0 hG0) (HW.ca0 hG1) ht1994) ?_; clear ha a; rintro e W1995 ⟨rfl, HX1996⟩
  refine ⟨_, rfl, ?_⟩; intro a ha; replace HW := HW.callw HX1996; clear HX1996
  refine stepp ha 5 (.tuple #[.agg #[.int .i64 t1993.1.f0, .int .i64 t1993.1.f1, .int .i64 t1993.1.f2, .bool t1993.1.f3, .int .i64 t1993.1.f4, .int .i64 t1993.1.f5, .int .i64 t1993.1.f6], .int .i64 t1993.2]) KR KR ?_; clear ha a; intro a ha
  refine stepp ha 7 (.agg #[.int .i64 t1993.1.f0, .int .i64 t1993.1.f1, .int .i64 t1993.1.f2, .bool t1993.1.f3, .int .i64 t1993.1.f4, .int .i64 t1993.1.f5, .int .i64 t1993.1.f6]) KR KR ?_; clear ha a; intro a ha
  refine stepp ha 8 (.int .i64 t1993.2) KR KR ?_; clear ha a; intro a ha
  refine stepnew ha HW 1 #[.int .i64 0, .int .i64 0, .int .i64 0, .bool false, .int .i64 0, .int .i64 0, .int .i64 0] 39 KR KR ?_; clear ha HW a; intro b1997 a W1998 HW ha
  refine stepst ha HW 0 (b := b1997) (C := #[.int .i64 0, .int .i64 0, .int .i64 0, .bool false, .int .i64 0, .int .i64 0, .int .i64 0]) (T := 39) KR 39 0 (.tmp 1) (.tmp 7) (.agg #[.int .i64 t1993.1.f0, .int .i64 t1993.1.f1, .int .i64 t1993.1.f2, .bool t1993.1.f3, .int .i64 t1993.1.f4, .int .i64 t1993.1.f5, .int .i64 t1993.1.f6]) #[.int .i64 t1993.1.f0, .int .i64 t1993.1.f1, .int .i64 t1993.1.f2, .bool t1993.1.f3, .int .i64 t1993.1.f4, .int .i64 t1993.1.f5, .int .i64 t1993.1.f6] rfl KR KR KR KR KR KR KR ?_; clear ha HW a; intro a W1999 HW ha
  refine stepp ha 2 (.int .i64 t1993.2) KR KR ?_; clear ha a; intro a ha
  refine endl ?_
  refine thenN (hK1992 _ _ ?_); clear hK1992
  refine wp_seq_k (fun K2000 hK2001 => ?_)
  refine wp_region_lit ?_
  refine stepp ha 10 (.agg #[.int .i64 40, .int .i64 5, .int .i64 2, .bool false, .int .i64 0, .int .i64 0, .int .i64 0]) KR KR ?_; clear ha a; intro a ha
  obtain ⟨t2002, ht2003, h_⟩ := bind_some' h; clear h; have h := h_; clear h_
  refine stepc ha 11 KR KR (cdb_Build.calls K (⟨40, 5, 2, false, 0, 0, 0⟩ : T_cdb_Ask) t2002 _ (HW.ca0 hG0) (HW.ca0 hG1) ht2003) ?_; clear ha a; rintro e W2004 ⟨rfl, HX2005⟩
  refine ⟨_, rfl, ?_⟩; intro a ha; replace HW := HW.callw HX2005; clear HX2005
  refine stepp ha 9 (.tuple #[.string t2002.1, .int .i64 t2002.2]) KR KR ?_; clear ha a; intro a ha
  refine stepp ha 12 (.string t2002.1) KR KR ?_; clear ha a; intro a ha
  refine stepp ha 13 (.int .i64 t2002.2) KR KR ?_; clear ha a; intro a ha
  refine stepp ha 3 (.string t2002.1) KR KR ?_; clear ha a; intro a ha
  refine stepp ha 4 (.int .i64 t2002.2) KR KR ?_; clear ha a; intro a ha
  refine endl ?_
  refine thenN (hK2001 _ _ ?_); clear hK2001
  refine wp_seq_k (fun K2006 hK2007 => ?_)
  refine wp_region_lit ?_
  refine stepp ha 14 (.int .i64 t1993.2) KR KR ?_; clear ha a; intro a ha
  refine stepp ha 15 (.bool (t1993.2 == 0)) KR KR ?_; clear ha a; intro a ha
  refine stepp ha 16 (.bool (t1993.2 == 0)) KR KR ?_; clear ha a; intro a ha
  by_cases hp2008 : t1993.2 = 0
  · skip
    replace h := ite_pos' h hp2008
    replace ha := ha.bool 16 KR (ieq_t hp2008)
    refine stepp ha 17 (.int .i64 t2002.2) KR KR ?_; clear ha a; intro a ha
    refine stepp ha 18 (.bool (t2002.2 == 0)) KR KR ?_; clear ha a; intro a ha
    refine stepp ha 19 (.bool (t2002.2 == 0)) KR KR ?_; clear ha a; intro a ha
    refine stepp ha 20 (.bool (t2002.2 == 0)) KR KR ?_; clear ha a; intro a ha
    by_cases hp2009 : t2002.2 = 0
    · skip
      replace h := ite_pos' h hp2009
      replace ha := ha.bool 20 KR (ieq_t hp2009)
      refine stepp ha 21 (.pointer (some ⟨b1997, 1, none⟩)) KR KR ?_; clear ha a; intro a ha
      refine stepl ha 22 (HW.ca (i := 0) (b := b1997) (C := #[.int .i64 t1993.1.f0, .int .i64 t1993.1.f1, .int .i64 t1993.1.f2, .bool t1993.1.f3, .int .i64 t1993.1.f4, .int .i64 t1993.1.f5, .int .i64 t1993.1.f6]) (T := 39) (fr := (0, 0)) KR) 3 1 (.tmp 21) (.int .i64 t1993.1.f1) rfl KR KR KR ?_; clear ha a; intro a ha
      refine stepp ha 23 (.bool (t1993.1.f1 == 5)) KR KR ?_; clear ha a; intro a ha
      refine stepp ha 24 (.bool (t1993.1.f1 == 5)) KR KR ?_; clear ha a; intro a ha
      refine stepp ha 25 (.bool (t1993.1.f1 == 5)) KR KR ?_; clear ha a; intro a ha
      by_cases hp2010 : t1993.1.f1 = 5
      · skip
        replace h := ite_pos' h hp2010
        replace ha := ha.bool 25 KR (ieq_t hp2010)
        refine stepp ha 26 (.pointer (some ⟨b1997, 2, none⟩)) KR KR ?_; clear ha a; intro a ha
        refine stepl ha 27 (HW.ca (i := 0) (b := b1997) (C := #[.int .i64 t1993.1.f0, .int .i64 t1993.1.f1, .int .i64 t1993.1.f2, .bool t1993.1.f3, .int .i64 t1993.1.f4, .int .i64 t1993.1.f5, .int .i64 t1993.1.f6]) (T := 39) (fr := (0, 0)) KR) 3 2 (.tmp 26) (.int .i64 t1993.1.f2) rfl KR KR KR ?_; clear ha a; intro a ha
        refine stepp ha 28 (.bool (t1993.1.f2 == 2)) KR KR ?_; clear ha a; intro a ha
        refine stepp ha 29 (.bool (t1993.1.f2 == 2)) KR KR ?_; clear ha a; intro a ha
        refine stepp ha 30 (.bool (t1993.1.f2 == 2)) KR KR ?_; clear ha a; intro a ha
        by_cases hp2011 : t1993.1.f2 = 2
        · skip
          replace h := ite_pos' h hp2011
          replace ha := ha.bool 30 KR (ieq_t hp2011)
          refine stepp ha 31 (.string t2002.1) KR KR ?_; clear ha a; intro a ha
          refine stepp ha 32 (.bool (t2002.1.toList == (⟨#[40, 0, 0, 0, 0, 5, 0, 0, 2, 0]⟩ : ByteArray).toList)) KR KR ?_; clear ha a; intro a ha
          refine stepp ha 33 (.bool (t2002.1.toList == (⟨#[40, 0, 0, 0, 0, 5, 0, 0, 2, 0]⟩ : ByteArray).toList)) KR KR ?_; clear ha a; intro a ha
          refine stepp ha 34 (.bool (t2002.1.toList == (⟨#[40, 0, 0, 0, 0, 5, 0, 0, 2, 0]⟩ : ByteArray).toList)) KR KR ?_; clear ha a; intro a ha
          by_cases hp2012 : t2002.1 = (⟨#[40, 0, 0, 0, 0, 5, 0, 0, 2, 0]⟩ : ByteArray)
          · skip
            replace h := ite_pos' h hp2012
            replace ha := ha.bool 34 KR (str_eq_t hp2012)
            obtain ⟨t2013, ht2014, h_⟩ := bind_some' h; clear h; have h := h_; clear h_
            refine stepc ha 35 KR KR (cdb_Type.calls K 8 t2013 _ (HW.ca0 hG0) ht2014) ?_; clear ha a; rintro e W2015 ⟨rfl, HX2016⟩
            refine ⟨_, rfl, ?_⟩; intro a ha; replace HW := HW.callw HX2016; clear HX2016
            refine stepp ha 36 (.bool (t2013 == 6)) KR KR ?_; clear ha a; intro a ha
            refine stepp ha 37 (.bool (t2013 == 6)) KR KR ?_; clear ha a; intro a ha
            refine stepp ha 38 (.bool (t2013 == 6)) KR KR ?_; clear ha a; intro a ha
            by_cases hp2017 : t2013 = 6
            · skip
              replace h := ite_pos' h hp2017
              replace ha := ha.bool 38 KR (ieq_t hp2017)
              obtain ⟨t2018, ht2019, h_⟩ := bind_some' h; clear h; have h := h_; clear h_
              refine stepc ha 39 KR KR (cdb_Number.calls 2 t2018 _ (HW.ca0 hG0) ht2019) ?_; clear ha a; rintro e W2020 ⟨rfl, HX2021⟩
              refine ⟨_, rfl, ?_⟩; intro a ha; replace HW := HW.callw HX2021; clear HX2021
              refine stepp ha 40 (.bool (t2018 == 3)) KR KR ?_; clear ha a; intro a ha
              refine stepp ha 41 (.bool (t2018 == 3)) KR KR ?_; clear ha a; intro a ha
              refine stepp ha 0 (.bool (t2018 == 3)) KR KR ?_; clear ha a; intro a ha
              refine endl ?_
              refine thenN (hK2007 _ _ ?_); clear hK2007
              refine wp_ret ?_
              obtain rfl := Option.some.inj h
              exact finv ha _ _ rfl (.tmp (v := .bool (t2018 == 3)) KR .nil) (.bool (t2018 == 3)) rfl ⟨rfl, HW.pick [] [] (by decide) (by decide) rfl KR⟩
            · skip
              replace h := ite_neg' h hp2017
              replace ha := ha.bool 38 KR (ieq_f hp2017)
              refine stepo ha 39 KR ?_; clear ha a; intro a ha
              refine stepo ha 40 KR ?_; clear ha a; intro a ha
              refine stepp ha 41 (.bool false) KR KR ?_; clear ha a; intro a ha
              refine stepp ha 0 (.bool false) KR KR ?_; clear ha a; intro a ha
              refine endl ?_
              refine thenN (hK2007 _ _ ?_); clear hK2007
              refine wp_ret ?_
              obtain rfl := Option.some.inj h
              exact finv ha _ _ rfl (.tmp (v := .bool false) KR .nil) (.bool false) rfl ⟨rfl, HW.pick [] [] (by decide) (by decide) rfl KR⟩
          · skip
            replace h := ite_neg' h hp2012
            replace ha := ha.bool 34 KR (str_eq_f hp2012)
            refine stepo ha 35 KR ?_; clear ha a; intro a ha
            refine stepo ha 36 KR ?_; clear ha a; intro a ha
            refine stepp ha 37 (.bool false) KR KR ?_; clear ha a; intro a ha
            refine stepp ha 38 (.bool false) KR KR ?_; clear ha a; intro a ha
            refine stepo ha 39 KR ?_; clear ha a; intro a ha
            refine stepo ha 40 KR ?_; clear ha a; intro a ha
            refine stepp ha 41 (.bool false) KR KR ?_; clear ha a; intro a ha
            refine stepp ha 0 (.bool false) KR KR ?_; clear ha a; intro a ha
            refine endl ?_
            refine thenN (hK2007 _ _ ?_); clear hK2007
            refine wp_ret ?_
            obtain rfl := Option.some.inj h
            exact finv ha _ _ rfl (.tmp (v := .bool false) KR .nil) (.bool false) rfl ⟨rfl, HW.pick [] [] (by decide) (by decide) rfl KR⟩
        · skip
          replace h := ite_neg' h hp2011
          replace ha := ha.bool 30 KR (ieq_f hp2011)
          refine stepo ha 31 KR ?_; clear ha a; intro a ha
          refine stepo ha 32 KR ?_; clear ha a; intro a ha
          refine stepp ha 33 (.bool false) KR KR ?_; clear ha a; intro a ha
          refine stepp ha 34 (.bool false) KR KR ?_; clear ha a; intro a ha
          refine stepo ha 35 KR ?_; clear ha a; intro a ha
          refine stepo ha 36 KR ?_; clear ha a; intro a ha
          refine stepp ha 37 (.bool false) KR KR ?_; clear ha a; intro a ha
          refine stepp ha 38 (.bool false) KR KR ?_; clear ha a; intro a ha
          refine stepo ha 39 KR ?_; clear ha a; intro a ha
          refine stepo ha 40 KR ?_; clear ha a; intro a ha
          refine stepp ha 41 (.bool false) KR KR ?_; clear ha a; intro a ha
          refine stepp ha 0 (.bool false) KR KR ?_; clear ha a; intro a ha
          refine endl ?_
          refine thenN (hK2007 _ _ ?_); clear hK2007
          refine wp_ret ?_
          obtain rfl := Option.some.inj h
          exact finv ha _ _ rfl (.tmp (v := .bool false) KR .nil) (.bool false) rfl ⟨rfl, HW.pick [] [] (by decide) (by decide) rfl KR⟩
      · skip
        replace h := ite_neg' h hp2010
        replace ha := ha.bool 25 KR (ieq_f hp2010)
        refine stepo ha 26 KR ?_; clear ha a; intro a ha
        refine stepo ha 27 KR ?_; clear ha a; intro a ha
        refine stepo ha 28 KR ?_; clear ha a; intro a ha
        refine stepp ha 29 (.bool false) KR KR ?_; clear ha a; intro a ha
        refine stepp ha 30 (.bool false) KR KR ?_; clear ha a; intro a ha
        refine stepo ha 31 KR ?_; clear ha a; intro a ha
        refine stepo ha 32 KR ?_; clear ha a; intro a ha
        refine stepp ha 33 (.bool false) KR KR ?_; clear ha a; intro a ha
        refine stepp ha 34 (.bool false) KR KR ?_; clear ha a; intro a ha
        refine stepo ha 35 KR ?_; clear ha a; intro a ha
        refine stepo ha 36 KR ?_; clear ha a; intro a ha
        refine stepp ha 37 (.bool false) KR KR ?_; clear ha a; intro a ha
        refine stepp ha 38 (.bool false) KR KR ?_; clear ha a; intro a ha
        refine stepo ha 39 KR ?_; clear ha a; intro a ha
        refine stepo ha 40 KR ?_; clear ha a; intro a ha
        refine stepp ha 41 (.bool false) KR KR ?_; clear ha a; intro a ha
        refine stepp ha 0 (.bool false) KR KR ?_; clear ha a; intro a ha
        refine endl ?_
        refine thenN (hK2007 _ _ ?_); clear hK2007
        refine wp_ret ?_
        obtain rfl := Option.some.inj h
        exact finv ha _ _ rfl (.tmp (v := .bool false) KR .nil) (.bool false) rfl ⟨rfl, HW.pick [] [] (by decide) (by decide) rfl KR⟩
    · skip
      replace h := ite_neg' h hp2009
      replace ha := ha.bool 20 KR (ieq_f hp2009)
      refine stepo ha 21 KR ?_; clear ha a; intro a ha
      refine stepo ha 22 KR ?_; clear ha a; intro a ha
      refine stepo ha 23 KR ?_; clear ha a; intro a ha
      refine stepp ha 24 (.bool false) KR KR ?_; clear ha a; intro a ha
      refine stepp ha 25 (.bool false) KR KR ?_; clear ha a; intro a ha
      refine stepo ha 26 KR ?_; clear ha a; intro a ha
      refine stepo ha 27 KR ?_; clear ha a; intro a ha
      refine stepo ha 28 KR ?_; clear ha a; intro a ha
      refine stepp ha 29 (.bool false) KR KR ?_; clear ha a; intro a ha
      refine stepp ha 30 (.bool false) KR KR ?_; clear ha a; intro a ha
      refine stepo ha 31 KR ?_; clear ha a; intro a ha
      refine stepo ha 32 KR ?_; clear ha a; intro a ha
      refine stepp ha 33 (.bool false) KR KR ?_; clear ha a; intro a ha
      refine stepp ha 34 (.bool false) KR KR ?_; clear ha a; intro a ha
      refine stepo ha 35 KR ?_; clear ha a; intro a ha
      refine stepo ha 36 KR ?_; clear ha a; intro a ha
      refine stepp ha 37 (.bool false) KR KR ?_; clear ha a; intro a ha
      refine stepp ha 38 (.bool false) KR KR ?_; clear ha a; intro a ha
      refine stepo ha 39 KR ?_; clear ha a; intro a ha
      refine stepo ha 40 KR ?_; clear ha a; intro a ha
      refine stepp ha 41 (.bool false) KR KR ?_; clear ha a; intro a ha
      refine stepp ha 0 (.bool false) KR KR ?_; clear ha a; intro a ha
      refine endl ?_
      refine thenN (hK2007 _ _ ?_); clear hK2007
      refine wp_ret ?_
      obtain rfl := Option.some.inj h
      exact finv ha _ _ rfl (.tmp (v := .bool false) KR .nil) (.bool false) rfl ⟨rfl, HW.pick [] [] (by decide) (by decide) rfl KR⟩
  · skip
    replace h := ite_neg' h hp2008
    replace ha := ha.bool 16 KR (ieq_f hp2008)
    refine stepo ha 17 KR ?_; clear ha a; intro a ha
    refine stepo ha 18 KR ?_; clear ha a; intro a ha
    refine stepp ha 19 (.bool false) KR KR ?_; clear ha a; intro a ha
    refine stepp ha 20 (.bool false) KR KR ?_; clear ha a; intro a ha
    refine stepo ha 21 KR ?_; clear ha a; intro a ha
    refine stepo ha 22 KR ?_; clear ha a; intro a ha
    refine stepo ha 23 KR ?_; clear ha a; intro a ha
    refine stepp ha 24 (.bool false) KR KR ?_; clear ha a; intro a ha
    refine stepp ha 25 (.bool false) KR KR ?_; clear ha a; intro a ha
    refine stepo ha 26 KR ?_; clear ha a; intro a ha
    refine stepo ha 27 KR ?_; clear ha a; intro a ha
    refine stepo ha 28 KR ?_; clear ha a; intro a ha
    refine stepp ha 29 (.bool false) KR KR ?_; clear ha a; intro a ha
    refine stepp ha 30 (.bool false) KR KR ?_; clear ha a; intro a ha
    refine stepo ha 31 KR ?_; clear ha a; intro a ha
    refine stepo ha 32 KR ?_; clear ha a; intro a ha
    refine stepp ha 33 (.bool false) KR KR ?_; clear ha a; intro a ha
    refine stepp ha 34 (.bool false) KR KR ?_; clear ha a; intro a ha
    refine stepo ha 35 KR ?_; clear ha a; intro a ha
    refine stepo ha 36 KR ?_; clear ha a; intro a ha
    refine stepp ha 37 (.bool false) KR KR ?_; clear ha a; intro a ha
    refine stepp ha 38 (.bool false) KR KR ?_; clear ha a; intro a ha
    refine stepo ha 39 KR ?_; clear ha a; intro a ha
    refine stepo ha 40 KR ?_; clear ha a; intro a ha
    refine stepp ha 41 (.bool false) KR KR ?_; clear ha a; intro a ha
    refine stepp ha 0 (.bool false) KR KR ?_; clear ha a; intro a ha
    refine endl ?_
    refine thenN (hK2007 _ _ ?_); clear hK2007
    refine wp_ret ?_
    obtain rfl := Option.some.inj h
    exact finv ha _ _ rfl (.tmp (v := .bool false) KR .nil) (.bool false) rfl ⟨rfl, HW.pick [] [] (by decide) (by decide) rfl KR⟩
end Go.Proofs.YtpjcipadjegmlaaDoor.F
