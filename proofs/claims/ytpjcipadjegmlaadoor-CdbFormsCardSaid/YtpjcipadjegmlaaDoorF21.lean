/- headgate/headgateref15.Length, headgate/headgateref01.there, headgate/headgateref01.Big, headgate/headgateref15.num, headgate/headgateref15.Type, headgate/headgateref15.reservation: plain functions, and that the calls come to what they say. No condition. -/
import Derived.Test.YtpjcipadjegmlaaDoorFT
namespace Go.Proofs.YtpjcipadjegmlaaDoor.F
open Go Go.RowKit Go.Proofs.YtpjcipadjegmlaaDoor.X
set_option linter.unusedVariables false
set_option linter.unusedSimpArgs false
/-! ### headgate/headgateref15.Length: function 21 -/
def headgateref15_Length.j1 (K : Nat) (a0 : ByteArray) (x2066 : Bool) : Option Int :=
  if x2066 = true then (some 10) else (if (bt a0 0) = 160 then (some 12) else (if (bt a0 0) = 136 then (some 16) else (if (bt a0 0) = 137 then (some 16) else (if (bt a0 0) = 138 then (some 16) else (if (bt a0 0) = 147 then (some 16) else (some 0))))))
def headgateref15_Length.j0 (K : Nat) (a0 : ByteArray) (x2041 : Bool) : Option Int :=
  if x2041 = true then (some 6) else (if (bt a0 0) = 37 then (headgateref15_Length.j1 K a0 ((bt a0 0) == 37)) else (if (bt a0 0) = 40 then (headgateref15_Length.j1 K a0 ((bt a0 0) == 40)) else (if (bt a0 0) = 42 then (headgateref15_Length.j1 K a0 ((bt a0 0) == 42)) else (if (bt a0 0) = 53 then (headgateref15_Length.j1 K a0 ((bt a0 0) == 53)) else (if (bt a0 0) = 66 then (headgateref15_Length.j1 K a0 ((bt a0 0) == 66)) else (if (bt a0 0) = 94 then (headgateref15_Length.j1 K a0 ((bt a0 0) == 94)) else (headgateref15_Length.j1 K a0 ((bt a0 0) == 95))))))))
def headgateref15_Length.f (K : Nat) (a0 : ByteArray) : Option Int :=
  if a0 = (⟨#[]⟩ : ByteArray) then (some 0) else (asrt (0 < (a0.size : Int)) (if (bt a0 0) = 0 then (headgateref15_Length.j0 K a0 ((bt a0 0) == 0)) else (headgateref15_Length.j0 K a0 ((bt a0 0) == 18))))
set_option maxRecDepth 100000 in
set_option maxHeartbeats 4000000 in
theorem headgateref15_Length.calls (K : Nat) (a0 : ByteArray)  (r : Int) (w : World)  (h : headgateref15_Length.f K a0 = some r) :
    Calls Tryd.prog 21 #[.string a0] w (fun e W' => e = .returned (.int .i64 r) ∧ Wd w W' [] [] ) := by
  refine sxstart (n := 25) (l := [(0, .string a0)]) Tryd.func21 rfl rfl (Nat.le_of_ble_eq_true KR) (subsA_cons rfl (subsA_nil _)) ?_
  intro a ha
  have HW := Wd.refl w
  unfold headgateref15_Length.f at h
  refine wp_seq_k (fun K2022 hK2023 => ?_)
  refine wp_region_lit ?_
  refine stepp ha 2 (.int .i64 0) KR KR ?_; clear ha a; intro a ha
  refine endl ?_
  refine thenN (hK2023 _ _ ?_); clear hK2023
  refine wp_seq_k (fun K2024 hK2025 => ?_)
  refine wp_seq_k (fun K2026 hK2027 => ?_)
  refine wp_region_lit ?_
  refine stepp ha 3 (.string a0) KR KR ?_; clear ha a; intro a ha
  refine stepp ha 4 (.bool (a0.toList == (⟨#[]⟩ : ByteArray).toList)) KR KR ?_; clear ha a; intro a ha
  refine endl ?_
  refine thenN (hK2027 _ _ ?_); clear hK2027
  by_cases hp2028 : a0 = (⟨#[]⟩ : ByteArray)
  · skip
    replace h := ite_pos' h hp2028
    refine condT ha KR KR (t := (a0.toList == (⟨#[]⟩ : ByteArray).toList)) (str_eq_t hp2028) ?_
    refine wp_seq_k (fun K2029 hK2030 => ?_)
    refine wp_region_lit ?_
    refine stepp ha 2 (.int .i64 0) KR KR ?_; clear ha a; intro a ha
    refine endl ?_
    refine thenN (hK2030 _ _ ?_); clear hK2030
    refine wp_ret ?_
    refine thenR ?_
    obtain rfl := Option.some.inj h
    exact finv ha _ _ rfl (.tmp (v := .int .i64 0) KR .nil) (.int .i64 0) rfl ⟨rfl, HW.pick [] [] (by decide) (by decide) rfl KR⟩
  · skip
    replace h := ite_neg' h hp2028
    refine condF ha KR KR (t := (a0.toList == (⟨#[]⟩ : ByteArray).toList)) (str_eq_f hp2028) ?_
    refine wp_skip ?_
    refine thenN (hK2025 _ _ ?_); clear hK2025
    refine wp_seq_k (fun K2031 hK2032 => ?_)
    refine wp_seq_k (fun K2033 hK2034 => ?_)
    refine wp_region_lit ?_
    refine stepp ha 5 (.string a0) KR KR ?_; clear ha a; intro a ha
    obtain ⟨hA2035, h_⟩ := asrt_some h; clear h; have h := h_; clear h_
    refine stepsi ha 6 9 (.tmp 5) (.const (.int .i64 0)) a0 .i64 0 rfl KR KR KR (by decide) (show (0 : Int) < ((a0).size : Int) from hA2035) KR ?_; clear ha a; intro a ha
    refine endl ?_
    refine thenN (hK2034 _ _ ?_); clear hK2034
    refine wp_block ?_
    refine wp_seq_k (fun K2036 hK2037 => ?_)
    refine cutn (fun a W2042 => ∃ (x2041 : Bool), headgateref15_Length.j0 K a0 x2041 = some r ∧ Has 25 [(6, .int .u8 (bt a0 0)), (7, .bool x2041)] a ∧ Wd w W2042 [] []) ?_ ?_
    · skip
      refine wp_seq_k (fun K2038 hK2039 => ?_)
      refine wp_region_lit ?_
      refine stepp ha 8 (.bool ((bt a0 0) == 0)) KR KR ?_; clear ha a; intro a ha
      refine stepp ha 7 (.bool ((bt a0 0) == 0)) KR KR ?_; clear ha a; intro a ha
      refine endl ?_
      refine thenN (hK2039 _ _ ?_); clear hK2039
      by_cases hp2040 : (bt a0 0) = 0
      · skip
        replace h := ite_pos' h hp2040
        refine condT ha KR KR (t := ((bt a0 0) == 0)) (ieq_t hp2040) ?_
        refine wp_skip ?_
        exact thenN ⟨((bt a0 0) == 0), h, ha.sub (subs_cons KR (subs_cons KR (subs_nil _))), HW.pick [] [] (by decide) (by decide) KR KR⟩
      · skip
        replace h := ite_neg' h hp2040
        refine condF ha KR KR (t := ((bt a0 0) == 0)) (ieq_f hp2040) ?_
        refine wp_region_lit ?_
        refine stepp ha 9 (.bool ((bt a0 0) == 18)) KR KR ?_; clear ha a; intro a ha
        refine stepp ha 7 (.bool ((bt a0 0) == 18)) KR KR ?_; clear ha a; intro a ha
        refine endl ?_
        exact thenN ⟨((bt a0 0) == 18), h, ha.sub (subs_cons KR (subs_cons KR (subs_nil _))), HW.pick [] [] (by decide) (by decide) KR KR⟩
    · skip
      intro a W2042 hJ
      obtain ⟨x2041, h, ha, HW⟩ := hJ
      replace h : headgateref15_Length.j0 K a0 x2041 = some r := h
      unfold headgateref15_Length.j0 at h
      refine hK2037 _ _ ?_; clear hK2037
      by_cases hp2043 : x2041 = true
      · skip
        replace h := ite_pos' h hp2043
        refine condT ha KR KR (t := x2041) (hp2043) ?_
        refine wp_seq_k (fun K2044 hK2045 => ?_)
        refine wp_region_lit ?_
        refine stepp ha 2 (.int .i64 6) KR KR ?_; clear ha a; intro a ha
        refine endl ?_
        refine thenN (hK2045 _ _ ?_); clear hK2045
        refine wp_ret ?_
        refine blkR ?_
        refine thenR ?_
        obtain rfl := Option.some.inj h
        exact finv ha _ _ rfl (.tmp (v := .int .i64 6) KR .nil) (.int .i64 6) rfl ⟨rfl, HW.pick [] [] (by decide) (by decide) rfl KR⟩
      · skip
        replace h := ite_neg' h hp2043
        refine condF ha KR KR (t := x2041) (bool_f hp2043) ?_
        refine wp_seq_k (fun K2046 hK2047 => ?_)
        refine cutn (fun a W2067 => ∃ (x2066 : Bool), headgateref15_Length.j1 K a0 x2066 = some r ∧ Has 25 [(6, .int .u8 (bt a0 0)), (10, .bool x2066)] a ∧ Wd w W2067 [] []) ?_ ?_
        · skip
          refine wp_seq_k (fun K2048 hK2049 => ?_)
          refine wp_region_lit ?_
          refine stepp ha 11 (.bool ((bt a0 0) == 37)) KR KR ?_; clear ha a; intro a ha
          refine stepp ha 10 (.bool ((bt a0 0) == 37)) KR KR ?_; clear ha a; intro a ha
          refine endl ?_
          refine thenN (hK2049 _ _ ?_); clear hK2049
          by_cases hp2050 : (bt a0 0) = 37
          · skip
            replace h := ite_pos' h hp2050
            refine condT ha KR KR (t := ((bt a0 0) == 37)) (ieq_t hp2050) ?_
            refine wp_skip ?_
            exact thenN ⟨((bt a0 0) == 37), h, ha.sub (subs_cons KR (subs_cons KR (subs_nil _))), HW.pick [] [] (by decide) (by decide) KR KR⟩
          · skip
            replace h := ite_neg' h hp2050
            refine condF ha KR KR (t := ((bt a0 0) == 37)) (ieq_f hp2050) ?_
            refine wp_seq_k (fun K2051 hK2052 => ?_)
            refine wp_region_lit ?_
            refine stepp ha 12 (.bool ((bt a0 0) == 40)) KR KR ?_; clear ha a; intro a ha
            refine stepp ha 10 (.bool ((bt a0 0) == 40)) KR KR ?_; clear ha a; intro a ha
            refine endl ?_
            refine thenN (hK2052 _ _ ?_); clear hK2052
            by_cases hp2053 : (bt a0 0) = 40
            · skip
              replace h := ite_pos' h hp2053
              refine condT ha KR KR (t := ((bt a0 0) == 40)) (ieq_t hp2053) ?_
              refine wp_skip ?_
              exact thenN ⟨((bt a0 0) == 40), h, ha.sub (subs_cons KR (subs_cons KR (subs_nil _))), HW.pick [] [] (by decide) (by decide) KR KR⟩
            · skip
              replace h := ite_neg' h hp2053
              refine condF ha KR KR (t := ((bt a0 0) == 40)) (ieq_f hp2053) ?_
              refine wp_seq_k (fun K2054 hK2055 => ?_)
              refine wp_region_lit ?_
              refine stepp ha 13 (.bool ((bt a0 0) == 42)) KR KR ?_; clear ha a; intro a ha
              refine stepp ha 10 (.bool ((bt a0 0) == 42)) KR KR ?_; clear ha a; intro a ha
              refine endl ?_
              refine thenN (hK2055 _ _ ?_); clear hK2055
              by_cases hp2056 : (bt a0 0) = 42
              · skip
                replace h := ite_pos' h hp2056
                refine condT ha KR KR (t := ((bt a0 0) == 42)) (ieq_t hp2056) ?_
                refine wp_skip ?_
                exact thenN ⟨((bt a0 0) == 42), h, ha.sub (subs_cons KR (subs_cons KR (subs_nil _))), HW.pick [] [] (by decide) (by decide) KR KR⟩
              · skip
                replace h := ite_neg' h hp2056
                refine condF ha KR KR (t := ((bt a0 0) == 42)) (ieq_f hp2056) ?_
                refine wp_seq_k (fun K2057 hK2058 => ?_)
                refine wp_region_lit ?_
                refine stepp ha 14 (.bool ((bt a0 0) == 53)) KR KR ?_; clear ha a; intro a ha
                refine stepp ha 10 (.bool ((bt a0 0) == 53)) KR KR ?_; clear ha a; intro a ha
                refine endl ?_
                refine thenN (hK2058 _ _ ?_); clear hK2058
                by_cases hp2059 : (bt a0 0) = 53
                · skip
                  replace h := ite_pos' h hp2059
                  refine condT ha KR KR (t := ((bt a0 0) == 53)) (ieq_t hp2059) ?_
                  refine wp_skip ?_
                  exact thenN ⟨((bt a0 0) == 53), h, ha.sub (subs_cons KR (subs_cons KR (subs_nil _))), HW.pick [] [] (by decide) (by decide) KR KR⟩
                · skip
                  replace h := ite_neg' h hp2059
                  refine condF ha KR KR (t := ((bt a0 0) == 53)) (ieq_f hp2059) ?_
                  refine wp_seq_k (fun K2060 hK2061 => ?_)
                  refine wp_region_lit ?_
                  refine stepp ha 15 (.bool ((bt a0 0) == 66)) KR KR ?_; clear ha a; intro a ha
                  refine stepp ha 10 (.bool ((bt a0 0) == 66)) KR KR ?_; clear ha a; intro a ha
                  refine endl ?_
                  refine thenN (hK2061 _ _ ?_); clear hK2061
                  by_cases hp2062 : (bt a0 0) = 66
                  · skip
                    replace h := ite_pos' h hp2062
                    refine condT ha KR KR (t := ((bt a0 0) == 66)) (ieq_t hp2062) ?_
                    refine wp_skip ?_
                    exact thenN ⟨((bt a0 0) == 66), h, ha.sub (subs_cons KR (subs_cons KR (subs_nil _))), HW.pick [] [] (by decide) (by decide) KR KR⟩
                  · skip
                    replace h := ite_neg' h hp2062
                    refine condF ha KR KR (t := ((bt a0 0) == 66)) (ieq_f hp2062) ?_
                    refine wp_seq_k (fun K2063 hK2064 => ?_)
                    refine wp_region_lit ?_
                    refine stepp ha 16 (.bool ((bt a0 0) == 94)) KR KR ?_; clear ha a; intro a ha
                    refine stepp ha 10 (.bool ((bt a0 0) == 94)) KR KR ?_; clear ha a; intro a ha
                    refine endl ?_
                    refine thenN (hK2064 _ _ ?_); clear hK2064
                    by_cases hp2065 : (bt a0 0) = 94
                    · skip
                      replace h := ite_pos' h hp2065
                      refine condT ha KR KR (t := ((bt a0 0) == 94)) (ieq_t hp2065) ?_
                      refine wp_skip ?_
                      exact thenN ⟨((bt a0 0) == 94), h, ha.sub (subs_cons KR (subs_cons KR (subs_nil _))), HW.pick [] [] (by decide) (by decide) KR KR⟩
                    · skip
                      replace h := ite_neg' h hp2065
                      refine condF ha KR KR (t := ((bt a0 0) == 94)) (ieq_f hp2065) ?_
                      refine wp_region_lit ?_
                      refine stepp ha 17 (.bool ((bt a0 0) == 95)) KR KR ?_; clear ha a; intro a ha
                      refine stepp ha 10 (.bool ((bt a0 0) == 95)) KR KR ?_; clear ha a; intro a ha
                      refine endl ?_
                      exact thenN ⟨((bt a0 0) == 95), h, ha.sub (subs_cons KR (subs_cons KR (subs_nil _))), HW.pick [] [] (by decide) (by decide) KR KR⟩
        · skip
          intro a W2067 hJ
          obtain ⟨x2066, h, ha, HW⟩ := hJ
          replace h : headgateref15_Length.j1 K a0 x2066 = some r := h
          unfold headgateref15_Length.j1 at h
          refine hK2047 _ _ ?_; clear hK2047
          by_cases hp2068 : x2066 = true
          · skip
            replace h := ite_pos' h hp2068
            refine condT ha KR KR (t := x2066) (hp2068) ?_
            refine wp_seq_k (fun K2069 hK2070 => ?_)
            refine wp_region_lit ?_
            refine stepp ha 2 (.int .i64 10) KR KR ?_; clear ha a; intro a ha
            refine endl ?_
            refine thenN (hK2070 _ _ ?_); clear hK2070
            refine wp_ret ?_
            refine blkR ?_
            refine thenR ?_
            obtain rfl := Option.some.inj h
            exact finv ha _ _ rfl (.tmp (v := .int .i64 10) KR .nil) (.int .i64 10) rfl ⟨rfl, HW.pick [] [] (by decide) (by decide) rfl KR⟩
          · skip
            replace h := ite_neg' h hp2068
            refine condF ha KR KR (t := x2066) (bool_f hp2068) ?_
            refine wp_seq_k (fun K2071 hK2072 => ?_)
            refine wp_region_lit ?_
            refine stepp ha 19 (.bool ((bt a0 0) == 160)) KR KR ?_; clear ha a; intro a ha
            refine stepp ha 18 (.bool ((bt a0 0) == 160)) KR KR ?_; clear ha a; intro a ha
            refine endl ?_
            refine thenN (hK2072 _ _ ?_); clear hK2072
            by_cases hp2073 : (bt a0 0) = 160
            · skip
              replace h := ite_pos' h hp2073
              refine condT ha KR KR (t := ((bt a0 0) == 160)) (ieq_t hp2073) ?_
              refine wp_seq_k (fun K2074 hK2075 => ?_)
              refine wp_region_lit ?_
              refine stepp ha 2 (.int .i64 12) KR KR ?_; clear ha a; intro a ha
              refine endl ?_
              refine thenN (hK2075 _ _ ?_); clear hK2075
              refine wp_ret ?_
              refine blkR ?_
              refine thenR ?_
              obtain rfl := Option.some.inj h
              exact finv ha _ _ rfl (.tmp (v := .int .i64 12) KR .nil) (.int .i64 12) rfl ⟨rfl, HW.pick [] [] (by decide) (by decide) rfl KR⟩
            · skip
              replace h := ite_neg' h hp2073
              refine condF ha KR KR (t := ((bt a0 0) == 160)) (ieq_f hp2073) ?_
              refine wp_seq_k (fun K2076 hK2077 => ?_)
              refine wp_seq_k (fun K2078 hK2079 => ?_)
              refine wp_region_lit ?_
              refine stepp ha 21 (.bool ((bt a0 0) == 136)) KR KR ?_; clear ha a; intro a ha
              refine stepp ha 20 (.bool ((bt a0 0) == 136)) KR KR ?_; clear ha a; intro a ha
              refine endl ?_
              refine thenN (hK2079 _ _ ?_); clear hK2079
              by_cases hp2080 : (bt a0 0) = 136
              · skip
                replace h := ite_pos' h hp2080
                refine condT ha KR KR (t := ((bt a0 0) == 136)) (ieq_t hp2080) ?_
                refine wp_skip ?_
                refine thenN (hK2077 _ _ ?_); clear hK2077
                refine condT ha KR KR (t := ((bt a0 0) == 136)) (ieq_t hp2080) ?_
                refine wp_seq_k (fun K2087 hK2088 => ?_)
                refine wp_region_lit ?_
                refine stepp ha 2 (.int .i64 16) KR KR ?_; clear ha a; intro a ha
                refine endl ?_
                refine thenN (hK2088 _ _ ?_); clear hK2088
                refine wp_ret ?_
                refine blkR ?_
                refine thenR ?_
                obtain rfl := Option.some.inj h
                exact finv ha _ _ rfl (.tmp (v := .int .i64 16) KR .nil) (.int .i64 16) rfl ⟨rfl, HW.pick [] [] (by decide) (by decide) rfl KR⟩
              · skip
                replace h := ite_neg' h hp2080
                refine condF ha KR KR (t := ((bt a0 0) == 136)) (ieq_f hp2080) ?_
                refine wp_seq_k (fun K2081 hK2082 => ?_)
                refine wp_region_lit ?_
                refine stepp ha 22 (.bool ((bt a0 0) == 137)) KR KR ?_; clear ha a; intro a ha
                refine stepp ha 20 (.bool ((bt a0 0) == 137)) KR KR ?_; clear ha a; intro a ha
                refine endl ?_
                refine thenN (hK2082 _ _ ?_); clear hK2082
                by_cases hp2083 : (bt a0 0) = 137
                · skip
                  replace h := ite_pos' h hp2083
                  refine condT ha KR KR (t := ((bt a0 0) == 137)) (ieq_t hp2083) ?_
                  refine wp_skip ?_
                  refine thenN (hK2077 _ _ ?_); clear hK2077
                  refine condT ha KR KR (t := ((bt a0 0) == 137)) (ieq_t hp2083) ?_
                  refine wp_seq_k (fun K2089 hK2090 => ?_)
                  refine wp_region_lit ?_
                  refine stepp ha 2 (.int .i64 16) KR KR ?_; clear ha a; intro a ha
                  refine endl ?_
                  refine thenN (hK2090 _ _ ?_); clear hK2090
                  refine wp_ret ?_
                  refine blkR ?_
                  refine thenR ?_
                  obtain rfl := Option.some.inj h
                  exact finv ha _ _ rfl (.tmp (v := .int .i64 16) KR .nil) (.int .i64 16) rfl ⟨rfl, HW.pick [] [] (by decide) (by decide) rfl KR⟩
                · skip
                  replace h := ite_neg' h hp2083
                  refine condF ha KR KR (t := ((bt a0 0) == 137)) (ieq_f hp2083) ?_
                  refine wp_seq_k (fun K2084 hK2085 => ?_)
                  refine wp_region_lit ?_
                  refine stepp ha 23 (.bool ((bt a0 0) == 138)) KR KR ?_; clear ha a; intro a ha
                  refine stepp ha 20 (.bool ((bt a0 0) == 138)) KR KR ?_; clear ha a; intro a ha
                  refine endl ?_
                  refine thenN (hK2085 _ _ ?_); clear hK2085
                  by_cases hp2086 : (bt a0 0) = 138
                  · skip
                    replace h := ite_pos' h hp2086
                    refine condT ha KR KR (t := ((bt a0 0) == 138)) (ieq_t hp2086) ?_
                    refine wp_skip ?_
                    refine thenN (hK2077 _ _ ?_); clear hK2077
                    refine condT ha KR KR (t := ((bt a0 0) == 138)) (ieq_t hp2086) ?_
                    refine wp_seq_k (fun K2091 hK2092 => ?_)
                    refine wp_region_lit ?_
                    refine stepp ha 2 (.int .i64 16) KR KR ?_; clear ha a; intro a ha
                    refine endl ?_
                    refine thenN (hK2092 _ _ ?_); clear hK2092
                    refine wp_ret ?_
                    refine blkR ?_
                    refine thenR ?_
                    obtain rfl := Option.some.inj h
                    exact finv ha _ _ rfl (.tmp (v := .int .i64 16) KR .nil) (.int .i64 16) rfl ⟨rfl, HW.pick [] [] (by decide) (by decide) rfl KR⟩
                  · skip
                    replace h := ite_neg' h hp2086
                    refine condF ha KR KR (t := ((bt a0 0) == 138)) (ieq_f hp2086) ?_
                    refine wp_region_lit ?_
                    refine stepp ha 24 (.bool ((bt a0 0) == 147)) KR KR ?_; clear ha a; intro a ha
                    refine stepp ha 20 (.bool ((bt a0 0) == 147)) KR KR ?_; clear ha a; intro a ha
                    refine endl ?_
                    refine thenN (hK2077 _ _ ?_); clear hK2077
                    by_cases hp2093 : (bt a0 0) = 147
                    · skip
                      replace h := ite_pos' h hp2093
                      refine condT ha KR KR (t := ((bt a0 0) == 147)) (ieq_t hp2093) ?_
                      refine wp_seq_k (fun K2094 hK2095 => ?_)
                      refine wp_region_lit ?_
                      refine stepp ha 2 (.int .i64 16) KR KR ?_; clear ha a; intro a ha
                      refine endl ?_
                      refine thenN (hK2095 _ _ ?_); clear hK2095
                      refine wp_ret ?_
                      refine blkR ?_
                      refine thenR ?_
                      obtain rfl := Option.some.inj h
                      exact finv ha _ _ rfl (.tmp (v := .int .i64 16) KR .nil) (.int .i64 16) rfl ⟨rfl, HW.pick [] [] (by decide) (by decide) rfl KR⟩
                    · skip
                      replace h := ite_neg' h hp2093
                      refine condF ha KR KR (t := ((bt a0 0) == 147)) (ieq_f hp2093) ?_
                      refine wp_skip ?_
                      refine blkN ?_
                      refine thenN (hK2032 _ _ ?_); clear hK2032
                      refine wp_seq_k (fun K2096 hK2097 => ?_)
                      refine wp_region_lit ?_
                      refine stepp ha 2 (.int .i64 0) KR KR ?_; clear ha a; intro a ha
                      refine endl ?_
                      refine thenN (hK2097 _ _ ?_); clear hK2097
                      refine wp_ret ?_
                      obtain rfl := Option.some.inj h
                      exact finv ha _ _ rfl (.tmp (v := .int .i64 0) KR .nil) (.int .i64 0) rfl ⟨rfl, HW.pick [] [] (by decide) (by decide) rfl KR⟩
/-! ### headgate/headgateref01.there: function 49 -/
def headgateref01_there.f (a0 : ByteArray) (a1 : Int) (a2 : Int) : Option Bool :=
  if a1 ≥ 0 then (if a2 ≥ 0 then (if a1 ≤ (a0.size : Int) then (some (decide (a2 ≤ (IntKind.wrap .i64 ((a0.size : Int) - a1))))) else (some false)) else (some false)) else (some false)
set_option maxRecDepth 100000 in
set_option maxHeartbeats 4000000 in
theorem headgateref01_there.calls (a0 : ByteArray) (a1 : Int) (a2 : Int)  (r : Bool) (w : World)  (h : headgateref01_there.f a0 a1 a2 = some r) :
    Calls Tryd.prog 49 #[.string a0, .int .i64 a1, .int .i64 a2] w (fun e W' => e = .returned (.bool r) ∧ Wd w W' [] [] ) := by
  refine sxstart (n := 27) (l := [(0, .string a0), (1, .int .i64 a1), (2, .int .i64 a2)]) Tryd.func49 rfl rfl (Nat.le_of_ble_eq_true KR) (subsA_cons rfl (subsA_cons rfl (subsA_cons rfl (subsA_nil _)))) ?_
  intro a ha
  have HW := Wd.refl w
  unfold headgateref01_there.f at h
  refine wp_seq_k (fun K2098 hK2099 => ?_)
  refine wp_region_lit ?_
  refine stepp ha 6 (.bool false) KR KR ?_; clear ha a; intro a ha
  refine endl ?_
  refine thenN (hK2099 _ _ ?_); clear hK2099
  refine wp_seq_k (fun K2100 hK2101 => ?_)
  refine wp_region_lit ?_
  refine stepp ha 7 (.int .i64 a1) KR KR ?_; clear ha a; intro a ha
  refine stepp ha 8 (.bool (decide (a1 ≥ 0))) KR KR ?_; clear ha a; intro a ha
  refine stepp ha 9 (.bool (decide (a1 ≥ 0))) KR KR ?_; clear ha a; intro a ha
  by_cases hp2102 : a1 ≥ 0
  · skip
    replace h := ite_pos' h hp2102
    replace ha := ha.bool 9 KR (decide_eq_true hp2102)
    refine stepp ha 10 (.int .i64 a2) KR KR ?_; clear ha a; intro a ha
    refine stepp ha 11 (.bool (decide (a2 ≥ 0))) KR KR ?_; clear ha a; intro a ha
    refine stepp ha 12 (.bool (decide (a2 ≥ 0))) KR KR ?_; clear ha a; intro a ha
    refine stepp ha 13 (.bool (decide (a2 ≥ 0))) KR KR ?_; clear ha a; intro a ha
    by_cases hp2103 : a2 ≥ 0
    · skip
      replace h := ite_pos' h hp2103
      replace ha := ha.bool 13 KR (decide_eq_true hp2103)
      refine stepp ha 14 (.int .i64 a1) KR KR ?_; clear ha a; intro a ha
      refine stepp ha 15 (.string a0) KR KR ?_; clear ha a; intro a ha
      refine stepp ha 16 (.int .i64 (a0.size : Int)) KR KR ?_; clear ha a; intro a ha
      refine stepp ha 17 (.bool (decide (a1 ≤ (a0.size : Int)))) KR KR ?_; clear ha a; intro a ha
      refine stepp ha 18 (.bool (decide (a1 ≤ (a0.size : Int)))) KR KR ?_; clear ha a; intro a ha
      refine stepp ha 19 (.bool (decide (a1 ≤ (a0.size : Int)))) KR KR ?_; clear ha a; intro a ha
      by_cases hp2104 : a1 ≤ (a0.size : Int)
      · skip
        replace h := ite_pos' h hp2104
        replace ha := ha.bool 19 KR (decide_eq_true hp2104)
        refine stepp ha 20 (.int .i64 a2) KR KR ?_; clear ha a; intro a ha
        refine stepp ha 21 (.string a0) KR KR ?_; clear ha a; intro a ha
        refine stepp ha 22 (.int .i64 (a0.size : Int)) KR KR ?_; clear ha a; intro a ha
        refine stepp ha 23 (.int .i64 a1) KR KR ?_; clear ha a; intro a ha
        refine stepp ha 24 (.int .i64 (IntKind.wrap .i64 ((a0.size : Int) - a1))) KR KR ?_; clear ha a; intro a ha
        refine stepp ha 25 (.bool (decide (a2 ≤ (IntKind.wrap .i64 ((a0.size : Int) - a1))))) KR KR ?_; clear ha a; intro a ha
        refine stepp ha 26 (.bool (decide (a2 ≤ (IntKind.wrap .i64 ((a0.size : Int) - a1))))) KR KR ?_; clear ha a; intro a ha
        refine stepp ha 6 (.bool (decide (a2 ≤ (IntKind.wrap .i64 ((a0.size : Int) - a1))))) KR KR ?_; clear ha a; intro a ha
        refine endl ?_
        refine thenN (hK2101 _ _ ?_); clear hK2101
        refine wp_ret ?_
        obtain rfl := Option.some.inj h
        exact finv ha _ _ rfl (.tmp (v := .bool (decide (a2 ≤ (IntKind.wrap .i64 ((a0.size : Int) - a1))))) KR .nil) (.bool (decide (a2 ≤ (IntKind.wrap .i64 ((a0.size : Int) - a1))))) rfl ⟨rfl, HW.pick [] [] (by decide) (by decide) rfl KR⟩
      · skip
        replace h := ite_neg' h hp2104
        replace ha := ha.bool 19 KR (decide_eq_false hp2104)
        refine stepo ha 20 KR ?_; clear ha a; intro a ha
        refine stepo ha 21 KR ?_; clear ha a; intro a ha
        refine stepo ha 22 KR ?_; clear ha a; intro a ha
        refine stepo ha 23 KR ?_; clear ha a; intro a ha
        refine stepo ha 24 KR ?_; clear ha a; intro a ha
        refine stepo ha 25 KR ?_; clear ha a; intro a ha
        refine stepp ha 26 (.bool false) KR KR ?_; clear ha a; intro a ha
        refine stepp ha 6 (.bool false) KR KR ?_; clear ha a; intro a ha
        refine endl ?_
        refine thenN (hK2101 _ _ ?_); clear hK2101
        refine wp_ret ?_
        obtain rfl := Option.some.inj h
        exact finv ha _ _ rfl (.tmp (v := .bool false) KR .nil) (.bool false) rfl ⟨rfl, HW.pick [] [] (by decide) (by decide) rfl KR⟩
    · skip
      replace h := ite_neg' h hp2103
      replace ha := ha.bool 13 KR (decide_eq_false hp2103)
      refine stepo ha 14 KR ?_; clear ha a; intro a ha
      refine stepo ha 15 KR ?_; clear ha a; intro a ha
      refine stepo ha 16 KR ?_; clear ha a; intro a ha
      refine stepo ha 17 KR ?_; clear ha a; intro a ha
      refine stepp ha 18 (.bool false) KR KR ?_; clear ha a; intro a ha
      refine stepp ha 19 (.bool false) KR KR ?_; clear ha a; intro a ha
      refine stepo ha 20 KR ?_; clear ha a; intro a ha
      refine stepo ha 21 KR ?_; clear ha a; intro a ha
      refine stepo ha 22 KR ?_; clear ha a; intro a ha
      refine stepo ha 23 KR ?_; clear ha a; intro a ha
      refine stepo ha 24 KR ?_; clear ha a; intro a ha
      refine stepo ha 25 KR ?_; clear ha a; intro a ha
      refine stepp ha 26 (.bool false) KR KR ?_; clear ha a; intro a ha
      refine stepp ha 6 (.bool false) KR KR ?_; clear ha a; intro a ha
      refine endl ?_
      refine thenN (hK2101 _ _ ?_); clear hK2101
      refine wp_ret ?_
      obtain rfl := Option.some.inj h
      exact finv ha _ _ rfl (.tmp (v := .bool false) KR .nil) (.bool false) rfl ⟨rfl, HW.pick [] [] (by decide) (by decide) rfl KR⟩
  · skip
    replace h := ite_neg' h hp2102
    replace ha := ha.bool 9 KR (decide_eq_false hp2102)
    refine stepo ha 10 KR ?_; clear ha a; intro a ha
    refine stepo ha 11 KR ?_; clear ha a; intro a ha
    refine stepp ha 12 (.bool false) KR KR ?_; clear ha a; intro a ha
    refine stepp ha 13 (.bool false) KR KR ?_; clear ha a; intro a ha
    refine stepo ha 14 KR ?_; clear ha a; intro a ha
    refine stepo ha 15 KR ?_; clear ha a; intro a ha
    refine stepo ha 16 KR ?_; clear ha a; intro a ha
    refine stepo ha 17 KR ?_; clear ha a; intro a ha
    refine stepp ha 18 (.bool false) KR KR ?_; clear ha a; intro a ha
    refine stepp ha 19 (.bool false) KR KR ?_; clear ha a; intro a ha
    refine stepo ha 20 KR ?_; clear ha a; intro a ha
    refine stepo ha 21 KR ?_; clear ha a; intro a ha
    refine stepo ha 22 KR ?_; clear ha a; intro a ha
    refine stepo ha 23 KR ?_; clear ha a; intro a ha
    refine stepo ha 24 KR ?_; clear ha a; intro a ha
    refine stepo ha 25 KR ?_; clear ha a; intro a ha
    refine stepp ha 26 (.bool false) KR KR ?_; clear ha a; intro a ha
    refine stepp ha 6 (.bool false) KR KR ?_; clear ha a; intro a ha
    refine endl ?_
    refine thenN (hK2101 _ _ ?_); clear hK2101
    refine wp_ret ?_
    obtain rfl := Option.some.inj h
    exact finv ha _ _ rfl (.tmp (v := .bool false) KR .nil) (.bool false) rfl ⟨rfl, HW.pick [] [] (by decide) (by decide) rfl KR⟩
/-! ### headgate/headgateref01.Big: function 45 -/
def headgateref01_Big.b0 (K : Nat) (a0 : ByteArray) (a1 : Int) (a2 : Int) (again2152 : Int → Int → Option (Int × Bool)) (x2153 : Int) (x2154 : Int) : Option (Int × Bool) :=
  if x2154 < a2 then (asrt (0 ≤ (IntKind.wrap .i64 (a1 + x2154))) (asrt ((IntKind.wrap .i64 (a1 + x2154)) < (a0.size : Int)) (again2152 (IntKind.wrap .u64 ((IntKind.wrap .u64 (x2153 * 256)) + (IntKind.wrap .u64 (bt a0 (IntKind.wrap .i64 (a1 + x2154)))))) (IntKind.wrap .i64 (x2154 + 1))))) else (some (x2153, true))
def headgateref01_Big.l0 (K : Nat) (a0 : ByteArray) (a1 : Int) (a2 : Int) : Nat → Int → Int → Option (Int × Bool)
  | 0, _, _ => none
  | k_ + 1, x2153, x2154 => headgateref01_Big.b0 K a0 a1 a2 (headgateref01_Big.l0 K a0 a1 a2 k_) x2153 x2154
def headgateref01_Big.f (K : Nat) (a0 : ByteArray) (a1 : Int) (a2 : Int) : Option (Int × Bool) :=
  if a2 < 1 then (some (0, false)) else (if a2 > 8 then (some (0, false)) else ((headgateref01_there.f a0 a1 a2).bind fun t2113 => (if t2113 = true then (headgateref01_Big.l0 K a0 a1 a2 K 0 0) else (some (0, false)))))
set_option maxRecDepth 100000 in
set_option maxHeartbeats 4000000 in
theorem headgateref01_Big.calls (K : Nat) (a0 : ByteArray) (a1 : Int) (a2 : Int)  (r : Int × Bool) (w : World)  (h : headgateref01_Big.f K a0 a1 a2 = some r) :
    Calls Tryd.prog 45 #[.string a0, .int .i64 a1, .int .i64 a2] w (fun e W' => e = .returned (.tuple #[.int .u64 r.1, .bool r.2]) ∧ Wd w W' [] [] ) := by
  refine sxstart (n := 38) (l := [(0, .string a0), (1, .int .i64 a1), (2, .int .i64 a2)]) Tryd.func45 rfl rfl (Nat.le_of_ble_eq_true KR) (subsA_cons rfl (subsA_cons rfl (subsA_cons rfl (subsA_nil _)))) ?_
  intro a ha
  have HW := Wd.refl w
  unfold headgateref01_Big.f at h
  refine wp_seq_k (fun K2105 hK2106 => ?_)
  refine wp_region_lit ?_
  refine stepp ha 6 (.int .u64 0) KR KR ?_; clear ha a; intro a ha
  refine stepp ha 7 (.bool false) KR KR ?_; clear ha a; intro a ha
  refine endl ?_
  refine thenN (hK2106 _ _ ?_); clear hK2106
  refine wp_seq_k (fun K2107 hK2108 => ?_)
  refine wp_seq_k (fun K2109 hK2110 => ?_)
  refine wp_region_lit ?_
  refine stepp ha 10 (.int .i64 a2) KR KR ?_; clear ha a; intro a ha
  refine stepp ha 11 (.bool (decide (a2 < 1))) KR KR ?_; clear ha a; intro a ha
  refine stepp ha 12 (.bool (decide (a2 < 1))) KR KR ?_; clear ha a; intro a ha
  by_cases hp2111 : a2 < 1
  · skip
    replace h := ite_pos' h hp2111
    replace ha := ha.bool 12 KR (decide_eq_true hp2111)
    refine stepo ha 13 KR ?_; clear ha a; intro a ha
    refine stepo ha 14 KR ?_; clear ha a; intro a ha
    refine stepp ha 15 (.bool true) KR KR ?_; clear ha a; intro a ha
    refine stepp ha 16 (.bool true) KR KR ?_; clear ha a; intro a ha
    refine stepo ha 17 KR ?_; clear ha a; intro a ha
    refine stepo ha 18 KR ?_; clear ha a; intro a ha
    refine stepo ha 19 KR ?_; clear ha a; intro a ha
    refine stepo ha 20 KR ?_; clear ha a; intro a ha
    refine stepo ha 21 KR ?_; clear ha a; intro a ha
    refine stepp ha 22 (.bool true) KR KR ?_; clear ha a; intro a ha
    refine endl ?_
    refine thenN (hK2110 _ _ ?_); clear hK2110
    refine condT ha KR KR (t := true) (rfl) ?_
    refine wp_seq_k (fun K2117 hK2118 => ?_)
    refine wp_region_lit ?_
    refine stepp ha 6 (.int .u64 0) KR KR ?_; clear ha a; intro a ha
    refine stepp ha 7 (.bool false) KR KR ?_; clear ha a; intro a ha
    refine endl ?_
    refine thenN (hK2118 _ _ ?_); clear hK2118
    refine wp_ret ?_
    refine thenR ?_
    obtain rfl := Option.some.inj h
    exact finv ha _ _ rfl (.tmp (v := .int .u64 0) KR (.tmp (v := .bool false) KR .nil)) (.tuple #[.int .u64 0, .bool false]) rfl ⟨rfl, HW.pick [] [] (by decide) (by decide) rfl KR⟩
  · skip
    replace h := ite_neg' h hp2111
    replace ha := ha.bool 12 KR (decide_eq_false hp2111)
    refine stepp ha 13 (.int .i64 a2) KR KR ?_; clear ha a; intro a ha
    refine stepp ha 14 (.bool (decide (a2 > 8))) KR KR ?_; clear ha a; intro a ha
    refine stepp ha 15 (.bool (decide (a2 > 8))) KR KR ?_; clear ha a; intro a ha
    refine stepp ha 16 (.bool (decide (a2 > 8))) KR KR ?_; clear ha a; intro a ha
    by_cases hp2112 : a2 > 8
    · skip
      replace h := ite_pos' h hp2112
      replace ha := ha.bool 16 KR (decide_eq_true hp2112)
      refine stepo ha 17 KR ?_; clear ha a; intro a ha
      refine stepo ha 18 KR ?_; clear ha a; intro a ha
      refine stepo ha 19 KR ?_; clear ha a; intro a ha
      refine stepo ha 20 KR ?_; clear ha a; intro a ha
      refine stepo ha 21 KR ?_; clear ha a; intro a ha
      refine stepp ha 22 (.bool true) KR KR ?_; clear ha a; intro a ha
      refine endl ?_
      refine thenN (hK2110 _ _ ?_); clear hK2110
      refine condT ha KR KR (t := true) (rfl) ?_
      refine wp_seq_k (fun K2119 hK2120 => ?_)
      refine wp_region_lit ?_
      refine stepp ha 6 (.int .u64 0) KR KR ?_; clear ha a; intro a ha
      refine stepp ha 7 (.bool false) KR KR ?_; clear ha a; intro a ha
      refine endl ?_
      refine thenN (hK2120 _ _ ?_); clear hK2120
      refine wp_ret ?_
      refine thenR ?_
      obtain rfl := Option.some.inj h
      exact finv ha _ _ rfl (.tmp (v := .int .u64 0) KR (.tmp (v := .bool false) KR .nil)) (.tuple #[.int .u64 0, .bool false]) rfl ⟨rfl, HW.pick [] [] (by decide) (by decide) rfl KR⟩
    · skip
      replace h := ite_neg' h hp2112
      replace ha := ha.bool 16 KR (decide_eq_false hp2112)
      refine stepp ha 17 (.string a0) KR KR ?_; clear ha a; intro a ha
      refine stepp ha 18 (.int .i64 a1) KR KR ?_; clear ha a; intro a ha
      refine stepp ha 19 (.int .i64 a2) KR KR ?_; clear ha a; intro a ha
      obtain ⟨t2113, ht2114, h_⟩ := bind_some' h; clear h; have h := h_; clear h_
      refine stepc ha 20 KR KR (headgateref01_there.calls a0 a1 a2 t2113 _ ht2114) ?_; clear ha a; rintro e W2115 ⟨rfl, HX2116⟩
      refine ⟨_, rfl, ?_⟩; intro a ha; replace HW := HW.callw HX2116; clear HX2116
      refine stepp ha 21 (.bool (!t2113)) KR KR ?_; clear ha a; intro a ha
      refine stepp ha 22 (.bool (!t2113)) KR KR ?_; clear ha a; intro a ha
      refine endl ?_
      refine thenN (hK2110 _ _ ?_); clear hK2110
      by_cases hp2121 : t2113 = true
      · skip
        replace h := ite_pos' h hp2121
        refine condF ha KR KR (t := (!t2113)) (not_f (hp2121)) ?_
        refine wp_skip ?_
        refine thenN (hK2108 _ _ ?_); clear hK2108
        refine wp_seq_k (fun K2124 hK2125 => ?_)
        refine wp_region_lit ?_
        refine stepp ha 8 (.int .u64 0) KR KR ?_; clear ha a; intro a ha
        refine endl ?_
        refine thenN (hK2125 _ _ ?_); clear hK2125
        refine wp_seq_k (fun K2126 hK2127 => ?_)
        refine wp_seq_k (fun K2128 hK2129 => ?_)
        refine wp_region_lit ?_
        refine stepp ha 9 (.int .i64 0) KR KR ?_; clear ha a; intro a ha
        refine endl ?_
        refine thenN (hK2129 _ _ ?_); clear hK2129
        refine wp_block ?_
        refine loopk (fun k => fun a W2155 => ∃ (x2153 : Int), ∃ (x2154 : Int), headgateref01_Big.l0 K a0 a1 a2 k x2153 x2154 = some r ∧ Has 38 [(0, .string a0), (1, .int .i64 a1), (2, .int .i64 a2), (8, .int .u64 x2153), (9, .int .i64 x2154)] a ∧ Wd w W2155 [] []) K ?_ ?_
        · skip
          exact ⟨0, 0, h, ha.sub (subs_cons KR (subs_cons KR (subs_cons KR (subs_cons KR (subs_cons KR (subs_nil _)))))), HW.pick [] [] (by decide) (by decide) KR KR⟩
        · skip
          intro k a W2155 hI
          obtain ⟨x2153, x2154, h, ha, HW⟩ := hI
          cases k with
          | zero => exact (none_some (show none = some r from h)).elim
          | succ k2156 =>
            replace h : headgateref01_Big.b0 K a0 a1 a2 (headgateref01_Big.l0 K a0 a1 a2 k2156) x2153 x2154 = some r := h
            obtain ⟨again2152, hag2157⟩ : ∃ g_, g_ = headgateref01_Big.l0 K a0 a1 a2 k2156 := ⟨_, rfl⟩
            rw [← hag2157] at h
            unfold headgateref01_Big.b0 at h
            refine wp_seq_k (fun K2158 hK2159 => ?_)
            refine wp_seq_k (fun K2160 hK2161 => ?_)
            refine wp_region_lit ?_
            refine stepp ha 23 (.int .i64 x2154) KR KR ?_; clear ha a; intro a ha
            refine stepp ha 24 (.int .i64 a2) KR KR ?_; clear ha a; intro a ha
            refine stepp ha 25 (.bool (decide (x2154 < a2))) KR KR ?_; clear ha a; intro a ha
            refine endl ?_
            refine thenN (hK2161 _ _ ?_); clear hK2161
            by_cases hp2162 : x2154 < a2
            · skip
              replace h := ite_pos' h hp2162
              refine condT ha KR KR (t := decide (x2154 < a2)) (decide_eq_true hp2162) ?_
              refine wp_skip ?_
              refine thenN (hK2159 _ _ ?_); clear hK2159
              refine wp_seq_k (fun K2163 hK2164 => ?_)
              refine wp_block ?_
              refine wp_region_lit ?_
              refine stepp ha 28 (.int .u64 x2153) KR KR ?_; clear ha a; intro a ha
              refine stepp ha 29 (.int .u64 (IntKind.wrap .u64 (x2153 * 256))) KR KR ?_; clear ha a; intro a ha
              refine stepp ha 30 (.string a0) KR KR ?_; clear ha a; intro a ha
              refine stepp ha 31 (.int .i64 a1) KR KR ?_; clear ha a; intro a ha
              refine stepp ha 32 (.int .i64 x2154) KR KR ?_; clear ha a; intro a ha
              refine stepp ha 33 (.int .i64 (IntKind.wrap .i64 (a1 + x2154))) KR KR ?_; clear ha a; intro a ha
              obtain ⟨hA2165, h_⟩ := asrt_some h; clear h; have h := h_; clear h_
              obtain ⟨hA2166, h_⟩ := asrt_some h; clear h; have h := h_; clear h_
              refine stepsi ha 34 9 (.tmp 30) (.tmp 33) a0 .i64 (IntKind.wrap .i64 (a1 + x2154)) rfl KR KR KR hA2165 (show (IntKind.wrap .i64 (a1 + x2154) : Int) < ((a0).size : Int) from hA2166) KR ?_; clear ha a; intro a ha
              refine stepp ha 35 (.int .u64 (IntKind.wrap .u64 (bt a0 (IntKind.wrap .i64 (a1 + x2154))))) KR KR ?_; clear ha a; intro a ha
              refine stepp ha 36 (.int .u64 (IntKind.wrap .u64 ((IntKind.wrap .u64 (x2153 * 256)) + (IntKind.wrap .u64 (bt a0 (IntKind.wrap .i64 (a1 + x2154))))))) KR KR ?_; clear ha a; intro a ha
              refine stepp ha 8 (.int .u64 (IntKind.wrap .u64 ((IntKind.wrap .u64 (x2153 * 256)) + (IntKind.wrap .u64 (bt a0 (IntKind.wrap .i64 (a1 + x2154))))))) KR KR ?_; clear ha a; intro a ha
              refine endl ?_
              refine blkN ?_
              refine thenN (hK2164 _ _ ?_); clear hK2164
              refine wp_region_lit ?_
              refine stepp ha 26 (.int .i64 x2154) KR KR ?_; clear ha a; intro a ha
              refine stepp ha 27 (.int .i64 (IntKind.wrap .i64 (x2154 + 1))) KR KR ?_; clear ha a; intro a ha
              refine stepp ha 9 (.int .i64 (IntKind.wrap .i64 (x2154 + 1))) KR KR ?_; clear ha a; intro a ha
              refine endl ?_
              exact thenN ⟨k2156, Nat.lt_succ_self k2156, IntKind.wrap .u64 ((IntKind.wrap .u64 (x2153 * 256)) + (IntKind.wrap .u64 (bt a0 (IntKind.wrap .i64 (a1 + x2154))))), IntKind.wrap .i64 (x2154 + 1), (by rw [← hag2157]; exact h), ha.sub (subs_cons KR (subs_cons KR (subs_cons KR (subs_cons KR (subs_cons KR (subs_nil _)))))), HW.pick [] [] (by decide) (by decide) KR KR⟩
            · skip
              replace h := ite_neg' h hp2162
              refine condF ha KR KR (t := decide (x2154 < a2)) (decide_eq_false hp2162) ?_
              refine wp_exit ?_
              refine thenE ?_
              refine thenE ?_
              refine inBlk ?_
              refine thenN (hK2127 _ _ ?_); clear hK2127
              refine wp_seq_k (fun K2167 hK2168 => ?_)
              refine wp_region_lit ?_
              refine stepp ha 37 (.int .u64 x2153) KR KR ?_; clear ha a; intro a ha
              refine stepp ha 6 (.int .u64 x2153) KR KR ?_; clear ha a; intro a ha
              refine stepp ha 7 (.bool true) KR KR ?_; clear ha a; intro a ha
              refine endl ?_
              refine thenN (hK2168 _ _ ?_); clear hK2168
              refine wp_ret ?_
              obtain rfl := Option.some.inj h
              exact finv ha _ _ rfl (.tmp (v := .int .u64 x2153) KR (.tmp (v := .bool true) KR .nil)) (.tuple #[.int .u64 x2153, .bool true]) rfl ⟨rfl, HW.pick [] [] (by decide) (by decide) rfl KR⟩
      · skip
        replace h := ite_neg' h hp2121
        refine condT ha KR KR (t := (!t2113)) (not_t (bool_f hp2121)) ?_
        refine wp_seq_k (fun K2122 hK2123 => ?_)
        refine wp_region_lit ?_
        refine stepp ha 6 (.int .u64 0) KR KR ?_; clear ha a; intro a ha
        refine stepp ha 7 (.bool false) KR KR ?_; clear ha a; intro a ha
        refine endl ?_
        refine thenN (hK2123 _ _ ?_); clear hK2123
        refine wp_ret ?_
        refine thenR ?_
        obtain rfl := Option.some.inj h
        exact finv ha _ _ rfl (.tmp (v := .int .u64 0) KR (.tmp (v := .bool false) KR .nil)) (.tuple #[.int .u64 0, .bool false]) rfl ⟨rfl, HW.pick [] [] (by decide) (by decide) rfl KR⟩
/-! ### headgate/headgateref15.num: function 37 -/
def headgateref15_num.f (K : Nat) (a0 : ByteArray) (a1 : Int) (a2 : Int) : Option Int :=
  (headgateref01_Big.f K a0 a1 a2).bind fun t2173 => (if t2173.1 > 1099511627776 then (some 1099511627776) else (some (IntKind.wrap .i64 t2173.1)))
set_option maxRecDepth 100000 in
set_option maxHeartbeats 4000000 in
theorem headgateref15_num.calls (K : Nat) (a0 : ByteArray) (a1 : Int) (a2 : Int)  (r : Int) (w : World)  (h : headgateref15_num.f K a0 a1 a2 = some r) :
    Calls Tryd.prog 37 #[.string a0, .int .i64 a1, .int .i64 a2] w (fun e W' => e = .returned (.int .i64 r) ∧ Wd w W' [] [] ) := by
  refine sxstart (n := 20) (l := [(0, .string a0), (1, .int .i64 a1), (2, .int .i64 a2)]) Tryd.func37 rfl rfl (Nat.le_of_ble_eq_true KR) (subsA_cons rfl (subsA_cons rfl (subsA_cons rfl (subsA_nil _)))) ?_
  intro a ha
  have HW := Wd.refl w
  unfold headgateref15_num.f at h
  refine wp_seq_k (fun K2169 hK2170 => ?_)
  refine wp_region_lit ?_
  refine stepp ha 6 (.int .i64 0) KR KR ?_; clear ha a; intro a ha
  refine endl ?_
  refine thenN (hK2170 _ _ ?_); clear hK2170
  refine wp_seq_k (fun K2171 hK2172 => ?_)
  refine wp_region_lit ?_
  refine stepp ha 10 (.string a0) KR KR ?_; clear ha a; intro a ha
  refine stepp ha 11 (.int .i64 a1) KR KR ?_; clear ha a; intro a ha
  refine stepp ha 12 (.int .i64 a2) KR KR ?_; clear ha a; intro a ha
  obtain ⟨t2173, ht2174, h_⟩ := bind_some' h; clear h; have h := h_; clear h_
  refine stepc ha 13 KR KR (headgateref01_Big.calls K a0 a1 a2 t2173 _ ht2174) ?_; clear ha a; rintro e W2175 ⟨rfl, HX2176⟩
  refine ⟨_, rfl, ?_⟩; intro a ha; replace HW := HW.callw HX2176; clear HX2176
  refine stepp ha 9 (.tuple #[.int .u64 t2173.1, .bool t2173.2]) KR KR ?_; clear ha a; intro a ha
  refine stepp ha 14 (.int .u64 t2173.1) KR KR ?_; clear ha a; intro a ha
  refine stepp ha 15 (.bool t2173.2) KR KR ?_; clear ha a; intro a ha
  refine stepp ha 7 (.int .u64 t2173.1) KR KR ?_; clear ha a; intro a ha
  refine stepp ha 8 (.bool t2173.2) KR KR ?_; clear ha a; intro a ha
  refine endl ?_
  refine thenN (hK2172 _ _ ?_); clear hK2172
  refine wp_seq_k (fun K2177 hK2178 => ?_)
  refine wp_seq_k (fun K2179 hK2180 => ?_)
  refine wp_region_lit ?_
  refine stepp ha 16 (.int .u64 t2173.1) KR KR ?_; clear ha a; intro a ha
  refine stepp ha 17 (.bool (decide (t2173.1 > 1099511627776))) KR KR ?_; clear ha a; intro a ha
  refine endl ?_
  refine thenN (hK2180 _ _ ?_); clear hK2180
  by_cases hp2181 : t2173.1 > 1099511627776
  · skip
    replace h := ite_pos' h hp2181
    refine condT ha KR KR (t := decide (t2173.1 > 1099511627776)) (decide_eq_true hp2181) ?_
    refine wp_seq_k (fun K2182 hK2183 => ?_)
    refine wp_region_lit ?_
    refine stepp ha 6 (.int .i64 1099511627776) KR KR ?_; clear ha a; intro a ha
    refine endl ?_
    refine thenN (hK2183 _ _ ?_); clear hK2183
    refine wp_ret ?_
    refine thenR ?_
    obtain rfl := Option.some.inj h
    exact finv ha _ _ rfl (.tmp (v := .int .i64 1099511627776) KR .nil) (.int .i64 1099511627776) rfl ⟨rfl, HW.pick [] [] (by decide) (by decide) rfl KR⟩
  · skip
    replace h := ite_neg' h hp2181
    refine condF ha KR KR (t := decide (t2173.1 > 1099511627776)) (decide_eq_false hp2181) ?_
    refine wp_skip ?_
    refine thenN (hK2178 _ _ ?_); clear hK2178
    refine wp_seq_k (fun K2184 hK2185 => ?_)
    refine wp_region_lit ?_
    refine stepp ha 18 (.int .u64 t2173.1) KR KR ?_; clear ha a; intro a ha
    refine stepp ha 19 (.int .i64 (IntKind.wrap .i64 t2173.1)) KR KR ?_; clear ha a; intro a ha
    refine stepp ha 6 (.int .i64 (IntKind.wrap .i64 t2173.1)) KR KR ?_; clear ha a; intro a ha
    refine endl ?_
    refine thenN (hK2185 _ _ ?_); clear hK2185
    refine wp_ret ?_
    obtain rfl := Option.some.inj h
    exact finv ha _ _ rfl (.tmp (v := .int .i64 (IntKind.wrap .i64 t2173.1)) KR .nil) (.int .i64 (IntKind.wrap .i64 t2173.1)) rfl ⟨rfl, HW.pick [] [] (by decide) (by decide) rfl KR⟩
/-! ### headgate/headgateref15.Type: function 25 -/
def headgateref15_Type.f (a0 : Int) : Option Int :=
  if a0 = 1 then (some 1) else (if a0 = 3 then (some 2) else (if a0 = 5 then (some (IntKind.wrap .i64 (a0 - 2))) else (if a0 = 6 then (some (IntKind.wrap .i64 (a0 - 2))) else (if a0 = 7 then (some (IntKind.wrap .i64 (a0 - 2))) else (if a0 = 8 then (some (IntKind.wrap .i64 (a0 - 2))) else (some 0))))))
set_option maxRecDepth 100000 in
set_option maxHeartbeats 4000000 in
theorem headgateref15_Type.calls (a0 : Int)  (r : Int) (w : World)  (h : headgateref15_Type.f a0 = some r) :
    Calls Tryd.prog 25 #[.int .i64 a0] w (fun e W' => e = .returned (.int .i64 r) ∧ Wd w W' [] [] ) := by
  refine sxstart (n := 15) (l := [(0, .int .i64 a0)]) Tryd.func25 rfl rfl (Nat.le_of_ble_eq_true KR) (subsA_cons rfl (subsA_nil _)) ?_
  intro a ha
  have HW := Wd.refl w
  unfold headgateref15_Type.f at h
  refine wp_seq_k (fun K2186 hK2187 => ?_)
  refine wp_region_lit ?_
  refine stepp ha 2 (.int .i64 0) KR KR ?_; clear ha a; intro a ha
  refine endl ?_
  refine thenN (hK2187 _ _ ?_); clear hK2187
  refine wp_seq_k (fun K2188 hK2189 => ?_)
  refine wp_seq_k (fun K2190 hK2191 => ?_)
  refine wp_region_lit ?_
  refine stepp ha 3 (.int .i64 a0) KR KR ?_; clear ha a; intro a ha
  refine endl ?_
  refine thenN (hK2191 _ _ ?_); clear hK2191
  refine wp_block ?_
  refine wp_seq_k (fun K2192 hK2193 => ?_)
  refine wp_region_lit ?_
  refine stepp ha 5 (.bool (a0 == 1)) KR KR ?_; clear ha a; intro a ha
  refine stepp ha 4 (.bool (a0 == 1)) KR KR ?_; clear ha a; intro a ha
  refine endl ?_
  refine thenN (hK2193 _ _ ?_); clear hK2193
  by_cases hp2194 : a0 = 1
  · skip
    replace h := ite_pos' h hp2194
    refine condT ha KR KR (t := (a0 == 1)) (ieq_t hp2194) ?_
    refine wp_seq_k (fun K2195 hK2196 => ?_)
    refine wp_region_lit ?_
    refine stepp ha 2 (.int .i64 1) KR KR ?_; clear ha a; intro a ha
    refine endl ?_
    refine thenN (hK2196 _ _ ?_); clear hK2196
    refine wp_ret ?_
    refine blkR ?_
    refine thenR ?_
    obtain rfl := Option.some.inj h
    exact finv ha _ _ rfl (.tmp (v := .int .i64 1) KR .nil) (.int .i64 1) rfl ⟨rfl, HW.pick [] [] (by decide) (by decide) rfl KR⟩
  · skip
    replace h := ite_neg' h hp2194
    refine condF ha KR KR (t := (a0 == 1)) (ieq_f hp2194) ?_
    refine wp_seq_k (fun K2197 hK2198 => ?_)
    refine wp_region_lit ?_
    refine stepp ha 7 (.bool (a0 == 3)) KR KR ?_; clear ha a; intro a ha
    refine stepp ha 6 (.bool (a0 == 3)) KR KR ?_; clear ha a; intro a ha
    refine endl ?_
    refine thenN (hK2198 _ _ ?_); clear hK2198
    by_cases hp2199 : a0 = 3
    · skip
      replace h := ite_pos' h hp2199
      refine condT ha KR KR (t := (a0 == 3)) (ieq_t hp2199) ?_
      refine wp_seq_k (fun K2200 hK2201 => ?_)
      refine wp_region_lit ?_
      refine stepp ha 2 (.int .i64 2) KR KR ?_; clear ha a; intro a ha
      refine endl ?_
      refine thenN (hK2201 _ _ ?_); clear hK2201
      refine wp_ret ?_
      refine blkR ?_
      refine thenR ?_
      obtain rfl := Option.some.inj h
      exact finv ha _ _ rfl (.tmp (v := .int .i64 2) KR .nil) (.int .i64 2) rfl ⟨rfl, HW.pick [] [] (by decide) (by decide) rfl KR⟩
    · skip
      replace h := ite_neg' h hp2199
      refine condF ha KR KR (t := (a0 == 3)) (ieq_f hp2199) ?_
      refine wp_seq_k (fun K2202 hK2203 => ?_)
      refine wp_seq_k (fun K2204 hK2205 => ?_)
      refine wp_region_lit ?_
      refine stepp ha 9 (.bool (a0 == 5)) KR KR ?_; clear ha a; intro a ha
      refine stepp ha 8 (.bool (a0 == 5)) KR KR ?_; clear ha a; intro a ha
      refine endl ?_
      refine thenN (hK2205 _ _ ?_); clear hK2205
      by_cases hp2206 : a0 = 5
      · skip
        replace h := ite_pos' h hp2206
        refine condT ha KR KR (t := (a0 == 5)) (ieq_t hp2206) ?_
        refine wp_skip ?_
        refine thenN (hK2203 _ _ ?_); clear hK2203
        refine condT ha KR KR (t := (a0 == 5)) (ieq_t hp2206) ?_
        refine wp_seq_k (fun K2213 hK2214 => ?_)
        refine wp_region_lit ?_
        refine stepp ha 13 (.int .i64 a0) KR KR ?_; clear ha a; intro a ha
        refine stepp ha 14 (.int .i64 (IntKind.wrap .i64 (a0 - 2))) KR KR ?_; clear ha a; intro a ha
        refine stepp ha 2 (.int .i64 (IntKind.wrap .i64 (a0 - 2))) KR KR ?_; clear ha a; intro a ha
        refine endl ?_
        refine thenN (hK2214 _ _ ?_); clear hK2214
        refine wp_ret ?_
        refine blkR ?_
        refine thenR ?_
        obtain rfl := Option.some.inj h
        exact finv ha _ _ rfl (.tmp (v := .int .i64 (IntKind.wrap .i64 (a0 - 2))) KR .nil) (.int .i64 (IntKind.wrap .i64 (a0 - 2))) rfl ⟨rfl, HW.pick [] [] (by decide) (by decide) rfl KR⟩
      · skip
        replace h := ite_neg' h hp2206
        refine condF ha KR KR (t := (a0 == 5)) (ieq_f hp2206) ?_
        refine wp_seq_k (fun K2207 hK2208 => ?_)
        refine wp_region_lit ?_
        refine stepp ha 10 (.bool (a0 == 6)) KR KR ?_; clear ha a; intro a ha
        refine stepp ha 8 (.bool (a0 == 6)) KR KR ?_; clear ha a; intro a ha
        refine endl ?_
        refine thenN (hK2208 _ _ ?_); clear hK2208
        by_cases hp2209 : a0 = 6
        · skip
          replace h := ite_pos' h hp2209
          refine condT ha KR KR (t := (a0 == 6)) (ieq_t hp2209) ?_
          refine wp_skip ?_
          refine thenN (hK2203 _ _ ?_); clear hK2203
          refine condT ha KR KR (t := (a0 == 6)) (ieq_t hp2209) ?_
          refine wp_seq_k (fun K2215 hK2216 => ?_)
          refine wp_region_lit ?_
          refine stepp ha 13 (.int .i64 a0) KR KR ?_; clear ha a; intro a ha
          refine stepp ha 14 (.int .i64 (IntKind.wrap .i64 (a0 - 2))) KR KR ?_; clear ha a; intro a ha
          refine stepp ha 2 (.int .i64 (IntKind.wrap .i64 (a0 - 2))) KR KR ?_; clear ha a; intro a ha
          refine endl ?_
          refine thenN (hK2216 _ _ ?_); clear hK2216
          refine wp_ret ?_
          refine blkR ?_
          refine thenR ?_
          obtain rfl := Option.some.inj h
          exact finv ha _ _ rfl (.tmp (v := .int .i64 (IntKind.wrap .i64 (a0 - 2))) KR .nil) (.int .i64 (IntKind.wrap .i64 (a0 - 2))) rfl ⟨rfl, HW.pick [] [] (by decide) (by decide) rfl KR⟩
        · skip
          replace h := ite_neg' h hp2209
          refine condF ha KR KR (t := (a0 == 6)) (ieq_f hp2209) ?_
          refine wp_seq_k (fun K2210 hK2211 => ?_)
          refine wp_region_lit ?_
          refine stepp ha 11 (.bool (a0 == 7)) KR KR ?_; clear ha a; intro a ha
          refine stepp ha 8 (.bool (a0 == 7)) KR KR ?_; clear ha a; intro a ha
          refine endl ?_
          refine thenN (hK2211 _ _ ?_); clear hK2211
          by_cases hp2212 : a0 = 7
          · skip
            replace h := ite_pos' h hp2212
            refine condT ha KR KR (t := (a0 == 7)) (ieq_t hp2212) ?_
            refine wp_skip ?_
            refine thenN (hK2203 _ _ ?_); clear hK2203
            refine condT ha KR KR (t := (a0 == 7)) (ieq_t hp2212) ?_
            refine wp_seq_k (fun K2217 hK2218 => ?_)
            refine wp_region_lit ?_
            refine stepp ha 13 (.int .i64 a0) KR KR ?_; clear ha a; intro a ha
            refine stepp ha 14 (.int .i64 (IntKind.wrap .i64 (a0 - 2))) KR KR ?_; clear ha a; intro a ha
            refine stepp ha 2 (.int .i64 (IntKind.wrap .i64 (a0 - 2))) KR KR ?_; clear ha a; intro a ha
            refine endl ?_
            refine thenN (hK2218 _ _ ?_); clear hK2218
            refine wp_ret ?_
            refine blkR ?_
            refine thenR ?_
            obtain rfl := Option.some.inj h
            exact finv ha _ _ rfl (.tmp (v := .int .i64 (IntKind.wrap .i64 (a0 - 2))) KR .nil) (.int .i64 (IntKind.wrap .i64 (a0 - 2))) rfl ⟨rfl, HW.pick [] [] (by decide) (by decide) rfl KR⟩
          · skip
            replace h := ite_neg' h hp2212
            refine condF ha KR KR (t := (a0 == 7)) (ieq_f hp2212) ?_
            refine wp_region_lit ?_
            refine stepp ha 12 (.bool (a0 == 8)) KR KR ?_; clear ha a; intro a ha
            refine stepp ha 8 (.bool (a0 == 8)) KR KR ?_; clear ha a; intro a ha
            refine endl ?_
            refine thenN (hK2203 _ _ ?_); clear hK2203
            by_cases hp2219 : a0 = 8
            · skip
              replace h := ite_pos' h hp2219
              refine condT ha KR KR (t := (a0 == 8)) (ieq_t hp2219) ?_
              refine wp_seq_k (fun K2220 hK2221 => ?_)
              refine wp_region_lit ?_
              refine stepp ha 13 (.int .i64 a0) KR KR ?_; clear ha a; intro a ha
              refine stepp ha 14 (.int .i64 (IntKind.wrap .i64 (a0 - 2))) KR KR ?_; clear ha a; intro a ha
              refine stepp ha 2 (.int .i64 (IntKind.wrap .i64 (a0 - 2))) KR KR ?_; clear ha a; intro a ha
              refine endl ?_
              refine thenN (hK2221 _ _ ?_); clear hK2221
              refine wp_ret ?_
              refine blkR ?_
              refine thenR ?_
              obtain rfl := Option.some.inj h
              exact finv ha _ _ rfl (.tmp (v := .int .i64 (IntKind.wrap .i64 (a0 - 2))) KR .nil) (.int .i64 (IntKind.wrap .i64 (a0 - 2))) rfl ⟨rfl, HW.pick [] [] (by decide) (by decide) rfl KR⟩
            · skip
              replace h := ite_neg' h hp2219
              refine condF ha KR KR (t := (a0 == 8)) (ieq_f hp2219) ?_
              refine wp_skip ?_
              refine blkN ?_
              refine thenN (hK2189 _ _ ?_); clear hK2189
              refine wp_seq_k (fun K2222 hK2223 => ?_)
              refine wp_region_lit ?_
              refine stepp ha 2 (.int .i64 0) KR KR ?_; clear ha a; intro a ha
              refine endl ?_
              refine thenN (hK2223 _ _ ?_); clear hK2223
              refine wp_ret ?_
              obtain rfl := Option.some.inj h
              exact finv ha _ _ rfl (.tmp (v := .int .i64 0) KR .nil) (.int .i64 0) rfl ⟨rfl, HW.pick [] [] (by decide) (by decide) rfl KR⟩
/-! ### headgate/headgateref15.reservation: function 38 -/
def headgateref15_reservation.j0 (K : Nat) (a0 : ByteArray) (a1 : T_headgateref15_Ask) (t2262 : Int) (x2294 : Bool) : Option (T_headgateref15_Ask × Int) :=
  if x2294 = true then ((headgateref15_Type.f (IntKind.wrap .i64 (bt a0 2))).bind fun t2299 => (if t2299 = 0 then (some ((⟨0, 0, 0, false, 0, 0, 0⟩ : T_headgateref15_Ask), 150)) else (some ((⟨IntKind.wrap .i64 ((IntKind.wrap .i64 (256 * (IntKind.wrap .i64 (bt a0 0)))) + (IntKind.wrap .i64 (Int.tmod (bt a0 1) 32))), a1.f1, a1.f2, a1.f3, a1.f4, t2262, t2299⟩ : T_headgateref15_Ask), 0)))) else (some ((⟨IntKind.wrap .i64 ((IntKind.wrap .i64 (256 * (IntKind.wrap .i64 (bt a0 0)))) + (IntKind.wrap .i64 (Int.tmod (bt a0 1) 32))), a1.f1, a1.f2, a1.f3, a1.f4, t2262, a1.f6⟩ : T_headgateref15_Ask), 0))
def headgateref15_reservation.f (K : Nat) (a0 : ByteArray) (a1 : T_headgateref15_Ask) : Option (T_headgateref15_Ask × Int) :=
  asrt (1 < (a0.size : Int)) (asrt (0 < (a0.size : Int)) (if (bt a0 0) = 94 then ((headgateref15_num.f K a0 7 2).bind fun t2244 => (if (IntKind.wrap .i64 (Int.tmod (bt a0 1) 32)) > 1 then (some ((⟨0, 0, 0, false, 0, 0, 0⟩ : T_headgateref15_Ask), 150)) else (some ((⟨IntKind.wrap .i64 ((IntKind.wrap .i64 (256 * (IntKind.wrap .i64 (bt a0 0)))) + (IntKind.wrap .i64 (Int.tmod (bt a0 1) 32))), a1.f1, a1.f2, a1.f3, a1.f4, t2244, a1.f6⟩ : T_headgateref15_Ask), 0)))) else ((headgateref15_num.f K a0 5 4).bind fun t2262 => (if t2262 = 24 then (asrt (2 < (a0.size : Int)) (if (bt a0 2) > 15 then (some ((⟨0, 0, 0, false, 0, 0, 0⟩ : T_headgateref15_Ask), 150)) else (if (IntKind.wrap .i64 (Int.tmod (bt a0 1) 32)) > 6 then (some ((⟨0, 0, 0, false, 0, 0, 0⟩ : T_headgateref15_Ask), 150)) else (if (IntKind.wrap .i64 (Int.tmod (bt a0 1) 32)) = 5 then (some ((⟨0, 0, 0, false, 0, 0, 0⟩ : T_headgateref15_Ask), 150)) else (if (IntKind.wrap .i64 (Int.tmod (bt a0 1) 32)) = 1 then (headgateref15_reservation.j0 K a0 a1 t2262 true) else (if (IntKind.wrap .i64 (Int.tmod (bt a0 1) 32)) = 2 then (headgateref15_reservation.j0 K a0 a1 t2262 true) else (headgateref15_reservation.j0 K a0 a1 t2262 ((IntKind.wrap .i64 (Int.tmod (bt a0 1) 32)) == 4)))))))) else (some ((⟨0, 0, 0, false, 0, 0, 0⟩ : T_headgateref15_Ask), 150))))))
set_option maxRecDepth 100000 in
set_option maxHeartbeats 4000000 in
theorem headgateref15_reservation.calls (K : Nat) (a0 : ByteArray) (a1 : T_headgateref15_Ask)  (r : T_headgateref15_Ask × Int) (w : World)  (h : headgateref15_reservation.f K a0 a1 = some r) :
    Calls Tryd.prog 38 #[.string a0, .agg #[.int .i64 a1.f0, .int .i64 a1.f1, .int .i64 a1.f2, .bool a1.f3, .int .i64 a1.f4, .int .i64 a1.f5, .int .i64 a1.f6]] w (fun e W' => e = .returned (.tuple #[.agg #[.int .i64 r.1.f0, .int .i64 r.1.f1, .int .i64 r.1.f2, .bool r.1.f3, .int .i64 r.1.f4, .int .i64 r.1.f5, .int .i64 r.1.f6], .int .i64 r.2]) ∧ Wd w W' [] [] ) := by
  refine sxstart (n := 68) (l := [(0, .string a0), (1, .agg #[.int .i64 a1.f0, .int .i64 a1.f1, .int .i64 a1.f2, .bool a1.f3, .int .i64 a1.f4, .int .i64 a1.f5, .int .i64 a1.f6])]) Tryd.func38 rfl rfl (Nat.le_of_ble_eq_true KR) (subsA_cons rfl (subsA_cons rfl (subsA_nil _))) ?_
  intro a ha
  have HW := Wd.refl w
  unfold headgateref15_reservation.f at h
  refine wp_seq_k (fun K2224 hK2225 => ?_)
  refine wp_region_lit ?_
  refine stepnew ha HW 3 #[.int .i64 a1.f0, .int .i64 a1.f1, .int .i64 a1.f2, .bool a1.f3, .int .i64 a1.f4, .int .i64 a1.f5, .int .i64 a1.f6] 43 KR KR ?_; clear ha HW a; intro b2226 a W2227 HW ha
  refine stepnew ha HW 4 #[.int .i64 0, .int .i64 0, .int .i64 0, .bool false, .int .i64 0, .int .i64 0, .int .i64 0] 43 KR KR ?_; clear ha HW a; intro b2228 a W2229 HW ha
  refine stepp ha 5 (.int .i64 0) KR KR ?_; clear ha a; intro a ha
  refine endl ?_
  refine thenN (hK2225 _ _ ?_); clear hK2225
  refine wp_seq_k (fun K2230 hK2231 => ?_)
  refine wp_region_lit ?_
  refine stepp ha 7 (.string a0) KR KR ?_; clear ha a; intro a ha
  obtain ⟨hA2232, h_⟩ := asrt_some h; clear h; have h := h_; clear h_
  refine stepsi ha 8 9 (.tmp 7) (.const (.int .i64 1)) a0 .i64 1 rfl KR KR KR (by decide) (show (1 : Int) < ((a0).size : Int) from hA2232) KR ?_; clear ha a; intro a ha
  refine stepp ha 9 (.int .u8 (Int.tmod (bt a0 1) 32)) KR KR ?_; clear ha a; intro a ha
  refine stepp ha 10 (.int .i64 (IntKind.wrap .i64 (Int.tmod (bt a0 1) 32))) KR KR ?_; clear ha a; intro a ha
  refine stepp ha 6 (.int .i64 (IntKind.wrap .i64 (Int.tmod (bt a0 1) 32))) KR KR ?_; clear ha a; intro a ha
  refine endl ?_
  refine thenN (hK2231 _ _ ?_); clear hK2231
  refine wp_seq_k (fun K2233 hK2234 => ?_)
  refine wp_region_lit ?_
  refine stepp ha 11 (.string a0) KR KR ?_; clear ha a; intro a ha
  obtain ⟨hA2235, h_⟩ := asrt_some h; clear h; have h := h_; clear h_
  refine stepsi ha 12 9 (.tmp 11) (.const (.int .i64 0)) a0 .i64 0 rfl KR KR KR (by decide) (show (0 : Int) < ((a0).size : Int) from hA2235) KR ?_; clear ha a; intro a ha
  refine stepp ha 13 (.int .i64 (IntKind.wrap .i64 (bt a0 0))) KR KR ?_; clear ha a; intro a ha
  refine stepp ha 14 (.int .i64 (IntKind.wrap .i64 (256 * (IntKind.wrap .i64 (bt a0 0))))) KR KR ?_; clear ha a; intro a ha
  refine stepp ha 15 (.int .i64 (IntKind.wrap .i64 (Int.tmod (bt a0 1) 32))) KR KR ?_; clear ha a; intro a ha
  refine stepp ha 16 (.int .i64 (IntKind.wrap .i64 ((IntKind.wrap .i64 (256 * (IntKind.wrap .i64 (bt a0 0)))) + (IntKind.wrap .i64 (Int.tmod (bt a0 1) 32))))) KR KR ?_; clear ha a; intro a ha
  refine stepp ha 17 (.pointer (some ⟨b2226, 0, none⟩)) KR KR ?_; clear ha a; intro a ha
  refine stepst ha HW 1 (b := b2226) (C := #[.int .i64 a1.f0, .int .i64 a1.f1, .int .i64 a1.f2, .bool a1.f3, .int .i64 a1.f4, .int .i64 a1.f5, .int .i64 a1.f6]) (T := 43) KR 3 0 (.tmp 17) (.tmp 16) (.int .i64 (IntKind.wrap .i64 ((IntKind.wrap .i64 (256 * (IntKind.wrap .i64 (bt a0 0)))) + (IntKind.wrap .i64 (Int.tmod (bt a0 1) 32))))) #[.int .i64 (IntKind.wrap .i64 ((IntKind.wrap .i64 (256 * (IntKind.wrap .i64 (bt a0 0)))) + (IntKind.wrap .i64 (Int.tmod (bt a0 1) 32)))), .int .i64 a1.f1, .int .i64 a1.f2, .bool a1.f3, .int .i64 a1.f4, .int .i64 a1.f5, .int .i64 a1.f6] rfl KR KR KR KR KR KR KR ?_; clear ha HW a; intro a W2236 HW ha
  refine endl ?_
  refine thenN (hK2234 _ _ ?_); clear hK2234
  refine wp_seq_k (fun K2237 hK2238 => ?_)
  refine wp_seq_k (fun K2239 hK2240 => ?_)
  refine wp_region_lit ?_
  refine stepp ha 18 (.string a0) KR KR ?_; clear ha a; intro a ha
  refine stepsi ha 19 9 (.tmp 18) (.const (.int .i64 0)) a0 .i64 0 rfl KR KR KR (by decide) (show (0 : Int) < ((a0).size : Int) from hA2235) KR ?_; clear ha a; intro a ha
  refine stepp ha 20 (.bool ((bt a0 0) == 94)) KR KR ?_; clear ha a; intro a ha
  refine endl ?_
  refine thenN (hK2240 _ _ ?_); clear hK2240
  by_cases hp2241 : (bt a0 0) = 94
  · skip
    replace h := ite_pos' h hp2241
    refine condT ha KR KR (t := ((bt a0 0) == 94)) (ieq_t hp2241) ?_
    refine wp_seq_k (fun K2242 hK2243 => ?_)
    refine wp_region_lit ?_
    refine stepp ha 21 (.string a0) KR KR ?_; clear ha a; intro a ha
    obtain ⟨t2244, ht2245, h_⟩ := bind_some' h; clear h; have h := h_; clear h_
    refine stepc ha 22 KR KR (headgateref15_num.calls K a0 7 2 t2244 _ ht2245) ?_; clear ha a; rintro e W2246 ⟨rfl, HX2247⟩
    refine ⟨_, rfl, ?_⟩; intro a ha; replace HW := HW.callw HX2247; clear HX2247
    refine stepp ha 23 (.pointer (some ⟨b2226, 5, none⟩)) KR KR ?_; clear ha a; intro a ha
    refine stepst ha HW 1 (b := b2226) (C := #[.int .i64 (IntKind.wrap .i64 ((IntKind.wrap .i64 (256 * (IntKind.wrap .i64 (bt a0 0)))) + (IntKind.wrap .i64 (Int.tmod (bt a0 1) 32)))), .int .i64 a1.f1, .int .i64 a1.f2, .bool a1.f3, .int .i64 a1.f4, .int .i64 a1.f5, .int .i64 a1.f6]) (T := 43) KR 3 5 (.tmp 23) (.tmp 22) (.int .i64 t2244) #[.int .i64 (IntKind.wrap .i64 ((IntKind.wrap .i64 (256 * (IntKind.wrap .i64 (bt a0 0)))) + (IntKind.wrap .i64 (Int.tmod (bt a0 1) 32)))), .int .i64 a1.f1, .int .i64 a1.f2, .bool a1.f3, .int .i64 a1.f4, .int .i64 t2244, .int .i64 a1.f6] rfl KR KR KR KR KR KR KR ?_; clear ha HW a; intro a W2248 HW ha
    refine endl ?_
    refine thenN (hK2243 _ _ ?_); clear hK2243
    refine wp_seq_k (fun K2249 hK2250 => ?_)
    refine wp_seq_k (fun K2251 hK2252 => ?_)
    refine wp_region_lit ?_
    refine stepp ha 24 (.int .i64 (IntKind.wrap .i64 (Int.tmod (bt a0 1) 32))) KR KR ?_; clear ha a; intro a ha
    refine stepp ha 25 (.bool (decide ((IntKind.wrap .i64 (Int.tmod (bt a0 1) 32)) > 1))) KR KR ?_; clear ha a; intro a ha
    refine endl ?_
    refine thenN (hK2252 _ _ ?_); clear hK2252
    by_cases hp2253 : (IntKind.wrap .i64 (Int.tmod (bt a0 1) 32)) > 1
    · skip
      replace h := ite_pos' h hp2253
      refine condT ha KR KR (t := decide ((IntKind.wrap .i64 (Int.tmod (bt a0 1) 32)) > 1)) (decide_eq_true hp2253) ?_
      refine wp_seq_k (fun K2254 hK2255 => ?_)
      refine wp_region_lit ?_
      refine stepp ha 26 (.agg #[.int .i64 0, .int .i64 0, .int .i64 0, .bool false, .int .i64 0, .int .i64 0, .int .i64 0]) KR KR ?_; clear ha a; intro a ha
      refine stepst ha HW 0 (b := b2228) (C := #[.int .i64 0, .int .i64 0, .int .i64 0, .bool false, .int .i64 0, .int .i64 0, .int .i64 0]) (T := 43) KR 43 0 (.tmp 4) (.tmp 26) (.agg #[.int .i64 0, .int .i64 0, .int .i64 0, .bool false, .int .i64 0, .int .i64 0, .int .i64 0]) #[.int .i64 0, .int .i64 0, .int .i64 0, .bool false, .int .i64 0, .int .i64 0, .int .i64 0] rfl KR KR KR KR KR KR KR ?_; clear ha HW a; intro a W2256 HW ha
      refine stepp ha 5 (.int .i64 150) KR KR ?_; clear ha a; intro a ha
      refine endl ?_
      refine thenN (hK2255 _ _ ?_); clear hK2255
      refine wp_ret ?_
      refine thenR ?_
      refine thenR ?_
      obtain rfl := Option.some.inj h
      exact finv ha _ _ rfl (.cell (ad := ⟨b2228, 0, none⟩) (v := .agg #[.int .i64 0, .int .i64 0, .int .i64 0, .bool false, .int .i64 0, .int .i64 0, .int .i64 0]) KR (run_loadVar_ca0 (HW.ca (i := 0) (b := b2228) (C := #[.int .i64 0, .int .i64 0, .int .i64 0, .bool false, .int .i64 0, .int .i64 0, .int .i64 0]) (T := 43) (fr := (0, 0)) KR) 43 0 (.agg #[.int .i64 0, .int .i64 0, .int .i64 0, .bool false, .int .i64 0, .int .i64 0, .int .i64 0]) KR) (.tmp (v := .int .i64 150) KR .nil)) (.tuple #[.agg #[.int .i64 0, .int .i64 0, .int .i64 0, .bool false, .int .i64 0, .int .i64 0, .int .i64 0], .int .i64 150]) rfl ⟨rfl, HW.pick [] [] (by decide) (by decide) rfl KR⟩
    · skip
      replace h := ite_neg' h hp2253
      refine condF ha KR KR (t := decide ((IntKind.wrap .i64 (Int.tmod (bt a0 1) 32)) > 1)) (decide_eq_false hp2253) ?_
      refine wp_skip ?_
      refine thenN (hK2250 _ _ ?_); clear hK2250
      refine wp_seq_k (fun K2257 hK2258 => ?_)
      refine wp_region_lit ?_
      refine stepl ha 27 (HW.ca (i := 1) (b := b2226) (C := #[.int .i64 (IntKind.wrap .i64 ((IntKind.wrap .i64 (256 * (IntKind.wrap .i64 (bt a0 0)))) + (IntKind.wrap .i64 (Int.tmod (bt a0 1) 32)))), .int .i64 a1.f1, .int .i64 a1.f2, .bool a1.f3, .int .i64 a1.f4, .int .i64 t2244, .int .i64 a1.f6]) (T := 43) (fr := (0, 0)) KR) 43 0 (.tmp 3) (.agg #[.int .i64 (IntKind.wrap .i64 ((IntKind.wrap .i64 (256 * (IntKind.wrap .i64 (bt a0 0)))) + (IntKind.wrap .i64 (Int.tmod (bt a0 1) 32)))), .int .i64 a1.f1, .int .i64 a1.f2, .bool a1.f3, .int .i64 a1.f4, .int .i64 t2244, .int .i64 a1.f6]) rfl KR KR KR ?_; clear ha a; intro a ha
      refine stepst ha HW 0 (b := b2228) (C := #[.int .i64 0, .int .i64 0, .int .i64 0, .bool false, .int .i64 0, .int .i64 0, .int .i64 0]) (T := 43) KR 43 0 (.tmp 4) (.tmp 27) (.agg #[.int .i64 (IntKind.wrap .i64 ((IntKind.wrap .i64 (256 * (IntKind.wrap .i64 (bt a0 0)))) + (IntKind.wrap .i64 (Int.tmod (bt a0 1) 32)))), .int .i64 a1.f1, .int .i64 a1.f2, .bool a1.f3, .int .i64 a1.f4, .int .i64 t2244, .int .i64 a1.f6]) #[.int .i64 (IntKind.wrap .i64 ((IntKind.wrap .i64 (256 * (IntKind.wrap .i64 (bt a0 0)))) + (IntKind.wrap .i64 (Int.tmod (bt a0 1) 32)))), .int .i64 a1.f1, .int .i64 a1.f2, .bool a1.f3, .int .i64 a1.f4, .int .i64 t2244, .int .i64 a1.f6] rfl KR KR KR KR KR KR KR ?_; clear ha HW a; intro a W2259 HW ha
      refine stepp ha 5 (.int .i64 0) KR KR ?_; clear ha a; intro a ha
      refine endl ?_
      refine thenN (hK2258 _ _ ?_); clear hK2258
      refine wp_ret ?_
      refine thenR ?_
      obtain rfl := Option.some.inj h
      exact finv ha _ _ rfl (.cell (ad := ⟨b2228, 0, none⟩) (v := .agg #[.int .i64 (IntKind.wrap .i64 ((IntKind.wrap .i64 (256 * (IntKind.wrap .i64 (bt a0 0)))) + (IntKind.wrap .i64 (Int.tmod (bt a0 1) 32)))), .int .i64 a1.f1, .int .i64 a1.f2, .bool a1.f3, .int .i64 a1.f4, .int .i64 t2244, .int .i64 a1.f6]) KR (run_loadVar_ca0 (HW.ca (i := 0) (b := b2228) (C := #[.int .i64 (IntKind.wrap .i64 ((IntKind.wrap .i64 (256 * (IntKind.wrap .i64 (bt a0 0)))) + (IntKind.wrap .i64 (Int.tmod (bt a0 1) 32)))), .int .i64 a1.f1, .int .i64 a1.f2, .bool a1.f3, .int .i64 a1.f4, .int .i64 t2244, .int .i64 a1.f6]) (T := 43) (fr := (0, 0)) KR) 43 0 (.agg #[.int .i64 (IntKind.wrap .i64 ((IntKind.wrap .i64 (256 * (IntKind.wrap .i64 (bt a0 0)))) + (IntKind.wrap .i64 (Int.tmod (bt a0 1) 32)))), .int .i64 a1.f1, .int .i64 a1.f2, .bool a1.f3, .int .i64 a1.f4, .int .i64 t2244, .int .i64 a1.f6]) KR) (.tmp (v := .int .i64 0) KR .nil)) (.tuple #[.agg #[.int .i64 (IntKind.wrap .i64 ((IntKind.wrap .i64 (256 * (IntKind.wrap .i64 (bt a0 0)))) + (IntKind.wrap .i64 (Int.tmod (bt a0 1) 32)))), .int .i64 a1.f1, .int .i64 a1.f2, .bool a1.f3, .int .i64 a1.f4, .int .i64 t2244, .int .i64 a1.f6], .int .i64 0]) rfl ⟨rfl, HW.pick [] [] (by decide) (by decide) rfl KR⟩
  · skip
    replace h := ite_neg' h hp2241
    refine condF ha KR KR (t := ((bt a0 0) == 94)) (ieq_f hp2241) ?_
    refine wp_skip ?_
    refine thenN (hK2238 _ _ ?_); clear hK2238
    refine wp_seq_k (fun K2260 hK2261 => ?_)
    refine wp_region_lit ?_
    refine stepp ha 28 (.string a0) KR KR ?_; clear ha a; intro a ha
    obtain ⟨t2262, ht2263, h_⟩ := bind_some' h; clear h; have h := h_; clear h_
    refine stepc ha 29 KR KR (headgateref15_num.calls K a0 5 4 t2262 _ ht2263) ?_; clear ha a; rintro e W2264 ⟨rfl, HX2265⟩
    refine ⟨_, rfl, ?_⟩; intro a ha; replace HW := HW.callw HX2265; clear HX2265
    refine stepp ha 30 (.pointer (some ⟨b2226, 5, none⟩)) KR KR ?_; clear ha a; intro a ha
    refine stepst ha HW 1 (b := b2226) (C := #[.int .i64 (IntKind.wrap .i64 ((IntKind.wrap .i64 (256 * (IntKind.wrap .i64 (bt a0 0)))) + (IntKind.wrap .i64 (Int.tmod (bt a0 1) 32)))), .int .i64 a1.f1, .int .i64 a1.f2, .bool a1.f3, .int .i64 a1.f4, .int .i64 a1.f5, .int .i64 a1.f6]) (T := 43) KR 3 5 (.tmp 30) (.tmp 29) (.int .i64 t2262) #[.int .i64 (IntKind.wrap .i64 ((IntKind.wrap .i64 (256 * (IntKind.wrap .i64 (bt a0 0)))) + (IntKind.wrap .i64 (Int.tmod (bt a0 1) 32)))), .int .i64 a1.f1, .int .i64 a1.f2, .bool a1.f3, .int .i64 a1.f4, .int .i64 t2262, .int .i64 a1.f6] rfl KR KR KR KR KR KR KR ?_; clear ha HW a; intro a W2266 HW ha
    refine endl ?_
    refine thenN (hK2261 _ _ ?_); clear hK2261
    refine wp_seq_k (fun K2267 hK2268 => ?_)
    refine wp_seq_k (fun K2269 hK2270 => ?_)
    refine wp_region_lit ?_
    refine stepp ha 31 (.pointer (some ⟨b2226, 5, none⟩)) KR KR ?_; clear ha a; intro a ha
    refine stepl ha 32 (HW.ca (i := 1) (b := b2226) (C := #[.int .i64 (IntKind.wrap .i64 ((IntKind.wrap .i64 (256 * (IntKind.wrap .i64 (bt a0 0)))) + (IntKind.wrap .i64 (Int.tmod (bt a0 1) 32)))), .int .i64 a1.f1, .int .i64 a1.f2, .bool a1.f3, .int .i64 a1.f4, .int .i64 t2262, .int .i64 a1.f6]) (T := 43) (fr := (0, 0)) KR) 3 5 (.tmp 31) (.int .i64 t2262) rfl KR KR KR ?_; clear ha a; intro a ha
    refine stepp ha 33 (.bool (t2262 != 24)) KR KR ?_; clear ha a; intro a ha
    refine stepp ha 34 (.bool (t2262 != 24)) KR KR ?_; clear ha a; intro a ha
    by_cases hp2271 : t2262 = 24
    · skip
      replace h := ite_pos' h hp2271
      replace ha := ha.bool 34 KR (ineq_f hp2271)
      refine stepp ha 35 (.string a0) KR KR ?_; clear ha a; intro a ha
      obtain ⟨hA2272, h_⟩ := asrt_some h; clear h; have h := h_; clear h_
      refine stepsi ha 36 9 (.tmp 35) (.const (.int .i64 2)) a0 .i64 2 rfl KR KR KR (by decide) (show (2 : Int) < ((a0).size : Int) from hA2272) KR ?_; clear ha a; intro a ha
      refine stepp ha 37 (.bool (decide ((bt a0 2) > 15))) KR KR ?_; clear ha a; intro a ha
      refine stepp ha 38 (.bool (decide ((bt a0 2) > 15))) KR KR ?_; clear ha a; intro a ha
      refine stepp ha 39 (.bool (decide ((bt a0 2) > 15))) KR KR ?_; clear ha a; intro a ha
      by_cases hp2273 : (bt a0 2) > 15
      · skip
        replace h := ite_pos' h hp2273
        replace ha := ha.bool 39 KR (decide_eq_true hp2273)
        refine stepo ha 40 KR ?_; clear ha a; intro a ha
        refine stepo ha 41 KR ?_; clear ha a; intro a ha
        refine stepp ha 42 (.bool true) KR KR ?_; clear ha a; intro a ha
        refine stepp ha 43 (.bool true) KR KR ?_; clear ha a; intro a ha
        refine stepo ha 44 KR ?_; clear ha a; intro a ha
        refine stepo ha 45 KR ?_; clear ha a; intro a ha
        refine stepp ha 46 (.bool true) KR KR ?_; clear ha a; intro a ha
        refine endl ?_
        refine thenN (hK2270 _ _ ?_); clear hK2270
        refine condT ha KR KR (t := true) (rfl) ?_
        refine wp_seq_k (fun K2275 hK2276 => ?_)
        refine wp_region_lit ?_
        refine stepp ha 47 (.agg #[.int .i64 0, .int .i64 0, .int .i64 0, .bool false, .int .i64 0, .int .i64 0, .int .i64 0]) KR KR ?_; clear ha a; intro a ha
        refine stepst ha HW 0 (b := b2228) (C := #[.int .i64 0, .int .i64 0, .int .i64 0, .bool false, .int .i64 0, .int .i64 0, .int .i64 0]) (T := 43) KR 43 0 (.tmp 4) (.tmp 47) (.agg #[.int .i64 0, .int .i64 0, .int .i64 0, .bool false, .int .i64 0, .int .i64 0, .int .i64 0]) #[.int .i64 0, .int .i64 0, .int .i64 0, .bool false, .int .i64 0, .int .i64 0, .int .i64 0] rfl KR KR KR KR KR KR KR ?_; clear ha HW a; intro a W2277 HW ha
        refine stepp ha 5 (.int .i64 150) KR KR ?_; clear ha a; intro a ha
        refine endl ?_
        refine thenN (hK2276 _ _ ?_); clear hK2276
        refine wp_ret ?_
        refine thenR ?_
        obtain rfl := Option.some.inj h
        exact finv ha _ _ rfl (.cell (ad := ⟨b2228, 0, none⟩) (v := .agg #[.int .i64 0, .int .i64 0, .int .i64 0, .bool false, .int .i64 0, .int .i64 0, .int .i64 0]) KR (run_loadVar_ca0 (HW.ca (i := 0) (b := b2228) (C := #[.int .i64 0, .int .i64 0, .int .i64 0, .bool false, .int .i64 0, .int .i64 0, .int .i64 0]) (T := 43) (fr := (0, 0)) KR) 43 0 (.agg #[.int .i64 0, .int .i64 0, .int .i64 0, .bool false, .int .i64 0, .int .i64 0, .int .i64 0]) KR) (.tmp (v := .int .i64 150) KR .nil)) (.tuple #[.agg #[.int .i64 0, .int .i64 0, .int .i64 0, .bool false, .int .i64 0, .int .i64 0, .int .i64 0], .int .i64 150]) rfl ⟨rfl, HW.pick [] [] (by decide) (by decide) rfl KR⟩
      · skip
        replace h := ite_neg' h hp2273
        replace ha := ha.bool 39 KR (decide_eq_false hp2273)
        refine stepp ha 40 (.int .i64 (IntKind.wrap .i64 (Int.tmod (bt a0 1) 32))) KR KR ?_; clear ha a; intro a ha
        refine stepp ha 41 (.bool (decide ((IntKind.wrap .i64 (Int.tmod (bt a0 1) 32)) > 6))) KR KR ?_; clear ha a; intro a ha
        refine stepp ha 42 (.bool (decide ((IntKind.wrap .i64 (Int.tmod (bt a0 1) 32)) > 6))) KR KR ?_; clear ha a; intro a ha
        refine stepp ha 43 (.bool (decide ((IntKind.wrap .i64 (Int.tmod (bt a0 1) 32)) > 6))) KR KR ?_; clear ha a; intro a ha
        by_cases hp2274 : (IntKind.wrap .i64 (Int.tmod (bt a0 1) 32)) > 6
        · skip
          replace h := ite_pos' h hp2274
          replace ha := ha.bool 43 KR (decide_eq_true hp2274)
          refine stepo ha 44 KR ?_; clear ha a; intro a ha
          refine stepo ha 45 KR ?_; clear ha a; intro a ha
          refine stepp ha 46 (.bool true) KR KR ?_; clear ha a; intro a ha
          refine endl ?_
          refine thenN (hK2270 _ _ ?_); clear hK2270
          refine condT ha KR KR (t := true) (rfl) ?_
          refine wp_seq_k (fun K2278 hK2279 => ?_)
          refine wp_region_lit ?_
          refine stepp ha 47 (.agg #[.int .i64 0, .int .i64 0, .int .i64 0, .bool false, .int .i64 0, .int .i64 0, .int .i64 0]) KR KR ?_; clear ha a; intro a ha
          refine stepst ha HW 0 (b := b2228) (C := #[.int .i64 0, .int .i64 0, .int .i64 0, .bool false, .int .i64 0, .int .i64 0, .int .i64 0]) (T := 43) KR 43 0 (.tmp 4) (.tmp 47) (.agg #[.int .i64 0, .int .i64 0, .int .i64 0, .bool false, .int .i64 0, .int .i64 0, .int .i64 0]) #[.int .i64 0, .int .i64 0, .int .i64 0, .bool false, .int .i64 0, .int .i64 0, .int .i64 0] rfl KR KR KR KR KR KR KR ?_; clear ha HW a; intro a W2280 HW ha
          refine stepp ha 5 (.int .i64 150) KR KR ?_; clear ha a; intro a ha
          refine endl ?_
          refine thenN (hK2279 _ _ ?_); clear hK2279
          refine wp_ret ?_
          refine thenR ?_
          obtain rfl := Option.some.inj h
          exact finv ha _ _ rfl (.cell (ad := ⟨b2228, 0, none⟩) (v := .agg #[.int .i64 0, .int .i64 0, .int .i64 0, .bool false, .int .i64 0, .int .i64 0, .int .i64 0]) KR (run_loadVar_ca0 (HW.ca (i := 0) (b := b2228) (C := #[.int .i64 0, .int .i64 0, .int .i64 0, .bool false, .int .i64 0, .int .i64 0, .int .i64 0]) (T := 43) (fr := (0, 0)) KR) 43 0 (.agg #[.int .i64 0, .int .i64 0, .int .i64 0, .bool false, .int .i64 0, .int .i64 0, .int .i64 0]) KR) (.tmp (v := .int .i64 150) KR .nil)) (.tuple #[.agg #[.int .i64 0, .int .i64 0, .int .i64 0, .bool false, .int .i64 0, .int .i64 0, .int .i64 0], .int .i64 150]) rfl ⟨rfl, HW.pick [] [] (by decide) (by decide) rfl KR⟩
        · skip
          replace h := ite_neg' h hp2274
          replace ha := ha.bool 43 KR (decide_eq_false hp2274)
          refine stepp ha 44 (.int .i64 (IntKind.wrap .i64 (Int.tmod (bt a0 1) 32))) KR KR ?_; clear ha a; intro a ha
          refine stepp ha 45 (.bool ((IntKind.wrap .i64 (Int.tmod (bt a0 1) 32)) == 5)) KR KR ?_; clear ha a; intro a ha
          refine stepp ha 46 (.bool ((IntKind.wrap .i64 (Int.tmod (bt a0 1) 32)) == 5)) KR KR ?_; clear ha a; intro a ha
          refine endl ?_
          refine thenN (hK2270 _ _ ?_); clear hK2270
          by_cases hp2281 : (IntKind.wrap .i64 (Int.tmod (bt a0 1) 32)) = 5
          · skip
            replace h := ite_pos' h hp2281
            refine condT ha KR KR (t := ((IntKind.wrap .i64 (Int.tmod (bt a0 1) 32)) == 5)) (ieq_t hp2281) ?_
            refine wp_seq_k (fun K2282 hK2283 => ?_)
            refine wp_region_lit ?_
            refine stepp ha 47 (.agg #[.int .i64 0, .int .i64 0, .int .i64 0, .bool false, .int .i64 0, .int .i64 0, .int .i64 0]) KR KR ?_; clear ha a; intro a ha
            refine stepst ha HW 0 (b := b2228) (C := #[.int .i64 0, .int .i64 0, .int .i64 0, .bool false, .int .i64 0, .int .i64 0, .int .i64 0]) (T := 43) KR 43 0 (.tmp 4) (.tmp 47) (.agg #[.int .i64 0, .int .i64 0, .int .i64 0, .bool false, .int .i64 0, .int .i64 0, .int .i64 0]) #[.int .i64 0, .int .i64 0, .int .i64 0, .bool false, .int .i64 0, .int .i64 0, .int .i64 0] rfl KR KR KR KR KR KR KR ?_; clear ha HW a; intro a W2284 HW ha
            refine stepp ha 5 (.int .i64 150) KR KR ?_; clear ha a; intro a ha
            refine endl ?_
            refine thenN (hK2283 _ _ ?_); clear hK2283
            refine wp_ret ?_
            refine thenR ?_
            obtain rfl := Option.some.inj h
            exact finv ha _ _ rfl (.cell (ad := ⟨b2228, 0, none⟩) (v := .agg #[.int .i64 0, .int .i64 0, .int .i64 0, .bool false, .int .i64 0, .int .i64 0, .int .i64 0]) KR (run_loadVar_ca0 (HW.ca (i := 0) (b := b2228) (C := #[.int .i64 0, .int .i64 0, .int .i64 0, .bool false, .int .i64 0, .int .i64 0, .int .i64 0]) (T := 43) (fr := (0, 0)) KR) 43 0 (.agg #[.int .i64 0, .int .i64 0, .int .i64 0, .bool false, .int .i64 0, .int .i64 0, .int .i64 0]) KR) (.tmp (v := .int .i64 150) KR .nil)) (.tuple #[.agg #[.int .i64 0, .int .i64 0, .int .i64 0, .bool false, .int .i64 0, .int .i64 0, .int .i64 0], .int .i64 150]) rfl ⟨rfl, HW.pick [] [] (by decide) (by decide) rfl KR⟩
          · skip
            replace h := ite_neg' h hp2281
            refine condF ha KR KR (t := ((IntKind.wrap .i64 (Int.tmod (bt a0 1) 32)) == 5)) (ieq_f hp2281) ?_
            refine wp_skip ?_
            refine thenN (hK2268 _ _ ?_); clear hK2268
            refine wp_seq_k (fun K2288 hK2289 => ?_)
            refine wp_seq_k (fun K2290 hK2291 => ?_)
            refine cutn (fun a W2295 => ∃ (x2294 : Bool), headgateref15_reservation.j0 K a0 a1 t2262 x2294 = some r ∧ Has 68 [(0, .string a0), (3, .pointer (some ⟨b2226, 0, none⟩)), (4, .pointer (some ⟨b2228, 0, none⟩)), (57, .bool x2294)] a ∧ Wd w W2295 [(b2226, .cells #[.int .i64 (IntKind.wrap .i64 ((IntKind.wrap .i64 (256 * (IntKind.wrap .i64 (bt a0 0)))) + (IntKind.wrap .i64 (Int.tmod (bt a0 1) 32)))), .int .i64 a1.f1, .int .i64 a1.f2, .bool a1.f3, .int .i64 a1.f4, .int .i64 t2262, .int .i64 a1.f6] 43 (0, 0)), (b2228, .cells #[.int .i64 0, .int .i64 0, .int .i64 0, .bool false, .int .i64 0, .int .i64 0, .int .i64 0] 43 (0, 0))] []) ?_ ?_
            · skip
              refine wp_region_lit ?_
              refine stepp ha 48 (.int .i64 (IntKind.wrap .i64 (Int.tmod (bt a0 1) 32))) KR KR ?_; clear ha a; intro a ha
              refine stepp ha 49 (.bool ((IntKind.wrap .i64 (Int.tmod (bt a0 1) 32)) == 1)) KR KR ?_; clear ha a; intro a ha
              refine stepp ha 50 (.bool ((IntKind.wrap .i64 (Int.tmod (bt a0 1) 32)) == 1)) KR KR ?_; clear ha a; intro a ha
              by_cases hp2292 : (IntKind.wrap .i64 (Int.tmod (bt a0 1) 32)) = 1
              · skip
                replace h := ite_pos' h hp2292
                replace ha := ha.bool 50 KR (ieq_t hp2292)
                refine stepo ha 51 KR ?_; clear ha a; intro a ha
                refine stepo ha 52 KR ?_; clear ha a; intro a ha
                refine stepp ha 53 (.bool true) KR KR ?_; clear ha a; intro a ha
                refine stepp ha 54 (.bool true) KR KR ?_; clear ha a; intro a ha
                refine stepo ha 55 KR ?_; clear ha a; intro a ha
                refine stepo ha 56 KR ?_; clear ha a; intro a ha
                refine stepp ha 57 (.bool true) KR KR ?_; clear ha a; intro a ha
                refine endl ?_
                exact thenN ⟨true, h, ha.sub (subs_cons KR (subs_cons KR (subs_cons KR (subs_cons KR (subs_nil _))))), HW.pick [1, 0] [] (by decide) (by decide) KR KR⟩
              · skip
                replace h := ite_neg' h hp2292
                replace ha := ha.bool 50 KR (ieq_f hp2292)
                refine stepp ha 51 (.int .i64 (IntKind.wrap .i64 (Int.tmod (bt a0 1) 32))) KR KR ?_; clear ha a; intro a ha
                refine stepp ha 52 (.bool ((IntKind.wrap .i64 (Int.tmod (bt a0 1) 32)) == 2)) KR KR ?_; clear ha a; intro a ha
                refine stepp ha 53 (.bool ((IntKind.wrap .i64 (Int.tmod (bt a0 1) 32)) == 2)) KR KR ?_; clear ha a; intro a ha
                refine stepp ha 54 (.bool ((IntKind.wrap .i64 (Int.tmod (bt a0 1) 32)) == 2)) KR KR ?_; clear ha a; intro a ha
                by_cases hp2293 : (IntKind.wrap .i64 (Int.tmod (bt a0 1) 32)) = 2
                · skip
                  replace h := ite_pos' h hp2293
                  replace ha := ha.bool 54 KR (ieq_t hp2293)
                  refine stepo ha 55 KR ?_; clear ha a; intro a ha
                  refine stepo ha 56 KR ?_; clear ha a; intro a ha
                  refine stepp ha 57 (.bool true) KR KR ?_; clear ha a; intro a ha
                  refine endl ?_
                  exact thenN ⟨true, h, ha.sub (subs_cons KR (subs_cons KR (subs_cons KR (subs_cons KR (subs_nil _))))), HW.pick [1, 0] [] (by decide) (by decide) KR KR⟩
                · skip
                  replace h := ite_neg' h hp2293
                  replace ha := ha.bool 54 KR (ieq_f hp2293)
                  refine stepp ha 55 (.int .i64 (IntKind.wrap .i64 (Int.tmod (bt a0 1) 32))) KR KR ?_; clear ha a; intro a ha
                  refine stepp ha 56 (.bool ((IntKind.wrap .i64 (Int.tmod (bt a0 1) 32)) == 4)) KR KR ?_; clear ha a; intro a ha
                  refine stepp ha 57 (.bool ((IntKind.wrap .i64 (Int.tmod (bt a0 1) 32)) == 4)) KR KR ?_; clear ha a; intro a ha
                  refine endl ?_
                  exact thenN ⟨((IntKind.wrap .i64 (Int.tmod (bt a0 1) 32)) == 4), h, ha.sub (subs_cons KR (subs_cons KR (subs_cons KR (subs_cons KR (subs_nil _))))), HW.pick [1, 0] [] (by decide) (by decide) KR KR⟩
            · skip
              intro a W2295 hJ
              obtain ⟨x2294, h, ha, HW⟩ := hJ
              replace h : headgateref15_reservation.j0 K a0 a1 t2262 x2294 = some r := h
              unfold headgateref15_reservation.j0 at h
              refine hK2291 _ _ ?_; clear hK2291
              by_cases hp2296 : x2294 = true
              · skip
                replace h := ite_pos' h hp2296
                refine condT ha KR KR (t := x2294) (hp2296) ?_
                refine wp_seq_k (fun K2297 hK2298 => ?_)
                refine wp_region_lit ?_
                refine stepp ha 58 (.string a0) KR KR ?_; clear ha a; intro a ha
                refine stepsi ha 59 9 (.tmp 58) (.const (.int .i64 2)) a0 .i64 2 rfl KR KR KR (by decide) (show (2 : Int) < ((a0).size : Int) from hA2272) KR ?_; clear ha a; intro a ha
                refine stepp ha 60 (.int .i64 (IntKind.wrap .i64 (bt a0 2))) KR KR ?_; clear ha a; intro a ha
                obtain ⟨t2299, ht2300, h_⟩ := bind_some' h; clear h; have h := h_; clear h_
                refine stepc ha 61 KR KR (headgateref15_Type.calls (IntKind.wrap .i64 (bt a0 2)) t2299 _ ht2300) ?_; clear ha a; rintro e W2301 ⟨rfl, HX2302⟩
                refine ⟨_, rfl, ?_⟩; intro a ha; replace HW := HW.callw HX2302; clear HX2302
                refine stepp ha 62 (.pointer (some ⟨b2226, 6, none⟩)) KR KR ?_; clear ha a; intro a ha
                refine stepst ha HW 0 (b := b2226) (C := #[.int .i64 (IntKind.wrap .i64 ((IntKind.wrap .i64 (256 * (IntKind.wrap .i64 (bt a0 0)))) + (IntKind.wrap .i64 (Int.tmod (bt a0 1) 32)))), .int .i64 a1.f1, .int .i64 a1.f2, .bool a1.f3, .int .i64 a1.f4, .int .i64 t2262, .int .i64 a1.f6]) (T := 43) KR 3 6 (.tmp 62) (.tmp 61) (.int .i64 t2299) #[.int .i64 (IntKind.wrap .i64 ((IntKind.wrap .i64 (256 * (IntKind.wrap .i64 (bt a0 0)))) + (IntKind.wrap .i64 (Int.tmod (bt a0 1) 32)))), .int .i64 a1.f1, .int .i64 a1.f2, .bool a1.f3, .int .i64 a1.f4, .int .i64 t2262, .int .i64 t2299] rfl KR KR KR KR KR KR KR ?_; clear ha HW a; intro a W2303 HW ha
                refine endl ?_
                refine thenN (hK2298 _ _ ?_); clear hK2298
                refine wp_seq_k (fun K2304 hK2305 => ?_)
                refine wp_region_lit ?_
                refine stepp ha 63 (.pointer (some ⟨b2226, 6, none⟩)) KR KR ?_; clear ha a; intro a ha
                refine stepl ha 64 (HW.ca (i := 0) (b := b2226) (C := #[.int .i64 (IntKind.wrap .i64 ((IntKind.wrap .i64 (256 * (IntKind.wrap .i64 (bt a0 0)))) + (IntKind.wrap .i64 (Int.tmod (bt a0 1) 32)))), .int .i64 a1.f1, .int .i64 a1.f2, .bool a1.f3, .int .i64 a1.f4, .int .i64 t2262, .int .i64 t2299]) (T := 43) (fr := (0, 0)) KR) 3 6 (.tmp 63) (.int .i64 t2299) rfl KR KR KR ?_; clear ha a; intro a ha
                refine stepp ha 65 (.bool (t2299 == 0)) KR KR ?_; clear ha a; intro a ha
                refine endl ?_
                refine thenN (hK2305 _ _ ?_); clear hK2305
                by_cases hp2306 : t2299 = 0
                · skip
                  replace h := ite_pos' h hp2306
                  refine condT ha KR KR (t := (t2299 == 0)) (ieq_t hp2306) ?_
                  refine wp_seq_k (fun K2307 hK2308 => ?_)
                  refine wp_region_lit ?_
                  refine stepp ha 66 (.agg #[.int .i64 0, .int .i64 0, .int .i64 0, .bool false, .int .i64 0, .int .i64 0, .int .i64 0]) KR KR ?_; clear ha a; intro a ha
                  refine stepst ha HW 1 (b := b2228) (C := #[.int .i64 0, .int .i64 0, .int .i64 0, .bool false, .int .i64 0, .int .i64 0, .int .i64 0]) (T := 43) KR 43 0 (.tmp 4) (.tmp 66) (.agg #[.int .i64 0, .int .i64 0, .int .i64 0, .bool false, .int .i64 0, .int .i64 0, .int .i64 0]) #[.int .i64 0, .int .i64 0, .int .i64 0, .bool false, .int .i64 0, .int .i64 0, .int .i64 0] rfl KR KR KR KR KR KR KR ?_; clear ha HW a; intro a W2309 HW ha
                  refine stepp ha 5 (.int .i64 150) KR KR ?_; clear ha a; intro a ha
                  refine endl ?_
                  refine thenN (hK2308 _ _ ?_); clear hK2308
                  refine wp_ret ?_
                  refine thenR ?_
                  obtain rfl := Option.some.inj h
                  exact finv ha _ _ rfl (.cell (ad := ⟨b2228, 0, none⟩) (v := .agg #[.int .i64 0, .int .i64 0, .int .i64 0, .bool false, .int .i64 0, .int .i64 0, .int .i64 0]) KR (run_loadVar_ca0 (HW.ca (i := 1) (b := b2228) (C := #[.int .i64 0, .int .i64 0, .int .i64 0, .bool false, .int .i64 0, .int .i64 0, .int .i64 0]) (T := 43) (fr := (0, 0)) KR) 43 0 (.agg #[.int .i64 0, .int .i64 0, .int .i64 0, .bool false, .int .i64 0, .int .i64 0, .int .i64 0]) KR) (.tmp (v := .int .i64 150) KR .nil)) (.tuple #[.agg #[.int .i64 0, .int .i64 0, .int .i64 0, .bool false, .int .i64 0, .int .i64 0, .int .i64 0], .int .i64 150]) rfl ⟨rfl, HW.pick [] [] (by decide) (by decide) rfl KR⟩
                · skip
                  replace h := ite_neg' h hp2306
                  refine condF ha KR KR (t := (t2299 == 0)) (ieq_f hp2306) ?_
                  refine wp_skip ?_
                  refine thenN (hK2289 _ _ ?_); clear hK2289
                  refine wp_seq_k (fun K2310 hK2311 => ?_)
                  refine wp_region_lit ?_
                  refine stepl ha 67 (HW.ca (i := 0) (b := b2226) (C := #[.int .i64 (IntKind.wrap .i64 ((IntKind.wrap .i64 (256 * (IntKind.wrap .i64 (bt a0 0)))) + (IntKind.wrap .i64 (Int.tmod (bt a0 1) 32)))), .int .i64 a1.f1, .int .i64 a1.f2, .bool a1.f3, .int .i64 a1.f4, .int .i64 t2262, .int .i64 t2299]) (T := 43) (fr := (0, 0)) KR) 43 0 (.tmp 3) (.agg #[.int .i64 (IntKind.wrap .i64 ((IntKind.wrap .i64 (256 * (IntKind.wrap .i64 (bt a0 0)))) + (IntKind.wrap .i64 (Int.tmod (bt a0 1) 32)))), .int .i64 a1.f1, .int .i64 a1.f2, .bool a1.f3, .int .i64 a1.f4, .int .i64 t2262, .int .i64 t2299]) rfl KR KR KR ?_; clear ha a; intro a ha
                  refine stepst ha HW 1 (b := b2228) (C := #[.int .i64 0, .int .i64 0, .int .i64 0, .bool false, .int .i64 0, .int .i64 0, .int .i64 0]) (T := 43) KR 43 0 (.tmp 4) (.tmp 67) (.agg #[.int .i64 (IntKind.wrap .i64 ((IntKind.wrap .i64 (256 * (IntKind.wrap .i64 (bt a0 0)))) + (IntKind.wrap .i64 (Int.tmod (bt a0 1) 32)))), .int .i64 a1.f1, .int .i64 a1.f2, .bool a1.f3, .int .i64 a1.f4, .int .i64 t2262, .int .i64 t2299]) #[.int .i64 (IntKind.wrap .i64 ((IntKind.wrap .i64 (256 * (IntKind.wrap .i64 (bt a0 0)))) + (IntKind.wrap .i64 (Int.tmod (bt a0 1) 32)))), .int .i64 a1.f1, .int .i64 a1.f2, .bool a1.f3, .int .i64 a1.f4, .int .i64 t2262, .int .i64 t2299] rfl KR KR KR KR KR KR KR ?_; clear ha HW a; intro a W2312 HW ha
                  refine stepp ha 5 (.int .i64 0) KR KR ?_; clear ha a; intro a ha
                  refine endl ?_
                  refine thenN (hK2311 _ _ ?_); clear hK2311
                  refine wp_ret ?_
                  obtain rfl := Option.some.inj h
                  exact finv ha _ _ rfl (.cell (ad := ⟨b2228, 0, none⟩) (v := .agg #[.int .i64 (IntKind.wrap .i64 ((IntKind.wrap .i64 (256 * (IntKind.wrap .i64 (bt a0 0)))) + (IntKind.wrap .i64 (Int.tmod (bt a0 1) 32)))), .int .i64 a1.f1, .int .i64 a1.f2, .bool a1.f3, .int .i64 a1.f4, .int .i64 t2262, .int .i64 t2299]) KR (run_loadVar_ca0 (HW.ca (i := 1) (b := b2228) (C := #[.int .i64 (IntKind.wrap .i64 ((IntKind.wrap .i64 (256 * (IntKind.wrap .i64 (bt a0 0)))) + (IntKind.wrap .i64 (Int.tmod (bt a0 1) 32)))), .int .i64 a1.f1, .int .i64 a1.f2, .bool a1.f3, .int .i64 a1.f4, .int .i64 t2262, .int .i64 t2299]) (T := 43) (fr := (0, 0)) KR) 43 0 (.agg #[.int .i64 (IntKind.wrap .i64 ((IntKind.wrap .i64 (256 * (IntKind.wrap .i64 (bt a0 0)))) + (IntKind.wrap .i64 (Int.tmod (bt a0 1) 32)))), .int .i64 a1.f1, .int .i64 a1.f2, .bool a1.f3, .int .i64 a1.f4, .int .i64 t2262, .int .i64 t2299]) KR) (.tmp (v := .int .i64 0) KR .nil)) (.tuple #[.agg #[.int .i64 (IntKind.wrap .i64 ((IntKind.wrap .i64 (256 * (IntKind.wrap .i64 (bt a0 0)))) + (IntKind.wrap .i64 (Int.tmod (bt a0 1) 32)))), .int .i64 a1.f1, .int .i64 a1.f2, .bool a1.f3, .int .i64 a1.f4, .int .i64 t2262, .int .i64 t2299], .int .i64 0]) rfl ⟨rfl, HW.pick [] [] (by decide) (by decide) rfl KR⟩
              · skip
                replace h := ite_neg' h hp2296
                refine condF ha KR KR (t := x2294) (bool_f hp2296) ?_
                refine wp_skip ?_
                refine thenN (hK2289 _ _ ?_); clear hK2289
                refine wp_seq_k (fun K2313 hK2314 => ?_)
                refine wp_region_lit ?_
                refine stepl ha 67 (HW.ca (i := 0) (b := b2226) (C := #[.int .i64 (IntKind.wrap .i64 ((IntKind.wrap .i64 (256 * (IntKind.wrap .i64 (bt a0 0)))) + (IntKind.wrap .i64 (Int.tmod (bt a0 1) 32)))), .int .i64 a1.f1, .int .i64 a1.f2, .bool a1.f3, .int .i64 a1.f4, .int .i64 t2262, .int .i64 a1.f6]) (T := 43) (fr := (0, 0)) KR) 43 0 (.tmp 3) (.agg #[.int .i64 (IntKind.wrap .i64 ((IntKind.wrap .i64 (256 * (IntKind.wrap .i64 (bt a0 0)))) + (IntKind.wrap .i64 (Int.tmod (bt a0 1) 32)))), .int .i64 a1.f1, .int .i64 a1.f2, .bool a1.f3, .int .i64 a1.f4, .int .i64 t2262, .int .i64 a1.f6]) rfl KR KR KR ?_; clear ha a; intro a ha
                refine stepst ha HW 1 (b := b2228) (C := #[.int .i64 0, .int .i64 0, .int .i64 0, .bool false, .int .i64 0, .int .i64 0, .int .i64 0]) (T := 43) KR 43 0 (.tmp 4) (.tmp 67) (.agg #[.int .i64 (IntKind.wrap .i64 ((IntKind.wrap .i64 (256 * (IntKind.wrap .i64 (bt a0 0)))) + (IntKind.wrap .i64 (Int.tmod (bt a0 1) 32)))), .int .i64 a1.f1, .int .i64 a1.f2, .bool a1.f3, .int .i64 a1.f4, .int .i64 t2262, .int .i64 a1.f6]) #[.int .i64 (IntKind.wrap .i64 ((IntKind.wrap .i64 (256 * (IntKind.wrap .i64 (bt a0 0)))) + (IntKind.wrap .i64 (Int.tmod (bt a0 1) 32)))), .int .i64 a1.f1, .int .i64 a1.f2, .bool a1.f3, .int .i64 a1.f4, .int .i64 t2262, .int .i64 a1.f6] rfl KR KR KR KR KR KR KR ?_; clear ha HW a; intro a W2315 HW ha
                refine stepp ha 5 (.int .i64 0) KR KR ?_; clear ha a; intro a ha
                refine endl ?_
                refine thenN (hK2314 _ _ ?_); clear hK2314
                refine wp_ret ?_
                obtain rfl := Option.some.inj h
                exact finv ha _ _ rfl (.cell (ad := ⟨b2228, 0, none⟩) (v := .agg #[.int .i64 (IntKind.wrap .i64 ((IntKind.wrap .i64 (256 * (IntKind.wrap .i64 (bt a0 0)))) + (IntKind.wrap .i64 (Int.tmod (bt a0 1) 32)))), .int .i64 a1.f1, .int .i64 a1.f2, .bool a1.f3, .int .i64 a1.f4, .int .i64 t2262, .int .i64 a1.f6]) KR (run_loadVar_ca0 (HW.ca (i := 1) (b := b2228) (C := #[.int .i64 (IntKind.wrap .i64 ((IntKind.wrap .i64 (256 * (IntKind.wrap .i64 (bt a0 0)))) + (IntKind.wrap .i64 (Int.tmod (bt a0 1) 32)))), .int .i64 a1.f1, .int .i64 a1.f2, .bool a1.f3, .int .i64 a1.f4, .int .i64 t2262, .int .i64 a1.f6]) (T := 43) (fr := (0, 0)) KR) 43 0 (.agg #[.int .i64 (IntKind.wrap .i64 ((IntKind.wrap .i64 (256 * (IntKind.wrap .i64 (bt a0 0)))) + (IntKind.wrap .i64 (Int.tmod (bt a0 1) 32)))), .int .i64 a1.f1, .int .i64 a1.f2, .bool a1.f3, .int .i64 a1.f4, .int .i64 t2262, .int .i64 a1.f6]) KR) (.tmp (v := .int .i64 0) KR .nil)) (.tuple #[.agg #[.int .i64 (IntKind.wrap .i64 ((IntKind.wrap .i64 (256 * (IntKind.wrap .i64 (bt a0 0)))) + (IntKind.wrap .i64 (Int.tmod (bt a0 1) 32)))), .int .i64 a1.f1, .int .i64 a1.f2, .bool a1.f3, .int .i64 a1.f4, .int .i64 t2262, .int .i64 a1.f6], .int .i64 0]) rfl ⟨rfl, HW.pick [] [] (by decide) (by decide) rfl KR⟩
    · skip
      replace h := ite_neg' h hp2271
      replace ha := ha.bool 34 KR (ineq_t hp2271)
      refine stepo ha 35 KR ?_; clear ha a; intro a ha
      refine stepo ha 36 KR ?_; clear ha a; intro a ha
      refine stepo ha 37 KR ?_; clear ha a; intro a ha
      refine stepp ha 38 (.bool true) KR KR ?_; clear ha a; intro a ha
      refine stepp ha 39 (.bool true) KR KR ?_; clear ha a; intro a ha
      refine stepo ha 40 KR ?_; clear ha a; intro a ha
      refine stepo ha 41 KR ?_; clear ha a; intro a ha
      refine stepp ha 42 (.bool true) KR KR ?_; clear ha a; intro a ha
      refine stepp ha 43 (.bool true) KR KR ?_; clear ha a; intro a ha
      refine stepo ha 44 KR ?_; clear ha a; intro a ha
      refine stepo ha 45 KR ?_; clear ha a; intro a ha
      refine stepp ha 46 (.bool true) KR KR ?_; clear ha a; intro a ha
      refine endl ?_
      refine thenN (hK2270 _ _ ?_); clear hK2270
      refine condT ha KR KR (t := true) (rfl) ?_
      refine wp_seq_k (fun K2285 hK2286 => ?_)
      refine wp_region_lit ?_
      refine stepp ha 47 (.agg #[.int .i64 0, .int .i64 0, .int .i64 0, .bool false, .int .i64 0, .int .i64 0, .int .i64 0]) KR KR ?_; clear ha a; intro a ha
      refine stepst ha HW 0 (b := b2228) (C := #[.int .i64 0, .int .i64 0, .int .i64 0, .bool false, .int .i64 0, .int .i64 0, .int .i64 0]) (T := 43) KR 43 0 (.tmp 4) (.tmp 47) (.agg #[.int .i64 0, .int .i64 0, .int .i64 0, .bool false, .int .i64 0, .int .i64 0, .int .i64 0]) #[.int .i64 0, .int .i64 0, .int .i64 0, .bool false, .int .i64 0, .int .i64 0, .int .i64 0] rfl KR KR KR KR KR KR KR ?_; clear ha HW a; intro a W2287 HW ha
      refine stepp ha 5 (.int .i64 150) KR KR ?_; clear ha a; intro a ha
      refine endl ?_
      refine thenN (hK2286 _ _ ?_); clear hK2286
      refine wp_ret ?_
      refine thenR ?_
      obtain rfl := Option.some.inj h
      exact finv ha _ _ rfl (.cell (ad := ⟨b2228, 0, none⟩) (v := .agg #[.int .i64 0, .int .i64 0, .int .i64 0, .bool false, .int .i64 0, .int .i64 0, .int .i64 0]) KR (run_loadVar_ca0 (HW.ca (i := 0) (b := b2228) (C := #[.int .i64 0, .int .i64 0, .int .i64 0, .bool false, .int .i64 0, .int .i64 0, .int .i64 0]) (T := 43) (fr := (0, 0)) KR) 43 0 (.agg #[.int .i64 0, .int .i64 0, .int .i64 0, .bool false, .int .i64 0, .int .i64 0, .int .i64 0]) KR) (.tmp (v := .int .i64 150) KR .nil)) (.tuple #[.agg #[.int .i64 0, .int .i64 0, .int .i64 0, .bool false, .int .i64 0, .int .i64 0, .int .i64 0], .int .i64 150]) rfl ⟨rfl, HW.pick [] [] (by decide) (by decide) rfl KR⟩
end Go.Proofs.YtpjcipadjegmlaaDoor.F
