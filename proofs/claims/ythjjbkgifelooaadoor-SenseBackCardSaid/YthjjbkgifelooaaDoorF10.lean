/- headgate/headgatelaw16.SenseBack: plain functions, and that the calls come to what they say. No condition. -/
import Derived.Test.YthjjbkgifelooaaDoorFT
import Derived.Test.YthjjbkgifelooaaDoorF37
import Derived.Test.YthjjbkgifelooaaDoorF39
import Derived.Test.YthjjbkgifelooaaDoorF64
namespace Go.Proofs.YthjjbkgifelooaaDoor.F
open Go Go.RowKit Go.Proofs.YthjjbkgifelooaaDoor.X
set_option linter.unusedVariables false
set_option linter.unusedSimpArgs false
/-! ### headgate/headgatelaw16.SenseBack: function 10 -/
def headgatelaw16_SenseBack.j0 (K : Nat) (a1 : ByteArray) : Option Bool :=
  (sense_Parse.f K a1).bind fun t6068 => (if t6068.2 = 0 then ((sense_Bytes.f K (⟨t6068.1.f0, t6068.1.f1, t6068.1.f2, t6068.1.f3⟩ : T_api_Sense)).bind fun t6089 => (if t6089.2 = 0 then (if t6089.1 = a1 then ((headgatelaw16_wakes.f K).bind fun t6097 => (some t6097)) else (some false)) else (some false))) else (if t6068.2 = 160 then ((headgatelaw16_wakes.f K).bind fun t6083 => (some t6083)) else (some false)))
def headgatelaw16_SenseBack.f (K : Nat) (a0 : T_api_Sense) (a1 : ByteArray) : Option Bool :=
  if (a1.size : Int) > 5000 then ((headgatelaw16_wakes.f K).bind fun t6029 => (some t6029)) else ((sense_Bytes.f K a0).bind fun t6035 => (if t6035.2 = 0 then ((sense_Parse.f K t6035.1).bind fun t6046 => (if t6046.2 = 0 then ((headgatekeep_Senses.f a0 (⟨t6046.1.f0, t6046.1.f1, t6046.1.f2, t6046.1.f3⟩ : T_api_Sense)).bind fun t6056 => (if t6056 = true then (headgatelaw16_SenseBack.j0 K a1) else (some false))) else (some false))) else (headgatelaw16_SenseBack.j0 K a1)))
set_option maxRecDepth 100000 in
set_option maxHeartbeats 4000000 in
theorem headgatelaw16_SenseBack.calls (K : Nat) (a0 : T_api_Sense) (a1 : ByteArray)  (r : Bool) (w : World) (hG3 : CA w 3 0 (encs T_sense_row.enc G_sense_rows).toArray) (h : headgatelaw16_SenseBack.f K a0 a1 = some r) :
    Calls Tryd.prog 10 #[.agg #[.int .i64 a0.f0, .int .i64 a0.f1, .int .i64 a0.f2, .int .i64 a0.f3], .string a1] w (fun e W' => e = .returned (.bool r) ∧ Wd w W' [] [] ) := by
  refine sxstart (n := 64) (l := [(0, .agg #[.int .i64 a0.f0, .int .i64 a0.f1, .int .i64 a0.f2, .int .i64 a0.f3]), (1, .string a1)]) Tryd.func10 rfl rfl (Nat.le_of_ble_eq_true KR) (subsA_cons rfl (subsA_cons rfl (subsA_nil _))) ?_
  intro a ha
  have HW := Wd.refl w
  unfold headgatelaw16_SenseBack.f at h
  refine wp_seq_k (fun K6018 hK6019 => ?_)
  refine wp_region_lit ?_
  refine stepnew ha HW 2 #[.int .i64 a0.f0, .int .i64 a0.f1, .int .i64 a0.f2, .int .i64 a0.f3] 66 KR KR ?_; clear ha HW a; intro b6020 a W6021 HW ha
  refine stepp ha 4 (.bool false) KR KR ?_; clear ha a; intro a ha
  refine endl ?_
  refine thenN (hK6019 _ _ ?_); clear hK6019
  refine wp_seq_k (fun K6022 hK6023 => ?_)
  refine wp_seq_k (fun K6024 hK6025 => ?_)
  refine wp_region_lit ?_
  refine stepp ha 13 (.string a1) KR KR ?_; clear ha a; intro a ha
  refine stepp ha 14 (.int .i64 (a1.size : Int)) KR KR ?_; clear ha a; intro a ha
  refine stepp ha 15 (.bool (decide ((a1.size : Int) > 5000))) KR KR ?_; clear ha a; intro a ha
  refine endl ?_
  refine thenN (hK6025 _ _ ?_); clear hK6025
  by_cases hp6026 : (a1.size : Int) > 5000
  · skip
    replace h := ite_pos' h hp6026
    refine condT ha KR KR (t := decide ((a1.size : Int) > 5000)) (decide_eq_true hp6026) ?_
    refine wp_seq_k (fun K6027 hK6028 => ?_)
    refine wp_region_lit ?_
    obtain ⟨t6029, ht6030, h_⟩ := bind_some' h; clear h; have h := h_; clear h_
    refine stepc ha 16 KR KR (headgatelaw16_wakes.calls K t6029 _ (HW.ca0 hG3) ht6030) ?_; clear ha a; rintro e W6031 ⟨rfl, HX6032⟩
    refine ⟨_, rfl, ?_⟩; intro a ha; replace HW := HW.callw HX6032; clear HX6032
    refine stepp ha 4 (.bool t6029) KR KR ?_; clear ha a; intro a ha
    refine endl ?_
    refine thenN (hK6028 _ _ ?_); clear hK6028
    refine wp_ret ?_
    refine thenR ?_
    obtain rfl := Option.some.inj h
    exact finv ha _ _ rfl (.tmp (v := .bool t6029) KR .nil) (.bool t6029) rfl ⟨rfl, HW.pick [] [] (by decide) (by decide) rfl KR⟩
  · skip
    replace h := ite_neg' h hp6026
    refine condF ha KR KR (t := decide ((a1.size : Int) > 5000)) (decide_eq_false hp6026) ?_
    refine wp_skip ?_
    refine thenN (hK6023 _ _ ?_); clear hK6023
    refine wp_seq_k (fun K6033 hK6034 => ?_)
    refine wp_region_lit ?_
    refine stepl ha 18 (HW.ca (i := 0) (b := b6020) (C := #[.int .i64 a0.f0, .int .i64 a0.f1, .int .i64 a0.f2, .int .i64 a0.f3]) (T := 66) (fr := (0, 0)) KR) 66 0 (.tmp 2) (.agg #[.int .i64 a0.f0, .int .i64 a0.f1, .int .i64 a0.f2, .int .i64 a0.f3]) rfl KR KR KR ?_; clear ha a; intro a ha
    obtain ⟨t6035, ht6036, h_⟩ := bind_some' h; clear h; have h := h_; clear h_
    refine stepc ha 19 KR KR (sense_Bytes.calls K a0 t6035 _ ht6036) ?_; clear ha a; rintro e W6037 ⟨rfl, HX6038⟩
    refine ⟨_, rfl, ?_⟩; intro a ha; replace HW := HW.callw HX6038; clear HX6038
    refine stepp ha 17 (.tuple #[.string t6035.1, .int .i64 t6035.2]) KR KR ?_; clear ha a; intro a ha
    refine stepp ha 20 (.string t6035.1) KR KR ?_; clear ha a; intro a ha
    refine stepp ha 21 (.int .i64 t6035.2) KR KR ?_; clear ha a; intro a ha
    refine stepp ha 5 (.string t6035.1) KR KR ?_; clear ha a; intro a ha
    refine stepp ha 6 (.int .i64 t6035.2) KR KR ?_; clear ha a; intro a ha
    refine endl ?_
    refine thenN (hK6034 _ _ ?_); clear hK6034
    refine wp_seq_k (fun K6039 hK6040 => ?_)
    refine cutn (fun a W6065 => headgatelaw16_SenseBack.j0 K a1 = some r ∧ Has 64 [(1, .string a1)] a ∧ Wd w W6065 [] []) ?_ ?_
    · skip
      refine wp_seq_k (fun K6041 hK6042 => ?_)
      refine wp_region_lit ?_
      refine stepp ha 22 (.int .i64 t6035.2) KR KR ?_; clear ha a; intro a ha
      refine stepp ha 23 (.bool (t6035.2 == 0)) KR KR ?_; clear ha a; intro a ha
      refine endl ?_
      refine thenN (hK6042 _ _ ?_); clear hK6042
      by_cases hp6043 : t6035.2 = 0
      · skip
        replace h := ite_pos' h hp6043
        refine condT ha KR KR (t := (t6035.2 == 0)) (ieq_t hp6043) ?_
        refine wp_seq_k (fun K6044 hK6045 => ?_)
        refine wp_region_lit ?_
        refine stepp ha 25 (.string t6035.1) KR KR ?_; clear ha a; intro a ha
        obtain ⟨t6046, ht6047, h_⟩ := bind_some' h; clear h; have h := h_; clear h_
        refine stepc ha 26 KR KR (sense_Parse.calls K t6035.1 t6046 _ ht6047) ?_; clear ha a; rintro e W6048 ⟨rfl, HX6049⟩
        refine ⟨_, rfl, ?_⟩; intro a ha; replace HW := HW.callw HX6049; clear HX6049
        refine stepp ha 24 (.tuple #[.agg #[.int .i64 t6046.1.f0, .int .i64 t6046.1.f1, .int .i64 t6046.1.f2, .int .i64 t6046.1.f3], .int .i64 t6046.2]) KR KR ?_; clear ha a; intro a ha
        refine stepp ha 27 (.agg #[.int .i64 t6046.1.f0, .int .i64 t6046.1.f1, .int .i64 t6046.1.f2, .int .i64 t6046.1.f3]) KR KR ?_; clear ha a; intro a ha
        refine stepp ha 28 (.int .i64 t6046.2) KR KR ?_; clear ha a; intro a ha
        refine stepnew ha HW 7 #[.int .i64 0, .int .i64 0, .int .i64 0, .int .i64 0] 66 KR KR ?_; clear ha HW a; intro b6050 a W6051 HW ha
        refine stepst ha HW 0 (b := b6050) (C := #[.int .i64 0, .int .i64 0, .int .i64 0, .int .i64 0]) (T := 66) KR 66 0 (.tmp 7) (.tmp 27) (.agg #[.int .i64 t6046.1.f0, .int .i64 t6046.1.f1, .int .i64 t6046.1.f2, .int .i64 t6046.1.f3]) #[.int .i64 t6046.1.f0, .int .i64 t6046.1.f1, .int .i64 t6046.1.f2, .int .i64 t6046.1.f3] rfl KR KR KR KR KR KR KR ?_; clear ha HW a; intro a W6052 HW ha
        refine stepp ha 8 (.int .i64 t6046.2) KR KR ?_; clear ha a; intro a ha
        refine endl ?_
        refine thenN (hK6045 _ _ ?_); clear hK6045
        refine wp_seq_k (fun K6053 hK6054 => ?_)
        refine wp_region_lit ?_
        refine stepp ha 29 (.int .i64 t6046.2) KR KR ?_; clear ha a; intro a ha
        refine stepp ha 30 (.bool (t6046.2 != 0)) KR KR ?_; clear ha a; intro a ha
        refine stepp ha 31 (.bool (t6046.2 != 0)) KR KR ?_; clear ha a; intro a ha
        by_cases hp6055 : t6046.2 = 0
        · skip
          replace h := ite_pos' h hp6055
          replace ha := ha.bool 31 KR (ineq_f hp6055)
          refine stepl ha 32 (HW.ca (i := 1) (b := b6020) (C := #[.int .i64 a0.f0, .int .i64 a0.f1, .int .i64 a0.f2, .int .i64 a0.f3]) (T := 66) (fr := (0, 0)) KR) 66 0 (.tmp 2) (.agg #[.int .i64 a0.f0, .int .i64 a0.f1, .int .i64 a0.f2, .int .i64 a0.f3]) rfl KR KR KR ?_; clear ha a; intro a ha
          refine stepl ha 33 (HW.ca (i := 0) (b := b6050) (C := #[.int .i64 t6046.1.f0, .int .i64 t6046.1.f1, .int .i64 t6046.1.f2, .int .i64 t6046.1.f3]) (T := 66) (fr := (0, 0)) KR) 66 0 (.tmp 7) (.agg #[.int .i64 t6046.1.f0, .int .i64 t6046.1.f1, .int .i64 t6046.1.f2, .int .i64 t6046.1.f3]) rfl KR KR KR ?_; clear ha a; intro a ha
          obtain ⟨t6056, ht6057, h_⟩ := bind_some' h; clear h; have h := h_; clear h_
          refine stepc ha 34 KR KR (headgatekeep_Senses.calls a0 (⟨t6046.1.f0, t6046.1.f1, t6046.1.f2, t6046.1.f3⟩ : T_api_Sense) t6056 _ ht6057) ?_; clear ha a; rintro e W6058 ⟨rfl, HX6059⟩
          refine ⟨_, rfl, ?_⟩; intro a ha; replace HW := HW.callw HX6059; clear HX6059
          refine stepp ha 35 (.bool (!t6056)) KR KR ?_; clear ha a; intro a ha
          refine stepp ha 36 (.bool (!t6056)) KR KR ?_; clear ha a; intro a ha
          refine endl ?_
          refine thenN (hK6054 _ _ ?_); clear hK6054
          by_cases hp6060 : t6056 = true
          · skip
            replace h := ite_pos' h hp6060
            refine condF ha KR KR (t := (!t6056)) (not_f (hp6060)) ?_
            refine wp_skip ?_
            exact thenN ⟨h, ha.sub (subs_cons KR (subs_nil _)), HW.pick [] [] (by decide) (by decide) KR KR⟩
          · skip
            replace h := ite_neg' h hp6060
            refine condT ha KR KR (t := (!t6056)) (not_t (bool_f hp6060)) ?_
            refine wp_seq_k (fun K6061 hK6062 => ?_)
            refine wp_region_lit ?_
            refine stepp ha 4 (.bool false) KR KR ?_; clear ha a; intro a ha
            refine endl ?_
            refine thenN (hK6062 _ _ ?_); clear hK6062
            refine wp_ret ?_
            refine thenR ?_
            obtain rfl := Option.some.inj h
            exact finv ha _ _ rfl (.tmp (v := .bool false) KR .nil) (.bool false) rfl ⟨rfl, HW.pick [] [] (by decide) (by decide) rfl KR⟩
        · skip
          replace h := ite_neg' h hp6055
          replace ha := ha.bool 31 KR (ineq_t hp6055)
          refine stepo ha 32 KR ?_; clear ha a; intro a ha
          refine stepo ha 33 KR ?_; clear ha a; intro a ha
          refine stepo ha 34 KR ?_; clear ha a; intro a ha
          refine stepo ha 35 KR ?_; clear ha a; intro a ha
          refine stepp ha 36 (.bool true) KR KR ?_; clear ha a; intro a ha
          refine endl ?_
          refine thenN (hK6054 _ _ ?_); clear hK6054
          refine condT ha KR KR (t := true) (rfl) ?_
          refine wp_seq_k (fun K6063 hK6064 => ?_)
          refine wp_region_lit ?_
          refine stepp ha 4 (.bool false) KR KR ?_; clear ha a; intro a ha
          refine endl ?_
          refine thenN (hK6064 _ _ ?_); clear hK6064
          refine wp_ret ?_
          refine thenR ?_
          obtain rfl := Option.some.inj h
          exact finv ha _ _ rfl (.tmp (v := .bool false) KR .nil) (.bool false) rfl ⟨rfl, HW.pick [] [] (by decide) (by decide) rfl KR⟩
      · skip
        replace h := ite_neg' h hp6043
        refine condF ha KR KR (t := (t6035.2 == 0)) (ieq_f hp6043) ?_
        refine wp_skip ?_
        exact thenN ⟨h, ha.sub (subs_cons KR (subs_nil _)), HW.pick [] [] (by decide) (by decide) KR KR⟩
    · skip
      intro a W6065 hJ
      obtain ⟨h, ha, HW⟩ := hJ
      replace h : headgatelaw16_SenseBack.j0 K a1 = some r := h
      unfold headgatelaw16_SenseBack.j0 at h
      refine hK6040 _ _ ?_; clear hK6040
      refine wp_seq_k (fun K6066 hK6067 => ?_)
      refine wp_region_lit ?_
      refine stepp ha 38 (.string a1) KR KR ?_; clear ha a; intro a ha
      obtain ⟨t6068, ht6069, h_⟩ := bind_some' h; clear h; have h := h_; clear h_
      refine stepc ha 39 KR KR (sense_Parse.calls K a1 t6068 _ ht6069) ?_; clear ha a; rintro e W6070 ⟨rfl, HX6071⟩
      refine ⟨_, rfl, ?_⟩; intro a ha; replace HW := HW.callw HX6071; clear HX6071
      refine stepp ha 37 (.tuple #[.agg #[.int .i64 t6068.1.f0, .int .i64 t6068.1.f1, .int .i64 t6068.1.f2, .int .i64 t6068.1.f3], .int .i64 t6068.2]) KR KR ?_; clear ha a; intro a ha
      refine stepp ha 40 (.agg #[.int .i64 t6068.1.f0, .int .i64 t6068.1.f1, .int .i64 t6068.1.f2, .int .i64 t6068.1.f3]) KR KR ?_; clear ha a; intro a ha
      refine stepp ha 41 (.int .i64 t6068.2) KR KR ?_; clear ha a; intro a ha
      refine stepnew ha HW 9 #[.int .i64 0, .int .i64 0, .int .i64 0, .int .i64 0] 66 KR KR ?_; clear ha HW a; intro b6072 a W6073 HW ha
      refine stepst ha HW 0 (b := b6072) (C := #[.int .i64 0, .int .i64 0, .int .i64 0, .int .i64 0]) (T := 66) KR 66 0 (.tmp 9) (.tmp 40) (.agg #[.int .i64 t6068.1.f0, .int .i64 t6068.1.f1, .int .i64 t6068.1.f2, .int .i64 t6068.1.f3]) #[.int .i64 t6068.1.f0, .int .i64 t6068.1.f1, .int .i64 t6068.1.f2, .int .i64 t6068.1.f3] rfl KR KR KR KR KR KR KR ?_; clear ha HW a; intro a W6074 HW ha
      refine stepp ha 10 (.int .i64 t6068.2) KR KR ?_; clear ha a; intro a ha
      refine endl ?_
      refine thenN (hK6067 _ _ ?_); clear hK6067
      refine wp_seq_k (fun K6075 hK6076 => ?_)
      refine wp_seq_k (fun K6077 hK6078 => ?_)
      refine wp_region_lit ?_
      refine stepp ha 42 (.int .i64 t6068.2) KR KR ?_; clear ha a; intro a ha
      refine stepp ha 43 (.bool (t6068.2 != 0)) KR KR ?_; clear ha a; intro a ha
      refine endl ?_
      refine thenN (hK6078 _ _ ?_); clear hK6078
      by_cases hp6079 : t6068.2 = 0
      · skip
        replace h := ite_pos' h hp6079
        refine condF ha KR KR (t := (t6068.2 != 0)) (ineq_f hp6079) ?_
        refine wp_skip ?_
        refine thenN (hK6076 _ _ ?_); clear hK6076
        refine wp_seq_k (fun K6087 hK6088 => ?_)
        refine wp_region_lit ?_
        refine stepl ha 50 (HW.ca (i := 0) (b := b6072) (C := #[.int .i64 t6068.1.f0, .int .i64 t6068.1.f1, .int .i64 t6068.1.f2, .int .i64 t6068.1.f3]) (T := 66) (fr := (0, 0)) KR) 66 0 (.tmp 9) (.agg #[.int .i64 t6068.1.f0, .int .i64 t6068.1.f1, .int .i64 t6068.1.f2, .int .i64 t6068.1.f3]) rfl KR KR KR ?_; clear ha a; intro a ha
        obtain ⟨t6089, ht6090, h_⟩ := bind_some' h; clear h; have h := h_; clear h_
        refine stepc ha 51 KR KR (sense_Bytes.calls K (⟨t6068.1.f0, t6068.1.f1, t6068.1.f2, t6068.1.f3⟩ : T_api_Sense) t6089 _ ht6090) ?_; clear ha a; rintro e W6091 ⟨rfl, HX6092⟩
        refine ⟨_, rfl, ?_⟩; intro a ha; replace HW := HW.callw HX6092; clear HX6092
        refine stepp ha 49 (.tuple #[.string t6089.1, .int .i64 t6089.2]) KR KR ?_; clear ha a; intro a ha
        refine stepp ha 52 (.string t6089.1) KR KR ?_; clear ha a; intro a ha
        refine stepp ha 53 (.int .i64 t6089.2) KR KR ?_; clear ha a; intro a ha
        refine stepp ha 11 (.string t6089.1) KR KR ?_; clear ha a; intro a ha
        refine stepp ha 12 (.int .i64 t6089.2) KR KR ?_; clear ha a; intro a ha
        refine endl ?_
        refine thenN (hK6088 _ _ ?_); clear hK6088
        refine wp_seq_k (fun K6093 hK6094 => ?_)
        refine wp_region_lit ?_
        refine stepp ha 54 (.int .i64 t6089.2) KR KR ?_; clear ha a; intro a ha
        refine stepp ha 55 (.bool (t6089.2 == 0)) KR KR ?_; clear ha a; intro a ha
        refine stepp ha 56 (.bool (t6089.2 == 0)) KR KR ?_; clear ha a; intro a ha
        by_cases hp6095 : t6089.2 = 0
        · skip
          replace h := ite_pos' h hp6095
          replace ha := ha.bool 56 KR (ieq_t hp6095)
          refine stepp ha 57 (.string t6089.1) KR KR ?_; clear ha a; intro a ha
          refine stepp ha 58 (.string a1) KR KR ?_; clear ha a; intro a ha
          refine stepp ha 59 (.bool (t6089.1.toList == a1.toList)) KR KR ?_; clear ha a; intro a ha
          refine stepp ha 60 (.bool (t6089.1.toList == a1.toList)) KR KR ?_; clear ha a; intro a ha
          refine stepp ha 61 (.bool (t6089.1.toList == a1.toList)) KR KR ?_; clear ha a; intro a ha
          by_cases hp6096 : t6089.1 = a1
          · skip
            replace h := ite_pos' h hp6096
            replace ha := ha.bool 61 KR (str_eq_t hp6096)
            obtain ⟨t6097, ht6098, h_⟩ := bind_some' h; clear h; have h := h_; clear h_
            refine stepc ha 62 KR KR (headgatelaw16_wakes.calls K t6097 _ (HW.ca0 hG3) ht6098) ?_; clear ha a; rintro e W6099 ⟨rfl, HX6100⟩
            refine ⟨_, rfl, ?_⟩; intro a ha; replace HW := HW.callw HX6100; clear HX6100
            refine stepp ha 63 (.bool t6097) KR KR ?_; clear ha a; intro a ha
            refine stepp ha 4 (.bool t6097) KR KR ?_; clear ha a; intro a ha
            refine endl ?_
            refine thenN (hK6094 _ _ ?_); clear hK6094
            refine wp_ret ?_
            obtain rfl := Option.some.inj h
            exact finv ha _ _ rfl (.tmp (v := .bool t6097) KR .nil) (.bool t6097) rfl ⟨rfl, HW.pick [] [] (by decide) (by decide) rfl KR⟩
          · skip
            replace h := ite_neg' h hp6096
            replace ha := ha.bool 61 KR (str_eq_f hp6096)
            refine stepo ha 62 KR ?_; clear ha a; intro a ha
            refine stepp ha 63 (.bool false) KR KR ?_; clear ha a; intro a ha
            refine stepp ha 4 (.bool false) KR KR ?_; clear ha a; intro a ha
            refine endl ?_
            refine thenN (hK6094 _ _ ?_); clear hK6094
            refine wp_ret ?_
            obtain rfl := Option.some.inj h
            exact finv ha _ _ rfl (.tmp (v := .bool false) KR .nil) (.bool false) rfl ⟨rfl, HW.pick [] [] (by decide) (by decide) rfl KR⟩
        · skip
          replace h := ite_neg' h hp6095
          replace ha := ha.bool 56 KR (ieq_f hp6095)
          refine stepo ha 57 KR ?_; clear ha a; intro a ha
          refine stepo ha 58 KR ?_; clear ha a; intro a ha
          refine stepo ha 59 KR ?_; clear ha a; intro a ha
          refine stepp ha 60 (.bool false) KR KR ?_; clear ha a; intro a ha
          refine stepp ha 61 (.bool false) KR KR ?_; clear ha a; intro a ha
          refine stepo ha 62 KR ?_; clear ha a; intro a ha
          refine stepp ha 63 (.bool false) KR KR ?_; clear ha a; intro a ha
          refine stepp ha 4 (.bool false) KR KR ?_; clear ha a; intro a ha
          refine endl ?_
          refine thenN (hK6094 _ _ ?_); clear hK6094
          refine wp_ret ?_
          obtain rfl := Option.some.inj h
          exact finv ha _ _ rfl (.tmp (v := .bool false) KR .nil) (.bool false) rfl ⟨rfl, HW.pick [] [] (by decide) (by decide) rfl KR⟩
      · skip
        replace h := ite_neg' h hp6079
        refine condT ha KR KR (t := (t6068.2 != 0)) (ineq_t hp6079) ?_
        refine wp_seq_k (fun K6080 hK6081 => ?_)
        refine wp_region_lit ?_
        refine stepp ha 44 (.int .i64 t6068.2) KR KR ?_; clear ha a; intro a ha
        refine stepp ha 45 (.bool (t6068.2 == 160)) KR KR ?_; clear ha a; intro a ha
        refine stepp ha 46 (.bool (t6068.2 == 160)) KR KR ?_; clear ha a; intro a ha
        by_cases hp6082 : t6068.2 = 160
        · skip
          replace h := ite_pos' h hp6082
          replace ha := ha.bool 46 KR (ieq_t hp6082)
          obtain ⟨t6083, ht6084, h_⟩ := bind_some' h; clear h; have h := h_; clear h_
          refine stepc ha 47 KR KR (headgatelaw16_wakes.calls K t6083 _ (HW.ca0 hG3) ht6084) ?_; clear ha a; rintro e W6085 ⟨rfl, HX6086⟩
          refine ⟨_, rfl, ?_⟩; intro a ha; replace HW := HW.callw HX6086; clear HX6086
          refine stepp ha 48 (.bool t6083) KR KR ?_; clear ha a; intro a ha
          refine stepp ha 4 (.bool t6083) KR KR ?_; clear ha a; intro a ha
          refine endl ?_
          refine thenN (hK6081 _ _ ?_); clear hK6081
          refine wp_ret ?_
          refine thenR ?_
          obtain rfl := Option.some.inj h
          exact finv ha _ _ rfl (.tmp (v := .bool t6083) KR .nil) (.bool t6083) rfl ⟨rfl, HW.pick [] [] (by decide) (by decide) rfl KR⟩
        · skip
          replace h := ite_neg' h hp6082
          replace ha := ha.bool 46 KR (ieq_f hp6082)
          refine stepo ha 47 KR ?_; clear ha a; intro a ha
          refine stepp ha 48 (.bool false) KR KR ?_; clear ha a; intro a ha
          refine stepp ha 4 (.bool false) KR KR ?_; clear ha a; intro a ha
          refine endl ?_
          refine thenN (hK6081 _ _ ?_); clear hK6081
          refine wp_ret ?_
          refine thenR ?_
          obtain rfl := Option.some.inj h
          exact finv ha _ _ rfl (.tmp (v := .bool false) KR .nil) (.bool false) rfl ⟨rfl, HW.pick [] [] (by decide) (by decide) rfl KR⟩
end Go.Proofs.YthjjbkgifelooaaDoor.F
