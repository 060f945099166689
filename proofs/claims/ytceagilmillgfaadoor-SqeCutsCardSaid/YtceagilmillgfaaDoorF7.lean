/- headgate/headgatelaw25.SqeCuts: a plain function, and that the call comes to what it says. No condition. -/
import Derived.Test.YtceagilmillgfaaDoorFT
import Derived.Test.YtceagilmillgfaaDoorF13
import Derived.Test.YtceagilmillgfaaDoorF15
import Derived.Test.YtceagilmillgfaaDoorF17
import Derived.Test.YtceagilmillgfaaDoorF24
import Derived.Test.YtceagilmillgfaaDoorF26
namespace Go.Proofs.YtceagilmillgfaaDoor.F
open Go Go.RowKit Go.Proofs.YtceagilmillgfaaDoor.X
set_option linter.unusedVariables false
set_option linter.unusedSimpArgs false
/-! ### headgate/headgatelaw25.SqeCuts: function 7 -/
def headgatelaw25_SqeCuts.j1 (K : Nat) (a2 : Int) (t3148 : ByteArray × Int) : Option Bool :=
  if t3148.2 = 0 then (asrt (¬ (IntKind.wrap .u64 (t3148.1.size : Int)) = 0) (asrt (0 ≤ (IntKind.wrap .i64 (Int.tmod (IntKind.wrap .u64 a2) (IntKind.wrap .u64 (t3148.1.size : Int))))) (asrt ((IntKind.wrap .i64 (Int.tmod (IntKind.wrap .u64 a2) (IntKind.wrap .u64 (t3148.1.size : Int)))) ≤ (t3148.1.size : Int)) ((sqe_Ended.f K (t3148.1.extract 0 (IntKind.wrap .i64 (Int.tmod (IntKind.wrap .u64 a2) (IntKind.wrap .u64 (t3148.1.size : Int))) : Int).toNat)).bind fun t3219 => (asrt (t3148.1.size + 1 ≤ 9223372036854775807) ((sqe_Ended.f K (t3148.1 ++ (⟨#[0]⟩ : ByteArray))).bind fun t3229 => (if t3219.2 = 250 then (if t3229.2 = 250 then ((headgatelaw25_wakes.f K).bind fun t3246 => (some t3246)) else (some false)) else (some false)))))))) else ((headgatelaw25_wakes.f K).bind fun t3252 => (some t3252))
def headgatelaw25_SqeCuts.j0 (K : Nat) (a2 : Int) (t3142 : ByteArray × Int) (t3148 : ByteArray × Int) : Option Bool :=
  if t3142.2 = 0 then (asrt (¬ (IntKind.wrap .u64 (t3142.1.size : Int)) = 0) (asrt (0 ≤ (IntKind.wrap .i64 (Int.tmod (IntKind.wrap .u64 a2) (IntKind.wrap .u64 (t3142.1.size : Int))))) (asrt ((IntKind.wrap .i64 (Int.tmod (IntKind.wrap .u64 a2) (IntKind.wrap .u64 (t3142.1.size : Int)))) ≤ (t3142.1.size : Int)) ((sqe_Get.f K (t3142.1.extract 0 (IntKind.wrap .i64 (Int.tmod (IntKind.wrap .u64 a2) (IntKind.wrap .u64 (t3142.1.size : Int))) : Int).toNat)).bind fun t3181 => (asrt (t3142.1.size + 1 ≤ 9223372036854775807) ((sqe_Get.f K (t3142.1 ++ (⟨#[0]⟩ : ByteArray))).bind fun t3191 => (if t3181.2.2 = 250 then (if t3191.2.2 = 250 then (headgatelaw25_SqeCuts.j1 K a2 t3148) else (some false)) else (some false)))))))) else (headgatelaw25_SqeCuts.j1 K a2 t3148)
def headgatelaw25_SqeCuts.f (K : Nat) (a0 : T_api_Sqe) (a1 : T_api_Cqe) (a2 : Int) : Option Bool :=
  (sqe_Put.f K (⟨a0.f0, a0.f1, a0.f2, a0.f3, a0.f4, (⟨a0.f5.f0, a0.f5.f1, a0.f5.f2, a0.f5.f3, a0.f5.f4, a0.f5.f5⟩ : T_arr6_22)⟩ : T_api_Sqe) ((Int.tmod a2 2) == 0)).bind fun t3142 => ((sqe_End.f K a1).bind fun t3148 => (if t3142.2 = 0 then (if t3142.1 = (⟨#[]⟩ : ByteArray) then (some false) else (if t3148.2 = 0 then (if t3148.1 = (⟨#[]⟩ : ByteArray) then (some false) else (headgatelaw25_SqeCuts.j0 K a2 t3142 t3148)) else (headgatelaw25_SqeCuts.j0 K a2 t3142 t3148))) else (if t3148.2 = 0 then (if t3148.1 = (⟨#[]⟩ : ByteArray) then (some false) else (headgatelaw25_SqeCuts.j0 K a2 t3142 t3148)) else (headgatelaw25_SqeCuts.j0 K a2 t3142 t3148))))
set_option maxRecDepth 100000 in
set_option maxHeartbeats 4000000 in
theorem headgatelaw25_SqeCuts.calls (K : Nat) (a0 : T_api_Sqe) (a1 : T_api_Cqe) (a2 : Int)  (r : Bool) (w : World) (hG1 : CA w 1 0 (encs T_sqe_field.enc G_sqe_endsOf).toArray) (hG2 : CA w 2 0 (encs T_sqe_field.enc G_sqe_fieldsOf).toArray) (h : headgatelaw25_SqeCuts.f K a0 a1 a2 = some r) :
    Calls Tryd.prog 7 #[.agg #[.int .i64 a0.f0, .int .i64 a0.f1, .int .i64 a0.f2, .int .u32 a0.f3, .int .i64 a0.f4, .int .u32 a0.f5.f0, .int .u32 a0.f5.f1, .int .u32 a0.f5.f2, .int .u32 a0.f5.f3, .int .u32 a0.f5.f4, .int .u32 a0.f5.f5], .agg #[.int .u32 a1.f0, .int .u32 a1.f1, .int .i64 a1.f2, .int .i64 a1.f3, .int .i64 a1.f4, .int .i64 a1.f5], .int .i64 a2] w (fun e W' => e = .returned (.bool r) ∧ Wd w W' [] [] ) := by
  refine sxstart (n := 109) (l := [(0, .agg #[.int .i64 a0.f0, .int .i64 a0.f1, .int .i64 a0.f2, .int .u32 a0.f3, .int .i64 a0.f4, .int .u32 a0.f5.f0, .int .u32 a0.f5.f1, .int .u32 a0.f5.f2, .int .u32 a0.f5.f3, .int .u32 a0.f5.f4, .int .u32 a0.f5.f5]), (1, .agg #[.int .u32 a1.f0, .int .u32 a1.f1, .int .i64 a1.f2, .int .i64 a1.f3, .int .i64 a1.f4, .int .i64 a1.f5]), (2, .int .i64 a2)]) Tryd.func7 rfl rfl (Nat.le_of_ble_eq_true (by kernel_rfl)) (subsA_cons rfl (subsA_cons rfl (subsA_cons rfl (subsA_nil _)))) ?_
  intro a ha
  have HW := Wd.refl w
  unfold headgatelaw25_SqeCuts.f at h
  refine wp_seq_k (fun K3134 hK3135 => ?_)
  refine wp_region_lit ?_
  refine stepnew ha HW 3 #[.int .i64 a0.f0, .int .i64 a0.f1, .int .i64 a0.f2, .int .u32 a0.f3, .int .i64 a0.f4, .int .u32 a0.f5.f0, .int .u32 a0.f5.f1, .int .u32 a0.f5.f2, .int .u32 a0.f5.f3, .int .u32 a0.f5.f4, .int .u32 a0.f5.f5] 25 (by kernel_rfl) (by kernel_rfl) ?_; clear ha HW a; intro b3136 a W3137 HW ha
  refine stepnew ha HW 4 #[.int .u32 a1.f0, .int .u32 a1.f1, .int .i64 a1.f2, .int .i64 a1.f3, .int .i64 a1.f4, .int .i64 a1.f5] 27 (by kernel_rfl) (by kernel_rfl) ?_; clear ha HW a; intro b3138 a W3139 HW ha
  refine stepp ha 6 (.bool false) (by kernel_rfl) (by kernel_rfl) ?_; clear ha a; intro a ha
  refine endl ?_
  refine thenN (hK3135 _ _ ?_); clear hK3135
  refine wp_seq_k (fun K3140 hK3141 => ?_)
  refine wp_region_lit ?_
  refine stepl ha 24 (HW.ca (i := 1) (b := b3136) (C := #[.int .i64 a0.f0, .int .i64 a0.f1, .int .i64 a0.f2, .int .u32 a0.f3, .int .i64 a0.f4, .int .u32 a0.f5.f0, .int .u32 a0.f5.f1, .int .u32 a0.f5.f2, .int .u32 a0.f5.f3, .int .u32 a0.f5.f4, .int .u32 a0.f5.f5]) (T := 25) (fr := (0, 0)) (by kernel_rfl)) 25 0 (.tmp 3) (.agg #[.int .i64 a0.f0, .int .i64 a0.f1, .int .i64 a0.f2, .int .u32 a0.f3, .int .i64 a0.f4, .int .u32 a0.f5.f0, .int .u32 a0.f5.f1, .int .u32 a0.f5.f2, .int .u32 a0.f5.f3, .int .u32 a0.f5.f4, .int .u32 a0.f5.f5]) rfl (by kernel_rfl) (by kernel_rfl) (by kernel_rfl) ?_; clear ha a; intro a ha
  refine stepp ha 25 (.int .i64 a2) (by kernel_rfl) (by kernel_rfl) ?_; clear ha a; intro a ha
  refine stepp ha 26 (.int .i64 (Int.tmod a2 2)) (by kernel_rfl) (by kernel_rfl) ?_; clear ha a; intro a ha
  refine stepp ha 27 (.bool ((Int.tmod a2 2) == 0)) (by kernel_rfl) (by kernel_rfl) ?_; clear ha a; intro a ha
  obtain ⟨t3142, ht3143, h_⟩ := bind_some' h; clear h; have h := h_; clear h_
  refine stepc ha 28 (by kernel_rfl) (by kernel_rfl) (sqe_Put.calls K (⟨a0.f0, a0.f1, a0.f2, a0.f3, a0.f4, (⟨a0.f5.f0, a0.f5.f1, a0.f5.f2, a0.f5.f3, a0.f5.f4, a0.f5.f5⟩ : T_arr6_22)⟩ : T_api_Sqe) ((Int.tmod a2 2) == 0) t3142 _ (HW.ca0 hG1) (HW.ca0 hG2) ht3143) ?_; clear ha a; rintro e W3144 ⟨rfl, HX3145⟩
  refine ⟨_, rfl, ?_⟩; intro a ha; replace HW := HW.callw HX3145; clear HX3145
  refine stepp ha 23 (.tuple #[.string t3142.1, .int .i64 t3142.2]) (by kernel_rfl) (by kernel_rfl) ?_; clear ha a; intro a ha
  refine stepp ha 29 (.string t3142.1) (by kernel_rfl) (by kernel_rfl) ?_; clear ha a; intro a ha
  refine stepp ha 30 (.int .i64 t3142.2) (by kernel_rfl) (by kernel_rfl) ?_; clear ha a; intro a ha
  refine stepp ha 7 (.string t3142.1) (by kernel_rfl) (by kernel_rfl) ?_; clear ha a; intro a ha
  refine stepp ha 8 (.int .i64 t3142.2) (by kernel_rfl) (by kernel_rfl) ?_; clear ha a; intro a ha
  refine endl ?_
  refine thenN (hK3141 _ _ ?_); clear hK3141
  refine wp_seq_k (fun K3146 hK3147 => ?_)
  refine wp_region_lit ?_
  refine stepl ha 32 (HW.ca (i := 0) (b := b3138) (C := #[.int .u32 a1.f0, .int .u32 a1.f1, .int .i64 a1.f2, .int .i64 a1.f3, .int .i64 a1.f4, .int .i64 a1.f5]) (T := 27) (fr := (0, 0)) (by kernel_rfl)) 27 0 (.tmp 4) (.agg #[.int .u32 a1.f0, .int .u32 a1.f1, .int .i64 a1.f2, .int .i64 a1.f3, .int .i64 a1.f4, .int .i64 a1.f5]) rfl (by kernel_rfl) (by kernel_rfl) (by kernel_rfl) ?_; clear ha a; intro a ha
  obtain ⟨t3148, ht3149, h_⟩ := bind_some' h; clear h; have h := h_; clear h_
  refine stepc ha 33 (by kernel_rfl) (by kernel_rfl) (sqe_End.calls K a1 t3148 _ (HW.ca0 hG1) (HW.ca0 hG2) ht3149) ?_; clear ha a; rintro e W3150 ⟨rfl, HX3151⟩
  refine ⟨_, rfl, ?_⟩; intro a ha; replace HW := HW.callw HX3151; clear HX3151
  refine stepp ha 31 (.tuple #[.string t3148.1, .int .i64 t3148.2]) (by kernel_rfl) (by kernel_rfl) ?_; clear ha a; intro a ha
  refine stepp ha 34 (.string t3148.1) (by kernel_rfl) (by kernel_rfl) ?_; clear ha a; intro a ha
  refine stepp ha 35 (.int .i64 t3148.2) (by kernel_rfl) (by kernel_rfl) ?_; clear ha a; intro a ha
  refine stepp ha 9 (.string t3148.1) (by kernel_rfl) (by kernel_rfl) ?_; clear ha a; intro a ha
  refine stepp ha 10 (.int .i64 t3148.2) (by kernel_rfl) (by kernel_rfl) ?_; clear ha a; intro a ha
  refine endl ?_
  refine thenN (hK3147 _ _ ?_); clear hK3147
  refine wp_seq_k (fun K3152 hK3153 => ?_)
  refine cutn (fun a W3168 => headgatelaw25_SqeCuts.j0 K a2 t3142 t3148 = some r ∧ Has 109 [(2, .int .i64 a2), (7, .string t3142.1), (8, .int .i64 t3142.2), (9, .string t3148.1), (10, .int .i64 t3148.2)] a ∧ Wd w W3168 [] []) ?_ ?_
  · skip
    refine wp_seq_k (fun K3154 hK3155 => ?_)
    refine wp_region_lit ?_
    refine stepp ha 36 (.int .i64 t3142.2) (by kernel_rfl) (by kernel_rfl) ?_; clear ha a; intro a ha
    refine stepp ha 37 (.bool (t3142.2 == 0)) (by kernel_rfl) (by kernel_rfl) ?_; clear ha a; intro a ha
    refine stepp ha 38 (.bool (t3142.2 == 0)) (by kernel_rfl) (by kernel_rfl) ?_; clear ha a; intro a ha
    by_cases hp3156 : t3142.2 = 0
    · skip
      replace h := ite_pos' h hp3156
      replace ha := ha.bool 38 (by kernel_rfl) (ieq_t hp3156)
      refine stepp ha 39 (.string t3142.1) (by kernel_rfl) (by kernel_rfl) ?_; clear ha a; intro a ha
      refine stepp ha 40 (.bool (t3142.1.toList == (⟨#[]⟩ : ByteArray).toList)) (by kernel_rfl) (by kernel_rfl) ?_; clear ha a; intro a ha
      refine stepp ha 41 (.bool (t3142.1.toList == (⟨#[]⟩ : ByteArray).toList)) (by kernel_rfl) (by kernel_rfl) ?_; clear ha a; intro a ha
      refine stepp ha 42 (.bool (t3142.1.toList == (⟨#[]⟩ : ByteArray).toList)) (by kernel_rfl) (by kernel_rfl) ?_; clear ha a; intro a ha
      by_cases hp3157 : t3142.1 = (⟨#[]⟩ : ByteArray)
      · skip
        replace h := ite_pos' h hp3157
        replace ha := ha.bool 42 (by kernel_rfl) (str_eq_t hp3157)
        refine stepo ha 43 (by kernel_rfl) ?_; clear ha a; intro a ha
        refine stepo ha 44 (by kernel_rfl) ?_; clear ha a; intro a ha
        refine stepo ha 45 (by kernel_rfl) ?_; clear ha a; intro a ha
        refine stepo ha 46 (by kernel_rfl) ?_; clear ha a; intro a ha
        refine stepo ha 47 (by kernel_rfl) ?_; clear ha a; intro a ha
        refine stepo ha 48 (by kernel_rfl) ?_; clear ha a; intro a ha
        refine stepp ha 49 (.bool true) (by kernel_rfl) (by kernel_rfl) ?_; clear ha a; intro a ha
        refine endl ?_
        refine thenN (hK3155 _ _ ?_); clear hK3155
        refine condT ha (by kernel_rfl) (by kernel_rfl) (t := true) (rfl) ?_
        refine wp_seq_k (fun K3160 hK3161 => ?_)
        refine wp_region_lit ?_
        refine stepp ha 6 (.bool false) (by kernel_rfl) (by kernel_rfl) ?_; clear ha a; intro a ha
        refine endl ?_
        refine thenN (hK3161 _ _ ?_); clear hK3161
        refine wp_ret ?_
        refine thenR ?_
        obtain rfl := Option.some.inj h
        exact finv ha _ _ rfl (.tmp (v := .bool false) (by kernel_rfl) .nil) (.bool false) rfl ⟨rfl, HW.pick [] [] (by decide) (by decide) rfl (by kernel_rfl)⟩
      · skip
        replace h := ite_neg' h hp3157
        replace ha := ha.bool 42 (by kernel_rfl) (str_eq_f hp3157)
        refine stepp ha 43 (.int .i64 t3148.2) (by kernel_rfl) (by kernel_rfl) ?_; clear ha a; intro a ha
        refine stepp ha 44 (.bool (t3148.2 == 0)) (by kernel_rfl) (by kernel_rfl) ?_; clear ha a; intro a ha
        refine stepp ha 45 (.bool (t3148.2 == 0)) (by kernel_rfl) (by kernel_rfl) ?_; clear ha a; intro a ha
        by_cases hp3158 : t3148.2 = 0
        · skip
          replace h := ite_pos' h hp3158
          replace ha := ha.bool 45 (by kernel_rfl) (ieq_t hp3158)
          refine stepp ha 46 (.string t3148.1) (by kernel_rfl) (by kernel_rfl) ?_; clear ha a; intro a ha
          refine stepp ha 47 (.bool (t3148.1.toList == (⟨#[]⟩ : ByteArray).toList)) (by kernel_rfl) (by kernel_rfl) ?_; clear ha a; intro a ha
          refine stepp ha 48 (.bool (t3148.1.toList == (⟨#[]⟩ : ByteArray).toList)) (by kernel_rfl) (by kernel_rfl) ?_; clear ha a; intro a ha
          refine stepp ha 49 (.bool (t3148.1.toList == (⟨#[]⟩ : ByteArray).toList)) (by kernel_rfl) (by kernel_rfl) ?_; clear ha a; intro a ha
          refine endl ?_
          refine thenN (hK3155 _ _ ?_); clear hK3155
          by_cases hp3162 : t3148.1 = (⟨#[]⟩ : ByteArray)
          · skip
            replace h := ite_pos' h hp3162
            refine condT ha (by kernel_rfl) (by kernel_rfl) (t := (t3148.1.toList == (⟨#[]⟩ : ByteArray).toList)) (str_eq_t hp3162) ?_
            refine wp_seq_k (fun K3163 hK3164 => ?_)
            refine wp_region_lit ?_
            refine stepp ha 6 (.bool false) (by kernel_rfl) (by kernel_rfl) ?_; clear ha a; intro a ha
            refine endl ?_
            refine thenN (hK3164 _ _ ?_); clear hK3164
            refine wp_ret ?_
            refine thenR ?_
            obtain rfl := Option.some.inj h
            exact finv ha _ _ rfl (.tmp (v := .bool false) (by kernel_rfl) .nil) (.bool false) rfl ⟨rfl, HW.pick [] [] (by decide) (by decide) rfl (by kernel_rfl)⟩
          · skip
            replace h := ite_neg' h hp3162
            refine condF ha (by kernel_rfl) (by kernel_rfl) (t := (t3148.1.toList == (⟨#[]⟩ : ByteArray).toList)) (str_eq_f hp3162) ?_
            refine wp_skip ?_
            exact thenN ⟨h, ha.sub (subs_cons (by kernel_rfl) (subs_cons (by kernel_rfl) (subs_cons (by kernel_rfl) (subs_cons (by kernel_rfl) (subs_cons (by kernel_rfl) (subs_nil _)))))), HW.pick [] [] (by decide) (by decide) (by kernel_rfl) (by kernel_rfl)⟩
        · skip
          replace h := ite_neg' h hp3158
          replace ha := ha.bool 45 (by kernel_rfl) (ieq_f hp3158)
          refine stepo ha 46 (by kernel_rfl) ?_; clear ha a; intro a ha
          refine stepo ha 47 (by kernel_rfl) ?_; clear ha a; intro a ha
          refine stepp ha 48 (.bool false) (by kernel_rfl) (by kernel_rfl) ?_; clear ha a; intro a ha
          refine stepp ha 49 (.bool false) (by kernel_rfl) (by kernel_rfl) ?_; clear ha a; intro a ha
          refine endl ?_
          refine thenN (hK3155 _ _ ?_); clear hK3155
          refine condF ha (by kernel_rfl) (by kernel_rfl) (t := false) (rfl) ?_
          refine wp_skip ?_
          exact thenN ⟨h, ha.sub (subs_cons (by kernel_rfl) (subs_cons (by kernel_rfl) (subs_cons (by kernel_rfl) (subs_cons (by kernel_rfl) (subs_cons (by kernel_rfl) (subs_nil _)))))), HW.pick [] [] (by decide) (by decide) (by kernel_rfl) (by kernel_rfl)⟩
    · skip
      replace h := ite_neg' h hp3156
      replace ha := ha.bool 38 (by kernel_rfl) (ieq_f hp3156)
      refine stepo ha 39 (by kernel_rfl) ?_; clear ha a; intro a ha
      refine stepo ha 40 (by kernel_rfl) ?_; clear ha a; intro a ha
      refine stepp ha 41 (.bool false) (by kernel_rfl) (by kernel_rfl) ?_; clear ha a; intro a ha
      refine stepp ha 42 (.bool false) (by kernel_rfl) (by kernel_rfl) ?_; clear ha a; intro a ha
      refine stepp ha 43 (.int .i64 t3148.2) (by kernel_rfl) (by kernel_rfl) ?_; clear ha a; intro a ha
      refine stepp ha 44 (.bool (t3148.2 == 0)) (by kernel_rfl) (by kernel_rfl) ?_; clear ha a; intro a ha
      refine stepp ha 45 (.bool (t3148.2 == 0)) (by kernel_rfl) (by kernel_rfl) ?_; clear ha a; intro a ha
      by_cases hp3159 : t3148.2 = 0
      · skip
        replace h := ite_pos' h hp3159
        replace ha := ha.bool 45 (by kernel_rfl) (ieq_t hp3159)
        refine stepp ha 46 (.string t3148.1) (by kernel_rfl) (by kernel_rfl) ?_; clear ha a; intro a ha
        refine stepp ha 47 (.bool (t3148.1.toList == (⟨#[]⟩ : ByteArray).toList)) (by kernel_rfl) (by kernel_rfl) ?_; clear ha a; intro a ha
        refine stepp ha 48 (.bool (t3148.1.toList == (⟨#[]⟩ : ByteArray).toList)) (by kernel_rfl) (by kernel_rfl) ?_; clear ha a; intro a ha
        refine stepp ha 49 (.bool (t3148.1.toList == (⟨#[]⟩ : ByteArray).toList)) (by kernel_rfl) (by kernel_rfl) ?_; clear ha a; intro a ha
        refine endl ?_
        refine thenN (hK3155 _ _ ?_); clear hK3155
        by_cases hp3165 : t3148.1 = (⟨#[]⟩ : ByteArray)
        · skip
          replace h := ite_pos' h hp3165
          refine condT ha (by kernel_rfl) (by kernel_rfl) (t := (t3148.1.toList == (⟨#[]⟩ : ByteArray).toList)) (str_eq_t hp3165) ?_
          refine wp_seq_k (fun K3166 hK3167 => ?_)
          refine wp_region_lit ?_
          refine stepp ha 6 (.bool false) (by kernel_rfl) (by kernel_rfl) ?_; clear ha a; intro a ha
          refine endl ?_
          refine thenN (hK3167 _ _ ?_); clear hK3167
          refine wp_ret ?_
          refine thenR ?_
          obtain rfl := Option.some.inj h
          exact finv ha _ _ rfl (.tmp (v := .bool false) (by kernel_rfl) .nil) (.bool false) rfl ⟨rfl, HW.pick [] [] (by decide) (by decide) rfl (by kernel_rfl)⟩
        · skip
          replace h := ite_neg' h hp3165
          refine condF ha (by kernel_rfl) (by kernel_rfl) (t := (t3148.1.toList == (⟨#[]⟩ : ByteArray).toList)) (str_eq_f hp3165) ?_
          refine wp_skip ?_
          exact thenN ⟨h, ha.sub (subs_cons (by kernel_rfl) (subs_cons (by kernel_rfl) (subs_cons (by kernel_rfl) (subs_cons (by kernel_rfl) (subs_cons (by kernel_rfl) (subs_nil _)))))), HW.pick [] [] (by decide) (by decide) (by kernel_rfl) (by kernel_rfl)⟩
      · skip
        replace h := ite_neg' h hp3159
        replace ha := ha.bool 45 (by kernel_rfl) (ieq_f hp3159)
        refine stepo ha 46 (by kernel_rfl) ?_; clear ha a; intro a ha
        refine stepo ha 47 (by kernel_rfl) ?_; clear ha a; intro a ha
        refine stepp ha 48 (.bool false) (by kernel_rfl) (by kernel_rfl) ?_; clear ha a; intro a ha
        refine stepp ha 49 (.bool false) (by kernel_rfl) (by kernel_rfl) ?_; clear ha a; intro a ha
        refine endl ?_
        refine thenN (hK3155 _ _ ?_); clear hK3155
        refine condF ha (by kernel_rfl) (by kernel_rfl) (t := false) (rfl) ?_
        refine wp_skip ?_
        exact thenN ⟨h, ha.sub (subs_cons (by kernel_rfl) (subs_cons (by kernel_rfl) (subs_cons (by kernel_rfl) (subs_cons (by kernel_rfl) (subs_cons (by kernel_rfl) (subs_nil _)))))), HW.pick [] [] (by decide) (by decide) (by kernel_rfl) (by kernel_rfl)⟩
  · skip
    intro a W3168 hJ
    obtain ⟨h, ha, HW⟩ := hJ
    replace h : headgatelaw25_SqeCuts.j0 K a2 t3142 t3148 = some r := h
    unfold headgatelaw25_SqeCuts.j0 at h
    refine hK3153 _ _ ?_; clear hK3153
    refine wp_seq_k (fun K3169 hK3170 => ?_)
    refine cutn (fun a W3206 => headgatelaw25_SqeCuts.j1 K a2 t3148 = some r ∧ Has 109 [(2, .int .i64 a2), (9, .string t3148.1), (10, .int .i64 t3148.2)] a ∧ Wd w W3206 [] []) ?_ ?_
    · skip
      refine wp_seq_k (fun K3171 hK3172 => ?_)
      refine wp_region_lit ?_
      refine stepp ha 50 (.int .i64 t3142.2) (by kernel_rfl) (by kernel_rfl) ?_; clear ha a; intro a ha
      refine stepp ha 51 (.bool (t3142.2 == 0)) (by kernel_rfl) (by kernel_rfl) ?_; clear ha a; intro a ha
      refine endl ?_
      refine thenN (hK3172 _ _ ?_); clear hK3172
      by_cases hp3173 : t3142.2 = 0
      · skip
        replace h := ite_pos' h hp3173
        refine condT ha (by kernel_rfl) (by kernel_rfl) (t := (t3142.2 == 0)) (ieq_t hp3173) ?_
        refine wp_seq_k (fun K3174 hK3175 => ?_)
        refine wp_region_lit ?_
        refine stepp ha 52 (.int .i64 a2) (by kernel_rfl) (by kernel_rfl) ?_; clear ha a; intro a ha
        refine stepp ha 53 (.int .u64 (IntKind.wrap .u64 a2)) (by kernel_rfl) (by kernel_rfl) ?_; clear ha a; intro a ha
        refine stepp ha 54 (.string t3142.1) (by kernel_rfl) (by kernel_rfl) ?_; clear ha a; intro a ha
        refine stepp ha 55 (.int .i64 (t3142.1.size : Int)) (by kernel_rfl) (by kernel_rfl) ?_; clear ha a; intro a ha
        refine stepp ha 56 (.int .u64 (IntKind.wrap .u64 (t3142.1.size : Int))) (by kernel_rfl) (by kernel_rfl) ?_; clear ha a; intro a ha
        obtain ⟨hA3176, h_⟩ := asrt_some h; clear h; have h := h_; clear h_
        refine steprem ha 57 46 46 (.tmp 53) (.tmp 56) .u64 (IntKind.wrap .u64 a2) (IntKind.wrap .u64 (t3142.1.size : Int)) rfl (by kernel_rfl) (by kernel_rfl) hA3176 (by kernel_rfl) ?_; clear ha a; intro a ha
        refine stepp ha 58 (.int .i64 (IntKind.wrap .i64 (Int.tmod (IntKind.wrap .u64 a2) (IntKind.wrap .u64 (t3142.1.size : Int))))) (by kernel_rfl) (by kernel_rfl) ?_; clear ha a; intro a ha
        refine stepp ha 11 (.int .i64 (IntKind.wrap .i64 (Int.tmod (IntKind.wrap .u64 a2) (IntKind.wrap .u64 (t3142.1.size : Int))))) (by kernel_rfl) (by kernel_rfl) ?_; clear ha a; intro a ha
        refine endl ?_
        refine thenN (hK3175 _ _ ?_); clear hK3175
        refine wp_seq_k (fun K3177 hK3178 => ?_)
        refine wp_region_lit ?_
        refine stepp ha 60 (.string t3142.1) (by kernel_rfl) (by kernel_rfl) ?_; clear ha a; intro a ha
        refine stepp ha 61 (.int .i64 (IntKind.wrap .i64 (Int.tmod (IntKind.wrap .u64 a2) (IntKind.wrap .u64 (t3142.1.size : Int))))) (by kernel_rfl) (by kernel_rfl) ?_; clear ha a; intro a ha
        obtain ⟨hA3179, h_⟩ := asrt_some h; clear h; have h := h_; clear h_
        obtain ⟨hA3180, h_⟩ := asrt_some h; clear h; have h := h_; clear h_
        refine stepssh ha 62 9 (.tmp 60) (.tmp 61) t3142.1 .i64 (IntKind.wrap .i64 (Int.tmod (IntKind.wrap .u64 a2) (IntKind.wrap .u64 (t3142.1.size : Int)))) rfl (by kernel_rfl) (by kernel_rfl) (by kernel_rfl) hA3179 (show (IntKind.wrap .i64 (Int.tmod (IntKind.wrap .u64 a2) (IntKind.wrap .u64 (t3142.1.size : Int))) : Int) ≤ ((t3142.1).size : Int) from hA3180) (by kernel_rfl) ?_; clear ha a; intro a ha
        obtain ⟨t3181, ht3182, h_⟩ := bind_some' h; clear h; have h := h_; clear h_
        refine stepc ha 63 (by kernel_rfl) (by kernel_rfl) (sqe_Get.calls K (t3142.1.extract 0 (IntKind.wrap .i64 (Int.tmod (IntKind.wrap .u64 a2) (IntKind.wrap .u64 (t3142.1.size : Int))) : Int).toNat) t3181 _ (HW.ca0 hG1) (HW.ca0 hG2) ht3182) ?_; clear ha a; rintro e W3183 ⟨rfl, HX3184⟩
        refine ⟨_, rfl, ?_⟩; intro a ha; replace HW := HW.callw HX3184; clear HX3184
        refine stepp ha 59 (.tuple #[.agg #[.int .i64 t3181.1.f0, .int .i64 t3181.1.f1, .int .i64 t3181.1.f2, .int .u32 t3181.1.f3, .int .i64 t3181.1.f4, .int .u32 t3181.1.f5.f0, .int .u32 t3181.1.f5.f1, .int .u32 t3181.1.f5.f2, .int .u32 t3181.1.f5.f3, .int .u32 t3181.1.f5.f4, .int .u32 t3181.1.f5.f5], .bool t3181.2.1, .int .i64 t3181.2.2]) (by kernel_rfl) (by kernel_rfl) ?_; clear ha a; intro a ha
        refine stepp ha 64 (.agg #[.int .i64 t3181.1.f0, .int .i64 t3181.1.f1, .int .i64 t3181.1.f2, .int .u32 t3181.1.f3, .int .i64 t3181.1.f4, .int .u32 t3181.1.f5.f0, .int .u32 t3181.1.f5.f1, .int .u32 t3181.1.f5.f2, .int .u32 t3181.1.f5.f3, .int .u32 t3181.1.f5.f4, .int .u32 t3181.1.f5.f5]) (by kernel_rfl) (by kernel_rfl) ?_; clear ha a; intro a ha
        refine stepp ha 65 (.bool t3181.2.1) (by kernel_rfl) (by kernel_rfl) ?_; clear ha a; intro a ha
        refine stepp ha 66 (.int .i64 t3181.2.2) (by kernel_rfl) (by kernel_rfl) ?_; clear ha a; intro a ha
        refine stepnew ha HW 12 #[.int .i64 0, .int .i64 0, .int .i64 0, .int .u32 0, .int .i64 0, .int .u32 0, .int .u32 0, .int .u32 0, .int .u32 0, .int .u32 0, .int .u32 0] 25 (by kernel_rfl) (by kernel_rfl) ?_; clear ha HW a; intro b3185 a W3186 HW ha
        refine stepst ha HW 0 (b := b3185) (C := #[.int .i64 0, .int .i64 0, .int .i64 0, .int .u32 0, .int .i64 0, .int .u32 0, .int .u32 0, .int .u32 0, .int .u32 0, .int .u32 0, .int .u32 0]) (T := 25) (by kernel_rfl) 25 0 (.tmp 12) (.tmp 64) (.agg #[.int .i64 t3181.1.f0, .int .i64 t3181.1.f1, .int .i64 t3181.1.f2, .int .u32 t3181.1.f3, .int .i64 t3181.1.f4, .int .u32 t3181.1.f5.f0, .int .u32 t3181.1.f5.f1, .int .u32 t3181.1.f5.f2, .int .u32 t3181.1.f5.f3, .int .u32 t3181.1.f5.f4, .int .u32 t3181.1.f5.f5]) #[.int .i64 t3181.1.f0, .int .i64 t3181.1.f1, .int .i64 t3181.1.f2, .int .u32 t3181.1.f3, .int .i64 t3181.1.f4, .int .u32 t3181.1.f5.f0, .int .u32 t3181.1.f5.f1, .int .u32 t3181.1.f5.f2, .int .u32 t3181.1.f5.f3, .int .u32 t3181.1.f5.f4, .int .u32 t3181.1.f5.f5] rfl (by kernel_rfl) (by kernel_rfl) (by kernel_rfl) (by kernel_rfl) (by kernel_rfl) (by kernel_rfl) (by kernel_rfl) ?_; clear ha HW a; intro a W3187 HW ha
        refine stepp ha 13 (.bool t3181.2.1) (by kernel_rfl) (by kernel_rfl) ?_; clear ha a; intro a ha
        refine stepp ha 14 (.int .i64 t3181.2.2) (by kernel_rfl) (by kernel_rfl) ?_; clear ha a; intro a ha
        refine endl ?_
        refine thenN (hK3178 _ _ ?_); clear hK3178
        refine wp_seq_k (fun K3188 hK3189 => ?_)
        refine wp_region_lit ?_
        refine stepp ha 68 (.string t3142.1) (by kernel_rfl) (by kernel_rfl) ?_; clear ha a; intro a ha
        obtain ⟨hA3190, h_⟩ := asrt_some h; clear h; have h := h_; clear h_
        refine stepsa ha 69 9 9 (.tmp 68) (.const (.string (⟨#[0]⟩ : ByteArray))) t3142.1 (⟨#[0]⟩ : ByteArray) rfl (by kernel_rfl) (by kernel_rfl) (show (t3142.1).size + ((⟨#[0]⟩ : ByteArray)).size ≤ 9223372036854775807 from hA3190) (by kernel_rfl) ?_; clear ha a; intro a ha
        obtain ⟨t3191, ht3192, h_⟩ := bind_some' h; clear h; have h := h_; clear h_
        refine stepc ha 70 (by kernel_rfl) (by kernel_rfl) (sqe_Get.calls K (t3142.1 ++ (⟨#[0]⟩ : ByteArray)) t3191 _ (HW.ca0 hG1) (HW.ca0 hG2) ht3192) ?_; clear ha a; rintro e W3193 ⟨rfl, HX3194⟩
        refine ⟨_, rfl, ?_⟩; intro a ha; replace HW := HW.callw HX3194; clear HX3194
        refine stepp ha 67 (.tuple #[.agg #[.int .i64 t3191.1.f0, .int .i64 t3191.1.f1, .int .i64 t3191.1.f2, .int .u32 t3191.1.f3, .int .i64 t3191.1.f4, .int .u32 t3191.1.f5.f0, .int .u32 t3191.1.f5.f1, .int .u32 t3191.1.f5.f2, .int .u32 t3191.1.f5.f3, .int .u32 t3191.1.f5.f4, .int .u32 t3191.1.f5.f5], .bool t3191.2.1, .int .i64 t3191.2.2]) (by kernel_rfl) (by kernel_rfl) ?_; clear ha a; intro a ha
        refine stepp ha 71 (.agg #[.int .i64 t3191.1.f0, .int .i64 t3191.1.f1, .int .i64 t3191.1.f2, .int .u32 t3191.1.f3, .int .i64 t3191.1.f4, .int .u32 t3191.1.f5.f0, .int .u32 t3191.1.f5.f1, .int .u32 t3191.1.f5.f2, .int .u32 t3191.1.f5.f3, .int .u32 t3191.1.f5.f4, .int .u32 t3191.1.f5.f5]) (by kernel_rfl) (by kernel_rfl) ?_; clear ha a; intro a ha
        refine stepp ha 72 (.bool t3191.2.1) (by kernel_rfl) (by kernel_rfl) ?_; clear ha a; intro a ha
        refine stepp ha 73 (.int .i64 t3191.2.2) (by kernel_rfl) (by kernel_rfl) ?_; clear ha a; intro a ha
        refine stepnew ha HW 15 #[.int .i64 0, .int .i64 0, .int .i64 0, .int .u32 0, .int .i64 0, .int .u32 0, .int .u32 0, .int .u32 0, .int .u32 0, .int .u32 0, .int .u32 0] 25 (by kernel_rfl) (by kernel_rfl) ?_; clear ha HW a; intro b3195 a W3196 HW ha
        refine stepst ha HW 0 (b := b3195) (C := #[.int .i64 0, .int .i64 0, .int .i64 0, .int .u32 0, .int .i64 0, .int .u32 0, .int .u32 0, .int .u32 0, .int .u32 0, .int .u32 0, .int .u32 0]) (T := 25) (by kernel_rfl) 25 0 (.tmp 15) (.tmp 71) (.agg #[.int .i64 t3191.1.f0, .int .i64 t3191.1.f1, .int .i64 t3191.1.f2, .int .u32 t3191.1.f3, .int .i64 t3191.1.f4, .int .u32 t3191.1.f5.f0, .int .u32 t3191.1.f5.f1, .int .u32 t3191.1.f5.f2, .int .u32 t3191.1.f5.f3, .int .u32 t3191.1.f5.f4, .int .u32 t3191.1.f5.f5]) #[.int .i64 t3191.1.f0, .int .i64 t3191.1.f1, .int .i64 t3191.1.f2, .int .u32 t3191.1.f3, .int .i64 t3191.1.f4, .int .u32 t3191.1.f5.f0, .int .u32 t3191.1.f5.f1, .int .u32 t3191.1.f5.f2, .int .u32 t3191.1.f5.f3, .int .u32 t3191.1.f5.f4, .int .u32 t3191.1.f5.f5] rfl (by kernel_rfl) (by kernel_rfl) (by kernel_rfl) (by kernel_rfl) (by kernel_rfl) (by kernel_rfl) (by kernel_rfl) ?_; clear ha HW a; intro a W3197 HW ha
        refine stepp ha 16 (.bool t3191.2.1) (by kernel_rfl) (by kernel_rfl) ?_; clear ha a; intro a ha
        refine stepp ha 17 (.int .i64 t3191.2.2) (by kernel_rfl) (by kernel_rfl) ?_; clear ha a; intro a ha
        refine endl ?_
        refine thenN (hK3189 _ _ ?_); clear hK3189
        refine wp_seq_k (fun K3198 hK3199 => ?_)
        refine wp_region_lit ?_
        refine stepp ha 74 (.int .i64 t3181.2.2) (by kernel_rfl) (by kernel_rfl) ?_; clear ha a; intro a ha
        refine stepp ha 75 (.bool (t3181.2.2 != 250)) (by kernel_rfl) (by kernel_rfl) ?_; clear ha a; intro a ha
        refine stepp ha 76 (.bool (t3181.2.2 != 250)) (by kernel_rfl) (by kernel_rfl) ?_; clear ha a; intro a ha
        by_cases hp3200 : t3181.2.2 = 250
        · skip
          replace h := ite_pos' h hp3200
          replace ha := ha.bool 76 (by kernel_rfl) (ineq_f hp3200)
          refine stepp ha 77 (.int .i64 t3191.2.2) (by kernel_rfl) (by kernel_rfl) ?_; clear ha a; intro a ha
          refine stepp ha 78 (.bool (t3191.2.2 != 250)) (by kernel_rfl) (by kernel_rfl) ?_; clear ha a; intro a ha
          refine stepp ha 79 (.bool (t3191.2.2 != 250)) (by kernel_rfl) (by kernel_rfl) ?_; clear ha a; intro a ha
          refine endl ?_
          refine thenN (hK3199 _ _ ?_); clear hK3199
          by_cases hp3201 : t3191.2.2 = 250
          · skip
            replace h := ite_pos' h hp3201
            refine condF ha (by kernel_rfl) (by kernel_rfl) (t := (t3191.2.2 != 250)) (ineq_f hp3201) ?_
            refine wp_skip ?_
            exact thenN ⟨h, ha.sub (subs_cons (by kernel_rfl) (subs_cons (by kernel_rfl) (subs_cons (by kernel_rfl) (subs_nil _)))), HW.pick [] [] (by decide) (by decide) (by kernel_rfl) (by kernel_rfl)⟩
          · skip
            replace h := ite_neg' h hp3201
            refine condT ha (by kernel_rfl) (by kernel_rfl) (t := (t3191.2.2 != 250)) (ineq_t hp3201) ?_
            refine wp_seq_k (fun K3202 hK3203 => ?_)
            refine wp_region_lit ?_
            refine stepp ha 6 (.bool false) (by kernel_rfl) (by kernel_rfl) ?_; clear ha a; intro a ha
            refine endl ?_
            refine thenN (hK3203 _ _ ?_); clear hK3203
            refine wp_ret ?_
            refine thenR ?_
            obtain rfl := Option.some.inj h
            exact finv ha _ _ rfl (.tmp (v := .bool false) (by kernel_rfl) .nil) (.bool false) rfl ⟨rfl, HW.pick [] [] (by decide) (by decide) rfl (by kernel_rfl)⟩
        · skip
          replace h := ite_neg' h hp3200
          replace ha := ha.bool 76 (by kernel_rfl) (ineq_t hp3200)
          refine stepo ha 77 (by kernel_rfl) ?_; clear ha a; intro a ha
          refine stepo ha 78 (by kernel_rfl) ?_; clear ha a; intro a ha
          refine stepp ha 79 (.bool true) (by kernel_rfl) (by kernel_rfl) ?_; clear ha a; intro a ha
          refine endl ?_
          refine thenN (hK3199 _ _ ?_); clear hK3199
          refine condT ha (by kernel_rfl) (by kernel_rfl) (t := true) (rfl) ?_
          refine wp_seq_k (fun K3204 hK3205 => ?_)
          refine wp_region_lit ?_
          refine stepp ha 6 (.bool false) (by kernel_rfl) (by kernel_rfl) ?_; clear ha a; intro a ha
          refine endl ?_
          refine thenN (hK3205 _ _ ?_); clear hK3205
          refine wp_ret ?_
          refine thenR ?_
          obtain rfl := Option.some.inj h
          exact finv ha _ _ rfl (.tmp (v := .bool false) (by kernel_rfl) .nil) (.bool false) rfl ⟨rfl, HW.pick [] [] (by decide) (by decide) rfl (by kernel_rfl)⟩
      · skip
        replace h := ite_neg' h hp3173
        refine condF ha (by kernel_rfl) (by kernel_rfl) (t := (t3142.2 == 0)) (ieq_f hp3173) ?_
        refine wp_skip ?_
        exact thenN ⟨h, ha.sub (subs_cons (by kernel_rfl) (subs_cons (by kernel_rfl) (subs_cons (by kernel_rfl) (subs_nil _)))), HW.pick [] [] (by decide) (by decide) (by kernel_rfl) (by kernel_rfl)⟩
    · skip
      intro a W3206 hJ
      obtain ⟨h, ha, HW⟩ := hJ
      replace h : headgatelaw25_SqeCuts.j1 K a2 t3148 = some r := h
      unfold headgatelaw25_SqeCuts.j1 at h
      refine hK3170 _ _ ?_; clear hK3170
      refine wp_seq_k (fun K3207 hK3208 => ?_)
      refine wp_seq_k (fun K3209 hK3210 => ?_)
      refine wp_region_lit ?_
      refine stepp ha 80 (.int .i64 t3148.2) (by kernel_rfl) (by kernel_rfl) ?_; clear ha a; intro a ha
      refine stepp ha 81 (.bool (t3148.2 == 0)) (by kernel_rfl) (by kernel_rfl) ?_; clear ha a; intro a ha
      refine endl ?_
      refine thenN (hK3210 _ _ ?_); clear hK3210
      by_cases hp3211 : t3148.2 = 0
      · skip
        replace h := ite_pos' h hp3211
        refine condT ha (by kernel_rfl) (by kernel_rfl) (t := (t3148.2 == 0)) (ieq_t hp3211) ?_
        refine wp_seq_k (fun K3212 hK3213 => ?_)
        refine wp_region_lit ?_
        refine stepp ha 82 (.int .i64 a2) (by kernel_rfl) (by kernel_rfl) ?_; clear ha a; intro a ha
        refine stepp ha 83 (.int .u64 (IntKind.wrap .u64 a2)) (by kernel_rfl) (by kernel_rfl) ?_; clear ha a; intro a ha
        refine stepp ha 84 (.string t3148.1) (by kernel_rfl) (by kernel_rfl) ?_; clear ha a; intro a ha
        refine stepp ha 85 (.int .i64 (t3148.1.size : Int)) (by kernel_rfl) (by kernel_rfl) ?_; clear ha a; intro a ha
        refine stepp ha 86 (.int .u64 (IntKind.wrap .u64 (t3148.1.size : Int))) (by kernel_rfl) (by kernel_rfl) ?_; clear ha a; intro a ha
        obtain ⟨hA3214, h_⟩ := asrt_some h; clear h; have h := h_; clear h_
        refine steprem ha 87 46 46 (.tmp 83) (.tmp 86) .u64 (IntKind.wrap .u64 a2) (IntKind.wrap .u64 (t3148.1.size : Int)) rfl (by kernel_rfl) (by kernel_rfl) hA3214 (by kernel_rfl) ?_; clear ha a; intro a ha
        refine stepp ha 88 (.int .i64 (IntKind.wrap .i64 (Int.tmod (IntKind.wrap .u64 a2) (IntKind.wrap .u64 (t3148.1.size : Int))))) (by kernel_rfl) (by kernel_rfl) ?_; clear ha a; intro a ha
        refine stepp ha 18 (.int .i64 (IntKind.wrap .i64 (Int.tmod (IntKind.wrap .u64 a2) (IntKind.wrap .u64 (t3148.1.size : Int))))) (by kernel_rfl) (by kernel_rfl) ?_; clear ha a; intro a ha
        refine endl ?_
        refine thenN (hK3213 _ _ ?_); clear hK3213
        refine wp_seq_k (fun K3215 hK3216 => ?_)
        refine wp_region_lit ?_
        refine stepp ha 90 (.string t3148.1) (by kernel_rfl) (by kernel_rfl) ?_; clear ha a; intro a ha
        refine stepp ha 91 (.int .i64 (IntKind.wrap .i64 (Int.tmod (IntKind.wrap .u64 a2) (IntKind.wrap .u64 (t3148.1.size : Int))))) (by kernel_rfl) (by kernel_rfl) ?_; clear ha a; intro a ha
        obtain ⟨hA3217, h_⟩ := asrt_some h; clear h; have h := h_; clear h_
        obtain ⟨hA3218, h_⟩ := asrt_some h; clear h; have h := h_; clear h_
        refine stepssh ha 92 9 (.tmp 90) (.tmp 91) t3148.1 .i64 (IntKind.wrap .i64 (Int.tmod (IntKind.wrap .u64 a2) (IntKind.wrap .u64 (t3148.1.size : Int)))) rfl (by kernel_rfl) (by kernel_rfl) (by kernel_rfl) hA3217 (show (IntKind.wrap .i64 (Int.tmod (IntKind.wrap .u64 a2) (IntKind.wrap .u64 (t3148.1.size : Int))) : Int) ≤ ((t3148.1).size : Int) from hA3218) (by kernel_rfl) ?_; clear ha a; intro a ha
        obtain ⟨t3219, ht3220, h_⟩ := bind_some' h; clear h; have h := h_; clear h_
        refine stepc ha 93 (by kernel_rfl) (by kernel_rfl) (sqe_Ended.calls K (t3148.1.extract 0 (IntKind.wrap .i64 (Int.tmod (IntKind.wrap .u64 a2) (IntKind.wrap .u64 (t3148.1.size : Int))) : Int).toNat) t3219 _ (HW.ca0 hG1) (HW.ca0 hG2) ht3220) ?_; clear ha a; rintro e W3221 ⟨rfl, HX3222⟩
        refine ⟨_, rfl, ?_⟩; intro a ha; replace HW := HW.callw HX3222; clear HX3222
        refine stepp ha 89 (.tuple #[.agg #[.int .u32 t3219.1.f0, .int .u32 t3219.1.f1, .int .i64 t3219.1.f2, .int .i64 t3219.1.f3, .int .i64 t3219.1.f4, .int .i64 t3219.1.f5], .int .i64 t3219.2]) (by kernel_rfl) (by kernel_rfl) ?_; clear ha a; intro a ha
        refine stepp ha 94 (.agg #[.int .u32 t3219.1.f0, .int .u32 t3219.1.f1, .int .i64 t3219.1.f2, .int .i64 t3219.1.f3, .int .i64 t3219.1.f4, .int .i64 t3219.1.f5]) (by kernel_rfl) (by kernel_rfl) ?_; clear ha a; intro a ha
        refine stepp ha 95 (.int .i64 t3219.2) (by kernel_rfl) (by kernel_rfl) ?_; clear ha a; intro a ha
        refine stepnew ha HW 19 #[.int .u32 0, .int .u32 0, .int .i64 0, .int .i64 0, .int .i64 0, .int .i64 0] 27 (by kernel_rfl) (by kernel_rfl) ?_; clear ha HW a; intro b3223 a W3224 HW ha
        refine stepst ha HW 0 (b := b3223) (C := #[.int .u32 0, .int .u32 0, .int .i64 0, .int .i64 0, .int .i64 0, .int .i64 0]) (T := 27) (by kernel_rfl) 27 0 (.tmp 19) (.tmp 94) (.agg #[.int .u32 t3219.1.f0, .int .u32 t3219.1.f1, .int .i64 t3219.1.f2, .int .i64 t3219.1.f3, .int .i64 t3219.1.f4, .int .i64 t3219.1.f5]) #[.int .u32 t3219.1.f0, .int .u32 t3219.1.f1, .int .i64 t3219.1.f2, .int .i64 t3219.1.f3, .int .i64 t3219.1.f4, .int .i64 t3219.1.f5] rfl (by kernel_rfl) (by kernel_rfl) (by kernel_rfl) (by kernel_rfl) (by kernel_rfl) (by kernel_rfl) (by kernel_rfl) ?_; clear ha HW a; intro a W3225 HW ha
        refine stepp ha 20 (.int .i64 t3219.2) (by kernel_rfl) (by kernel_rfl) ?_; clear ha a; intro a ha
        refine endl ?_
        refine thenN (hK3216 _ _ ?_); clear hK3216
        refine wp_seq_k (fun K3226 hK3227 => ?_)
        refine wp_region_lit ?_
        refine stepp ha 97 (.string t3148.1) (by kernel_rfl) (by kernel_rfl) ?_; clear ha a; intro a ha
        obtain ⟨hA3228, h_⟩ := asrt_some h; clear h; have h := h_; clear h_
        refine stepsa ha 98 9 9 (.tmp 97) (.const (.string (⟨#[0]⟩ : ByteArray))) t3148.1 (⟨#[0]⟩ : ByteArray) rfl (by kernel_rfl) (by kernel_rfl) (show (t3148.1).size + ((⟨#[0]⟩ : ByteArray)).size ≤ 9223372036854775807 from hA3228) (by kernel_rfl) ?_; clear ha a; intro a ha
        obtain ⟨t3229, ht3230, h_⟩ := bind_some' h; clear h; have h := h_; clear h_
        refine stepc ha 99 (by kernel_rfl) (by kernel_rfl) (sqe_Ended.calls K (t3148.1 ++ (⟨#[0]⟩ : ByteArray)) t3229 _ (HW.ca0 hG1) (HW.ca0 hG2) ht3230) ?_; clear ha a; rintro e W3231 ⟨rfl, HX3232⟩
        refine ⟨_, rfl, ?_⟩; intro a ha; replace HW := HW.callw HX3232; clear HX3232
        refine stepp ha 96 (.tuple #[.agg #[.int .u32 t3229.1.f0, .int .u32 t3229.1.f1, .int .i64 t3229.1.f2, .int .i64 t3229.1.f3, .int .i64 t3229.1.f4, .int .i64 t3229.1.f5], .int .i64 t3229.2]) (by kernel_rfl) (by kernel_rfl) ?_; clear ha a; intro a ha
        refine stepp ha 100 (.agg #[.int .u32 t3229.1.f0, .int .u32 t3229.1.f1, .int .i64 t3229.1.f2, .int .i64 t3229.1.f3, .int .i64 t3229.1.f4, .int .i64 t3229.1.f5]) (by kernel_rfl) (by kernel_rfl) ?_; clear ha a; intro a ha
        refine stepp ha 101 (.int .i64 t3229.2) (by kernel_rfl) (by kernel_rfl) ?_; clear ha a; intro a ha
        refine stepnew ha HW 21 #[.int .u32 0, .int .u32 0, .int .i64 0, .int .i64 0, .int .i64 0, .int .i64 0] 27 (by kernel_rfl) (by kernel_rfl) ?_; clear ha HW a; intro b3233 a W3234 HW ha
        refine stepst ha HW 0 (b := b3233) (C := #[.int .u32 0, .int .u32 0, .int .i64 0, .int .i64 0, .int .i64 0, .int .i64 0]) (T := 27) (by kernel_rfl) 27 0 (.tmp 21) (.tmp 100) (.agg #[.int .u32 t3229.1.f0, .int .u32 t3229.1.f1, .int .i64 t3229.1.f2, .int .i64 t3229.1.f3, .int .i64 t3229.1.f4, .int .i64 t3229.1.f5]) #[.int .u32 t3229.1.f0, .int .u32 t3229.1.f1, .int .i64 t3229.1.f2, .int .i64 t3229.1.f3, .int .i64 t3229.1.f4, .int .i64 t3229.1.f5] rfl (by kernel_rfl) (by kernel_rfl) (by kernel_rfl) (by kernel_rfl) (by kernel_rfl) (by kernel_rfl) (by kernel_rfl) ?_; clear ha HW a; intro a W3235 HW ha
        refine stepp ha 22 (.int .i64 t3229.2) (by kernel_rfl) (by kernel_rfl) ?_; clear ha a; intro a ha
        refine endl ?_
        refine thenN (hK3227 _ _ ?_); clear hK3227
        refine wp_seq_k (fun K3236 hK3237 => ?_)
        refine wp_region_lit ?_
        refine stepp ha 102 (.int .i64 t3219.2) (by kernel_rfl) (by kernel_rfl) ?_; clear ha a; intro a ha
        refine stepp ha 103 (.bool (t3219.2 != 250)) (by kernel_rfl) (by kernel_rfl) ?_; clear ha a; intro a ha
        refine stepp ha 104 (.bool (t3219.2 != 250)) (by kernel_rfl) (by kernel_rfl) ?_; clear ha a; intro a ha
        by_cases hp3238 : t3219.2 = 250
        · skip
          replace h := ite_pos' h hp3238
          replace ha := ha.bool 104 (by kernel_rfl) (ineq_f hp3238)
          refine stepp ha 105 (.int .i64 t3229.2) (by kernel_rfl) (by kernel_rfl) ?_; clear ha a; intro a ha
          refine stepp ha 106 (.bool (t3229.2 != 250)) (by kernel_rfl) (by kernel_rfl) ?_; clear ha a; intro a ha
          refine stepp ha 107 (.bool (t3229.2 != 250)) (by kernel_rfl) (by kernel_rfl) ?_; clear ha a; intro a ha
          refine endl ?_
          refine thenN (hK3237 _ _ ?_); clear hK3237
          by_cases hp3239 : t3229.2 = 250
          · skip
            replace h := ite_pos' h hp3239
            refine condF ha (by kernel_rfl) (by kernel_rfl) (t := (t3229.2 != 250)) (ineq_f hp3239) ?_
            refine wp_skip ?_
            refine thenN (hK3208 _ _ ?_); clear hK3208
            refine wp_seq_k (fun K3244 hK3245 => ?_)
            refine wp_region_lit ?_
            obtain ⟨t3246, ht3247, h_⟩ := bind_some' h; clear h; have h := h_; clear h_
            refine stepc ha 108 (by kernel_rfl) (by kernel_rfl) (headgatelaw25_wakes.calls K t3246 _ (HW.ca0 hG1) (HW.ca0 hG2) ht3247) ?_; clear ha a; rintro e W3248 ⟨rfl, HX3249⟩
            refine ⟨_, rfl, ?_⟩; intro a ha; replace HW := HW.callw HX3249; clear HX3249
            refine stepp ha 6 (.bool t3246) (by kernel_rfl) (by kernel_rfl) ?_; clear ha a; intro a ha
            refine endl ?_
            refine thenN (hK3245 _ _ ?_); clear hK3245
            refine wp_ret ?_
            obtain rfl := Option.some.inj h
            exact finv ha _ _ rfl (.tmp (v := .bool t3246) (by kernel_rfl) .nil) (.bool t3246) rfl ⟨rfl, HW.pick [] [] (by decide) (by decide) rfl (by kernel_rfl)⟩
          · skip
            replace h := ite_neg' h hp3239
            refine condT ha (by kernel_rfl) (by kernel_rfl) (t := (t3229.2 != 250)) (ineq_t hp3239) ?_
            refine wp_seq_k (fun K3240 hK3241 => ?_)
            refine wp_region_lit ?_
            refine stepp ha 6 (.bool false) (by kernel_rfl) (by kernel_rfl) ?_; clear ha a; intro a ha
            refine endl ?_
            refine thenN (hK3241 _ _ ?_); clear hK3241
            refine wp_ret ?_
            refine thenR ?_
            obtain rfl := Option.some.inj h
            exact finv ha _ _ rfl (.tmp (v := .bool false) (by kernel_rfl) .nil) (.bool false) rfl ⟨rfl, HW.pick [] [] (by decide) (by decide) rfl (by kernel_rfl)⟩
        · skip
          replace h := ite_neg' h hp3238
          replace ha := ha.bool 104 (by kernel_rfl) (ineq_t hp3238)
          refine stepo ha 105 (by kernel_rfl) ?_; clear ha a; intro a ha
          refine stepo ha 106 (by kernel_rfl) ?_; clear ha a; intro a ha
          refine stepp ha 107 (.bool true) (by kernel_rfl) (by kernel_rfl) ?_; clear ha a; intro a ha
          refine endl ?_
          refine thenN (hK3237 _ _ ?_); clear hK3237
          refine condT ha (by kernel_rfl) (by kernel_rfl) (t := true) (rfl) ?_
          refine wp_seq_k (fun K3242 hK3243 => ?_)
          refine wp_region_lit ?_
          refine stepp ha 6 (.bool false) (by kernel_rfl) (by kernel_rfl) ?_; clear ha a; intro a ha
          refine endl ?_
          refine thenN (hK3243 _ _ ?_); clear hK3243
          refine wp_ret ?_
          refine thenR ?_
          obtain rfl := Option.some.inj h
          exact finv ha _ _ rfl (.tmp (v := .bool false) (by kernel_rfl) .nil) (.bool false) rfl ⟨rfl, HW.pick [] [] (by decide) (by decide) rfl (by kernel_rfl)⟩
      · skip
        replace h := ite_neg' h hp3211
        refine condF ha (by kernel_rfl) (by kernel_rfl) (t := (t3148.2 == 0)) (ieq_f hp3211) ?_
        refine wp_skip ?_
        refine thenN (hK3208 _ _ ?_); clear hK3208
        refine wp_seq_k (fun K3250 hK3251 => ?_)
        refine wp_region_lit ?_
        obtain ⟨t3252, ht3253, h_⟩ := bind_some' h; clear h; have h := h_; clear h_
        refine stepc ha 108 (by kernel_rfl) (by kernel_rfl) (headgatelaw25_wakes.calls K t3252 _ (HW.ca0 hG1) (HW.ca0 hG2) ht3253) ?_; clear ha a; rintro e W3254 ⟨rfl, HX3255⟩
        refine ⟨_, rfl, ?_⟩; intro a ha; replace HW := HW.callw HX3255; clear HX3255
        refine stepp ha 6 (.bool t3252) (by kernel_rfl) (by kernel_rfl) ?_; clear ha a; intro a ha
        refine endl ?_
        refine thenN (hK3251 _ _ ?_); clear hK3251
        refine wp_ret ?_
        obtain rfl := Option.some.inj h
        exact finv ha _ _ rfl (.tmp (v := .bool t3252) (by kernel_rfl) .nil) (.bool t3252) rfl ⟨rfl, HW.pick [] [] (by decide) (by decide) rfl (by kernel_rfl)⟩
end Go.Proofs.YtceagilmillgfaaDoor.F
