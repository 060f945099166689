/- (headgate/sense.row).outcome, (headgate/sense.row).sense, headgate/sense.Of, headgate/headgatekeep.Senses, headgate/sense.good$1, headgate/sense.good, strings.Repeat: plain functions, and that the calls come to what they say. No condition. -/
import Derived.Test.YthjjbkgifelooaaDoorFT
import Derived.Test.YthjjbkgifelooaaDoorXShelf
namespace Go.Proofs.YthjjbkgifelooaaDoor.F
open Go Go.RowKit Go.Proofs.YthjjbkgifelooaaDoor.X
set_option linter.unusedVariables false
set_option linter.unusedSimpArgs false
/-! ### (headgate/sense.row).outcome: function 64 -/
def sense_row_outcome.f (a0 : T_sense_row) (a1 : T_api_Out) : Option Bool :=
  if a0.f0 = a1.f0 then (if a0.f0 = 7 then (some (a0.f1 == a1.f3)) else (some true)) else (some false)
set_option maxRecDepth 100000 in
set_option maxHeartbeats 4000000 in
theorem sense_row_outcome.calls (a0 : T_sense_row) (a1 : T_api_Out) (A1_0 : Option Addr) (c1_0 : Nat) (r : Bool) (w : World) (hr1_0 : Rd 2 w (.slice A1_0 a1.f4.length c1_0) a1.f4.length (encs T_api_Reg.enc a1.f4)) (h : sense_row_outcome.f a0 a1 = some r) :
    Calls Tryd.prog 64 #[.agg #[.int .i64 a0.f0, .int .i64 a0.f1, .int .i64 a0.f2, .int .i64 a0.f3, .int .i64 a0.f4, .int .i64 a0.f5], .agg #[.int .i64 a1.f0, .string a1.f1, .int .i64 a1.f2, .int .i64 a1.f3, .slice A1_0 a1.f4.length c1_0, .int .u32 a1.f5, .int .i64 a1.f6.f0, .string a1.f6.f1, .int .i64 a1.f7]] w (fun e W' => e = .returned (.bool r) ∧ Wd w W' [] [] ) := by
  refine sxstart (n := 22) (l := [(0, .agg #[.int .i64 a0.f0, .int .i64 a0.f1, .int .i64 a0.f2, .int .i64 a0.f3, .int .i64 a0.f4, .int .i64 a0.f5]), (1, .agg #[.int .i64 a1.f0, .string a1.f1, .int .i64 a1.f2, .int .i64 a1.f3, .slice A1_0 a1.f4.length c1_0, .int .u32 a1.f5, .int .i64 a1.f6.f0, .string a1.f6.f1, .int .i64 a1.f7])]) Tryd.func64 rfl rfl (Nat.le_of_ble_eq_true KR) (subsA_cons rfl (subsA_cons rfl (subsA_nil _))) ?_
  intro a ha
  have HW := Wd.refl w
  unfold sense_row_outcome.f at h
  refine wp_seq_k (fun K4149 hK4150 => ?_)
  refine wp_region_lit ?_
  refine stepnew ha HW 2 #[.int .i64 a0.f0, .int .i64 a0.f1, .int .i64 a0.f2, .int .i64 a0.f3, .int .i64 a0.f4, .int .i64 a0.f5] 113 KR KR ?_; clear ha HW a; intro b4151 a W4152 HW ha
  refine stepnew ha HW 3 #[.int .i64 a1.f0, .string a1.f1, .int .i64 a1.f2, .int .i64 a1.f3, .slice A1_0 a1.f4.length c1_0, .int .u32 a1.f5, .int .i64 a1.f6.f0, .string a1.f6.f1, .int .i64 a1.f7] 64 KR KR ?_; clear ha HW a; intro b4153 a W4154 HW ha
  refine stepp ha 4 (.bool false) KR KR ?_; clear ha a; intro a ha
  refine endl ?_
  refine thenN (hK4150 _ _ ?_); clear hK4150
  refine wp_seq_k (fun K4155 hK4156 => ?_)
  refine wp_region_lit ?_
  refine stepp ha 5 (.pointer (some ⟨b4151, 0, none⟩)) KR KR ?_; clear ha a; intro a ha
  refine stepl ha 6 (HW.ca (i := 1) (b := b4151) (C := #[.int .i64 a0.f0, .int .i64 a0.f1, .int .i64 a0.f2, .int .i64 a0.f3, .int .i64 a0.f4, .int .i64 a0.f5]) (T := 113) (fr := (0, 0)) KR) 3 0 (.tmp 5) (.int .i64 a0.f0) rfl KR KR KR ?_; clear ha a; intro a ha
  refine stepp ha 7 (.pointer (some ⟨b4153, 0, none⟩)) KR KR ?_; clear ha a; intro a ha
  refine stepl ha 8 (HW.ca (i := 0) (b := b4153) (C := #[.int .i64 a1.f0, .string a1.f1, .int .i64 a1.f2, .int .i64 a1.f3, .slice A1_0 a1.f4.length c1_0, .int .u32 a1.f5, .int .i64 a1.f6.f0, .string a1.f6.f1, .int .i64 a1.f7]) (T := 64) (fr := (0, 0)) KR) 3 0 (.tmp 7) (.int .i64 a1.f0) rfl KR KR KR ?_; clear ha a; intro a ha
  refine stepp ha 9 (.bool (a0.f0 == a1.f0)) KR KR ?_; clear ha a; intro a ha
  refine stepp ha 10 (.bool (a0.f0 == a1.f0)) KR KR ?_; clear ha a; intro a ha
  by_cases hp4157 : a0.f0 = a1.f0
  · skip
    replace h := ite_pos' h hp4157
    replace ha := ha.bool 10 KR (ieq_t hp4157)
    refine stepp ha 11 (.pointer (some ⟨b4151, 0, none⟩)) KR KR ?_; clear ha a; intro a ha
    refine stepl ha 12 (HW.ca (i := 1) (b := b4151) (C := #[.int .i64 a0.f0, .int .i64 a0.f1, .int .i64 a0.f2, .int .i64 a0.f3, .int .i64 a0.f4, .int .i64 a0.f5]) (T := 113) (fr := (0, 0)) KR) 3 0 (.tmp 11) (.int .i64 a0.f0) rfl KR KR KR ?_; clear ha a; intro a ha
    refine stepp ha 13 (.bool (a0.f0 != 7)) KR KR ?_; clear ha a; intro a ha
    refine stepp ha 14 (.bool (a0.f0 != 7)) KR KR ?_; clear ha a; intro a ha
    by_cases hp4158 : a0.f0 = 7
    · skip
      replace h := ite_pos' h hp4158
      replace ha := ha.bool 14 KR (ineq_f hp4158)
      refine stepp ha 15 (.pointer (some ⟨b4151, 1, none⟩)) KR KR ?_; clear ha a; intro a ha
      refine stepl ha 16 (HW.ca (i := 1) (b := b4151) (C := #[.int .i64 a0.f0, .int .i64 a0.f1, .int .i64 a0.f2, .int .i64 a0.f3, .int .i64 a0.f4, .int .i64 a0.f5]) (T := 113) (fr := (0, 0)) KR) 3 1 (.tmp 15) (.int .i64 a0.f1) rfl KR KR KR ?_; clear ha a; intro a ha
      refine stepp ha 17 (.pointer (some ⟨b4153, 3, none⟩)) KR KR ?_; clear ha a; intro a ha
      refine stepl ha 18 (HW.ca (i := 0) (b := b4153) (C := #[.int .i64 a1.f0, .string a1.f1, .int .i64 a1.f2, .int .i64 a1.f3, .slice A1_0 a1.f4.length c1_0, .int .u32 a1.f5, .int .i64 a1.f6.f0, .string a1.f6.f1, .int .i64 a1.f7]) (T := 64) (fr := (0, 0)) KR) 3 3 (.tmp 17) (.int .i64 a1.f3) rfl KR KR KR ?_; clear ha a; intro a ha
      refine stepp ha 19 (.bool (a0.f1 == a1.f3)) KR KR ?_; clear ha a; intro a ha
      refine stepp ha 20 (.bool (a0.f1 == a1.f3)) KR KR ?_; clear ha a; intro a ha
      refine stepp ha 21 (.bool (a0.f1 == a1.f3)) KR KR ?_; clear ha a; intro a ha
      refine stepp ha 4 (.bool (a0.f1 == a1.f3)) KR KR ?_; clear ha a; intro a ha
      refine endl ?_
      refine thenN (hK4156 _ _ ?_); clear hK4156
      refine wp_ret ?_
      obtain rfl := Option.some.inj h
      exact finv ha _ _ rfl (.tmp (v := .bool (a0.f1 == a1.f3)) KR .nil) (.bool (a0.f1 == a1.f3)) rfl ⟨rfl, HW.pick [] [] (by decide) (by decide) rfl KR⟩
    · skip
      replace h := ite_neg' h hp4158
      replace ha := ha.bool 14 KR (ineq_t hp4158)
      refine stepo ha 15 KR ?_; clear ha a; intro a ha
      refine stepo ha 16 KR ?_; clear ha a; intro a ha
      refine stepo ha 17 KR ?_; clear ha a; intro a ha
      refine stepo ha 18 KR ?_; clear ha a; intro a ha
      refine stepo ha 19 KR ?_; clear ha a; intro a ha
      refine stepp ha 20 (.bool true) KR KR ?_; clear ha a; intro a ha
      refine stepp ha 21 (.bool true) KR KR ?_; clear ha a; intro a ha
      refine stepp ha 4 (.bool true) KR KR ?_; clear ha a; intro a ha
      refine endl ?_
      refine thenN (hK4156 _ _ ?_); clear hK4156
      refine wp_ret ?_
      obtain rfl := Option.some.inj h
      exact finv ha _ _ rfl (.tmp (v := .bool true) KR .nil) (.bool true) rfl ⟨rfl, HW.pick [] [] (by decide) (by decide) rfl KR⟩
  · skip
    replace h := ite_neg' h hp4157
    replace ha := ha.bool 10 KR (ieq_f hp4157)
    refine stepo ha 11 KR ?_; clear ha a; intro a ha
    refine stepo ha 12 KR ?_; clear ha a; intro a ha
    refine stepo ha 13 KR ?_; clear ha a; intro a ha
    refine stepo ha 14 KR ?_; clear ha a; intro a ha
    refine stepo ha 15 KR ?_; clear ha a; intro a ha
    refine stepo ha 16 KR ?_; clear ha a; intro a ha
    refine stepo ha 17 KR ?_; clear ha a; intro a ha
    refine stepo ha 18 KR ?_; clear ha a; intro a ha
    refine stepo ha 19 KR ?_; clear ha a; intro a ha
    refine stepo ha 20 KR ?_; clear ha a; intro a ha
    refine stepp ha 21 (.bool false) KR KR ?_; clear ha a; intro a ha
    refine stepp ha 4 (.bool false) KR KR ?_; clear ha a; intro a ha
    refine endl ?_
    refine thenN (hK4156 _ _ ?_); clear hK4156
    refine wp_ret ?_
    obtain rfl := Option.some.inj h
    exact finv ha _ _ rfl (.tmp (v := .bool false) KR .nil) (.bool false) rfl ⟨rfl, HW.pick [] [] (by decide) (by decide) rfl KR⟩
/-! ### (headgate/sense.row).sense: function 65 -/
def sense_row_sense.f (a0 : T_sense_row) : Option T_api_Sense :=
  some (⟨a0.f3, a0.f4, a0.f5, (-1)⟩ : T_api_Sense)
set_option maxRecDepth 100000 in
set_option maxHeartbeats 4000000 in
theorem sense_row_sense.calls (a0 : T_sense_row)  (r : T_api_Sense) (w : World)  (h : sense_row_sense.f a0 = some r) :
    Calls Tryd.prog 65 #[.agg #[.int .i64 a0.f0, .int .i64 a0.f1, .int .i64 a0.f2, .int .i64 a0.f3, .int .i64 a0.f4, .int .i64 a0.f5]] w (fun e W' => e = .returned (.agg #[.int .i64 r.f0, .int .i64 r.f1, .int .i64 r.f2, .int .i64 r.f3]) ∧ Wd w W' [] [] ) := by
  refine sxstart (n := 10) (l := [(0, .agg #[.int .i64 a0.f0, .int .i64 a0.f1, .int .i64 a0.f2, .int .i64 a0.f3, .int .i64 a0.f4, .int .i64 a0.f5])]) Tryd.func65 rfl rfl (Nat.le_of_ble_eq_true KR) (subsA_cons rfl (subsA_nil _)) ?_
  intro a ha
  have HW := Wd.refl w
  unfold sense_row_sense.f at h
  refine wp_seq_k (fun K4159 hK4160 => ?_)
  refine wp_region_lit ?_
  refine stepnew ha HW 1 #[.int .i64 a0.f0, .int .i64 a0.f1, .int .i64 a0.f2, .int .i64 a0.f3, .int .i64 a0.f4, .int .i64 a0.f5] 113 KR KR ?_; clear ha HW a; intro b4161 a W4162 HW ha
  refine stepnew ha HW 2 #[.int .i64 0, .int .i64 0, .int .i64 0, .int .i64 0] 66 KR KR ?_; clear ha HW a; intro b4163 a W4164 HW ha
  refine endl ?_
  refine thenN (hK4160 _ _ ?_); clear hK4160
  refine wp_seq_k (fun K4165 hK4166 => ?_)
  refine wp_region_lit ?_
  refine stepp ha 3 (.pointer (some ⟨b4161, 3, none⟩)) KR KR ?_; clear ha a; intro a ha
  refine stepl ha 4 (HW.ca (i := 1) (b := b4161) (C := #[.int .i64 a0.f0, .int .i64 a0.f1, .int .i64 a0.f2, .int .i64 a0.f3, .int .i64 a0.f4, .int .i64 a0.f5]) (T := 113) (fr := (0, 0)) KR) 3 3 (.tmp 3) (.int .i64 a0.f3) rfl KR KR KR ?_; clear ha a; intro a ha
  refine stepp ha 5 (.pointer (some ⟨b4161, 4, none⟩)) KR KR ?_; clear ha a; intro a ha
  refine stepl ha 6 (HW.ca (i := 1) (b := b4161) (C := #[.int .i64 a0.f0, .int .i64 a0.f1, .int .i64 a0.f2, .int .i64 a0.f3, .int .i64 a0.f4, .int .i64 a0.f5]) (T := 113) (fr := (0, 0)) KR) 3 4 (.tmp 5) (.int .i64 a0.f4) rfl KR KR KR ?_; clear ha a; intro a ha
  refine stepp ha 7 (.pointer (some ⟨b4161, 5, none⟩)) KR KR ?_; clear ha a; intro a ha
  refine stepl ha 8 (HW.ca (i := 1) (b := b4161) (C := #[.int .i64 a0.f0, .int .i64 a0.f1, .int .i64 a0.f2, .int .i64 a0.f3, .int .i64 a0.f4, .int .i64 a0.f5]) (T := 113) (fr := (0, 0)) KR) 3 5 (.tmp 7) (.int .i64 a0.f5) rfl KR KR KR ?_; clear ha a; intro a ha
  refine stepp ha 9 (.agg #[.int .i64 a0.f3, .int .i64 a0.f4, .int .i64 a0.f5, .int .i64 (-1)]) KR KR ?_; clear ha a; intro a ha
  refine stepst ha HW 0 (b := b4163) (C := #[.int .i64 0, .int .i64 0, .int .i64 0, .int .i64 0]) (T := 66) KR 66 0 (.tmp 2) (.tmp 9) (.agg #[.int .i64 a0.f3, .int .i64 a0.f4, .int .i64 a0.f5, .int .i64 (-1)]) #[.int .i64 a0.f3, .int .i64 a0.f4, .int .i64 a0.f5, .int .i64 (-1)] rfl KR KR KR KR KR KR KR ?_; clear ha HW a; intro a W4167 HW ha
  refine endl ?_
  refine thenN (hK4166 _ _ ?_); clear hK4166
  refine wp_ret ?_
  obtain rfl := Option.some.inj h
  exact finv ha _ _ rfl (.cell (ad := ⟨b4163, 0, none⟩) (v := .agg #[.int .i64 a0.f3, .int .i64 a0.f4, .int .i64 a0.f5, .int .i64 (-1)]) KR (run_loadVar_ca0 (HW.ca (i := 0) (b := b4163) (C := #[.int .i64 a0.f3, .int .i64 a0.f4, .int .i64 a0.f5, .int .i64 (-1)]) (T := 66) (fr := (0, 0)) KR) 66 0 (.agg #[.int .i64 a0.f3, .int .i64 a0.f4, .int .i64 a0.f5, .int .i64 (-1)]) KR) .nil) (.agg #[.int .i64 a0.f3, .int .i64 a0.f4, .int .i64 a0.f5, .int .i64 (-1)]) rfl ⟨rfl, HW.pick [] [] (by decide) (by decide) rfl KR⟩
/-! ### headgate/sense.Of: function 31 -/
def sense_Of_0.b0 (K : Nat) (x4183 : Int) (x4184 : ByteArray) (x4185 : Int) (x4186 : Int) (x4187 : List T_api_Reg) (x4191 : Int) (x4192 : Int) (x4193 : ByteArray) (x4194 : Int) (again4283 : Int → Option (Int × T_api_Sense)) (x4284 : Int) : Option (Int × T_api_Sense) :=
  if x4284 < 11 then (asrt (0 ≤ x4284) ((sense_row_outcome.f (⟨(rdL T_sense_row.z G_sense_rows x4284).f0, (rdL T_sense_row.z G_sense_rows x4284).f1, (rdL T_sense_row.z G_sense_rows x4284).f2, (rdL T_sense_row.z G_sense_rows x4284).f3, (rdL T_sense_row.z G_sense_rows x4284).f4, (rdL T_sense_row.z G_sense_rows x4284).f5⟩ : T_sense_row) (⟨x4183, x4184, x4185, x4186, x4187, x4191, (⟨x4192, x4193⟩ : T_api_Hold), x4194⟩ : T_api_Out)).bind fun t4303 => (if t4303 = true then ((sense_row_sense.f (⟨(rdL T_sense_row.z G_sense_rows x4284).f0, (rdL T_sense_row.z G_sense_rows x4284).f1, (rdL T_sense_row.z G_sense_rows x4284).f2, (rdL T_sense_row.z G_sense_rows x4284).f3, (rdL T_sense_row.z G_sense_rows x4284).f4, (rdL T_sense_row.z G_sense_rows x4284).f5⟩ : T_sense_row)).bind fun t4310 => (if ((rdL T_sense_row.z G_sense_rows x4284).f0) = 3 then (some ((rdL T_sense_row.z G_sense_rows x4284).f2, (⟨t4310.f0, t4310.f1, t4310.f2, x4185⟩ : T_api_Sense))) else (some ((rdL T_sense_row.z G_sense_rows x4284).f2, t4310)))) else (again4283 (IntKind.wrap .i64 (x4284 + 1)))))) else (none)
def sense_Of_0.l0 (K : Nat) (x4183 : Int) (x4184 : ByteArray) (x4185 : Int) (x4186 : Int) (x4187 : List T_api_Reg) (x4191 : Int) (x4192 : Int) (x4193 : ByteArray) (x4194 : Int) : Nat → Int → Option (Int × T_api_Sense)
  | 0, _ => none
  | k_ + 1, x4284 => sense_Of_0.b0 K x4183 x4184 x4185 x4186 x4187 x4191 x4192 x4193 x4194 (sense_Of_0.l0 K x4183 x4184 x4185 x4186 x4187 x4191 x4192 x4193 x4194 k_) x4284
def sense_Of_0.j0 (K : Nat) (x4183 : Int) (x4184 : ByteArray) (x4185 : Int) (x4186 : Int) (x4187 : List T_api_Reg) (x4191 : Int) (x4192 : Int) (x4193 : ByteArray) (x4194 : Int) : Option (Int × T_api_Sense) :=
  sense_Of_0.l0 K x4183 x4184 x4185 x4186 x4187 x4191 x4192 x4193 x4194 K 0
def sense_Of_0.f (K : Nat) (a0 : T_api_Out) : Option (Int × T_api_Sense) :=
  if a0.f0 = 3 then (if a0.f2 < 0 then (sense_Of_0.j0 K  8 (⟨#[]⟩ : ByteArray) 0 0 ([] : List T_api_Reg) 0 0 (⟨#[]⟩ : ByteArray) 0) else (if a0.f2 ≥ 4294967296 then (sense_Of_0.j0 K  8 (⟨#[]⟩ : ByteArray) 0 0 ([] : List T_api_Reg) 0 0 (⟨#[]⟩ : ByteArray) 0) else (sense_Of_0.j0 K  a0.f0 a0.f1 a0.f2 a0.f3 a0.f4 a0.f5 a0.f6.f0 a0.f6.f1 a0.f7))) else (sense_Of_0.j0 K  a0.f0 a0.f1 a0.f2 a0.f3 a0.f4 a0.f5 a0.f6.f0 a0.f6.f1 a0.f7)
set_option maxRecDepth 100000 in
set_option maxHeartbeats 4000000 in
theorem sense_Of_0.calls (K : Nat) (a0 : T_api_Out) (A0_0 : Option Addr) (c0_0 : Nat) (r : Int × T_api_Sense) (w : World) (hG3 : CA w 3 0 (encs T_sense_row.enc G_sense_rows).toArray) (hr0_0 : Rd 2 w (.slice A0_0 a0.f4.length c0_0) a0.f4.length (encs T_api_Reg.enc a0.f4)) (h : sense_Of_0.f K a0 = some r) :
    Calls Tryd.prog 31 #[.agg #[.int .i64 a0.f0, .string a0.f1, .int .i64 a0.f2, .int .i64 a0.f3, .slice A0_0 a0.f4.length c0_0, .int .u32 a0.f5, .int .i64 a0.f6.f0, .string a0.f6.f1, .int .i64 a0.f7]] w (fun e W' => e = .returned (.tuple #[.int .i64 r.1, .agg #[.int .i64 r.2.f0, .int .i64 r.2.f1, .int .i64 r.2.f2, .int .i64 r.2.f3]]) ∧ Wd w W' [] [] ) := by
  refine sxstart (n := 43) (l := [(0, .agg #[.int .i64 a0.f0, .string a0.f1, .int .i64 a0.f2, .int .i64 a0.f3, .slice A0_0 a0.f4.length c0_0, .int .u32 a0.f5, .int .i64 a0.f6.f0, .string a0.f6.f1, .int .i64 a0.f7])]) Tryd.func31 rfl rfl (Nat.le_of_ble_eq_true KR) (subsA_cons rfl (subsA_nil _)) ?_
  intro a ha
  have HW := Wd.refl w
  unfold sense_Of_0.f at h
  refine wp_seq_k (fun K4168 hK4169 => ?_)
  refine wp_region_lit ?_
  refine stepnew ha HW 1 #[.int .i64 a0.f0, .string a0.f1, .int .i64 a0.f2, .int .i64 a0.f3, .slice A0_0 a0.f4.length c0_0, .int .u32 a0.f5, .int .i64 a0.f6.f0, .string a0.f6.f1, .int .i64 a0.f7] 64 KR KR ?_; clear ha HW a; intro b4170 a W4171 HW ha
  refine stepp ha 2 (.int .i64 0) KR KR ?_; clear ha a; intro a ha
  refine stepnew ha HW 3 #[.int .i64 0, .int .i64 0, .int .i64 0, .int .i64 0] 66 KR KR ?_; clear ha HW a; intro b4172 a W4173 HW ha
  refine endl ?_
  refine thenN (hK4169 _ _ ?_); clear hK4169
  refine wp_seq_k (fun K4174 hK4175 => ?_)
  refine cutn (fun a W4195 => ∃ (x4183 : Int), ∃ (x4184 : ByteArray), ∃ (x4185 : Int), ∃ (x4186 : Int), ∃ (x4187 : List T_api_Reg), ∃ A4188, ∃ c4189, ∃ (x4191 : Int), ∃ (x4192 : Int), ∃ (x4193 : ByteArray), ∃ (x4194 : Int), sense_Of_0.j0 K  x4183 x4184 x4185 x4186 x4187 x4191 x4192 x4193 x4194 = some r ∧ Has 43 [(1, .pointer (some ⟨b4170, 0, none⟩)), (3, .pointer (some ⟨b4172, 0, none⟩))] a ∧ Wd w W4195 [(b4170, .cells #[.int .i64 x4183, .string x4184, .int .i64 x4185, .int .i64 x4186, .slice A4188 x4187.length c4189, .int .u32 x4191, .int .i64 x4192, .string x4193, .int .i64 x4194] 64 (0, 0)), (b4172, .cells #[.int .i64 0, .int .i64 0, .int .i64 0, .int .i64 0] 66 (0, 0))] [] ∧ Rd 2 w (.slice A4188 x4187.length c4189) x4187.length (encs T_api_Reg.enc x4187)) ?_ ?_
  · skip
    refine wp_seq_k (fun K4176 hK4177 => ?_)
    refine wp_region_lit ?_
    refine stepp ha 6 (.pointer (some ⟨b4170, 0, none⟩)) KR KR ?_; clear ha a; intro a ha
    refine stepl ha 7 (HW.ca (i := 1) (b := b4170) (C := #[.int .i64 a0.f0, .string a0.f1, .int .i64 a0.f2, .int .i64 a0.f3, .slice A0_0 a0.f4.length c0_0, .int .u32 a0.f5, .int .i64 a0.f6.f0, .string a0.f6.f1, .int .i64 a0.f7]) (T := 64) (fr := (0, 0)) KR) 3 0 (.tmp 6) (.int .i64 a0.f0) rfl KR KR KR ?_; clear ha a; intro a ha
    refine stepp ha 8 (.bool (a0.f0 == 3)) KR KR ?_; clear ha a; intro a ha
    refine stepp ha 9 (.bool (a0.f0 == 3)) KR KR ?_; clear ha a; intro a ha
    by_cases hp4178 : a0.f0 = 3
    · skip
      replace h := ite_pos' h hp4178
      replace ha := ha.bool 9 KR (ieq_t hp4178)
      refine stepp ha 10 (.pointer (some ⟨b4170, 2, none⟩)) KR KR ?_; clear ha a; intro a ha
      refine stepl ha 11 (HW.ca (i := 1) (b := b4170) (C := #[.int .i64 a0.f0, .string a0.f1, .int .i64 a0.f2, .int .i64 a0.f3, .slice A0_0 a0.f4.length c0_0, .int .u32 a0.f5, .int .i64 a0.f6.f0, .string a0.f6.f1, .int .i64 a0.f7]) (T := 64) (fr := (0, 0)) KR) 3 2 (.tmp 10) (.int .i64 a0.f2) rfl KR KR KR ?_; clear ha a; intro a ha
      refine stepp ha 12 (.bool (decide (a0.f2 < 0))) KR KR ?_; clear ha a; intro a ha
      refine stepp ha 13 (.bool (decide (a0.f2 < 0))) KR KR ?_; clear ha a; intro a ha
      by_cases hp4179 : a0.f2 < 0
      · skip
        replace h := ite_pos' h hp4179
        replace ha := ha.bool 13 KR (decide_eq_true hp4179)
        refine stepo ha 14 KR ?_; clear ha a; intro a ha
        refine stepo ha 15 KR ?_; clear ha a; intro a ha
        refine stepo ha 16 KR ?_; clear ha a; intro a ha
        refine stepp ha 17 (.bool true) KR KR ?_; clear ha a; intro a ha
        refine stepp ha 18 (.bool true) KR KR ?_; clear ha a; intro a ha
        refine endl ?_
        refine thenN (hK4177 _ _ ?_); clear hK4177
        refine condT ha KR KR (t := true) (rfl) ?_
        refine wp_region_lit ?_
        refine stepp ha 19 (.agg #[.int .i64 8, .string (⟨#[]⟩ : ByteArray), .int .i64 0, .int .i64 0, .slice none 0 0, .int .u32 0, .int .i64 0, .string (⟨#[]⟩ : ByteArray), .int .i64 0]) KR KR ?_; clear ha a; intro a ha
        refine stepst ha HW 1 (b := b4170) (C := #[.int .i64 a0.f0, .string a0.f1, .int .i64 a0.f2, .int .i64 a0.f3, .slice A0_0 a0.f4.length c0_0, .int .u32 a0.f5, .int .i64 a0.f6.f0, .string a0.f6.f1, .int .i64 a0.f7]) (T := 64) KR 64 0 (.tmp 1) (.tmp 19) (.agg #[.int .i64 8, .string (⟨#[]⟩ : ByteArray), .int .i64 0, .int .i64 0, .slice none 0 0, .int .u32 0, .int .i64 0, .string (⟨#[]⟩ : ByteArray), .int .i64 0]) #[.int .i64 8, .string (⟨#[]⟩ : ByteArray), .int .i64 0, .int .i64 0, .slice none 0 0, .int .u32 0, .int .i64 0, .string (⟨#[]⟩ : ByteArray), .int .i64 0] rfl KR KR KR KR KR KR KR ?_; clear ha HW a; intro a W4180 HW ha
        refine endl ?_
        exact thenN ⟨8, (⟨#[]⟩ : ByteArray), 0, 0, ([] : List T_api_Reg), none, 0, 0, 0, (⟨#[]⟩ : ByteArray), 0, h, ha.sub (subs_cons KR (subs_cons KR (subs_nil _))), HW.pick [1, 0] [] (by decide) (by decide) KR KR, Rd.nil _ _⟩
      · skip
        replace h := ite_neg' h hp4179
        replace ha := ha.bool 13 KR (decide_eq_false hp4179)
        refine stepp ha 14 (.pointer (some ⟨b4170, 2, none⟩)) KR KR ?_; clear ha a; intro a ha
        refine stepl ha 15 (HW.ca (i := 1) (b := b4170) (C := #[.int .i64 a0.f0, .string a0.f1, .int .i64 a0.f2, .int .i64 a0.f3, .slice A0_0 a0.f4.length c0_0, .int .u32 a0.f5, .int .i64 a0.f6.f0, .string a0.f6.f1, .int .i64 a0.f7]) (T := 64) (fr := (0, 0)) KR) 3 2 (.tmp 14) (.int .i64 a0.f2) rfl KR KR KR ?_; clear ha a; intro a ha
        refine stepp ha 16 (.bool (decide (a0.f2 ≥ 4294967296))) KR KR ?_; clear ha a; intro a ha
        refine stepp ha 17 (.bool (decide (a0.f2 ≥ 4294967296))) KR KR ?_; clear ha a; intro a ha
        refine stepp ha 18 (.bool (decide (a0.f2 ≥ 4294967296))) KR KR ?_; clear ha a; intro a ha
        refine endl ?_
        refine thenN (hK4177 _ _ ?_); clear hK4177
        by_cases hp4181 : a0.f2 ≥ 4294967296
        · skip
          replace h := ite_pos' h hp4181
          refine condT ha KR KR (t := decide (a0.f2 ≥ 4294967296)) (decide_eq_true hp4181) ?_
          refine wp_region_lit ?_
          refine stepp ha 19 (.agg #[.int .i64 8, .string (⟨#[]⟩ : ByteArray), .int .i64 0, .int .i64 0, .slice none 0 0, .int .u32 0, .int .i64 0, .string (⟨#[]⟩ : ByteArray), .int .i64 0]) KR KR ?_; clear ha a; intro a ha
          refine stepst ha HW 1 (b := b4170) (C := #[.int .i64 a0.f0, .string a0.f1, .int .i64 a0.f2, .int .i64 a0.f3, .slice A0_0 a0.f4.length c0_0, .int .u32 a0.f5, .int .i64 a0.f6.f0, .string a0.f6.f1, .int .i64 a0.f7]) (T := 64) KR 64 0 (.tmp 1) (.tmp 19) (.agg #[.int .i64 8, .string (⟨#[]⟩ : ByteArray), .int .i64 0, .int .i64 0, .slice none 0 0, .int .u32 0, .int .i64 0, .string (⟨#[]⟩ : ByteArray), .int .i64 0]) #[.int .i64 8, .string (⟨#[]⟩ : ByteArray), .int .i64 0, .int .i64 0, .slice none 0 0, .int .u32 0, .int .i64 0, .string (⟨#[]⟩ : ByteArray), .int .i64 0] rfl KR KR KR KR KR KR KR ?_; clear ha HW a; intro a W4182 HW ha
          refine endl ?_
          exact thenN ⟨8, (⟨#[]⟩ : ByteArray), 0, 0, ([] : List T_api_Reg), none, 0, 0, 0, (⟨#[]⟩ : ByteArray), 0, h, ha.sub (subs_cons KR (subs_cons KR (subs_nil _))), HW.pick [1, 0] [] (by decide) (by decide) KR KR, Rd.nil _ _⟩
        · skip
          replace h := ite_neg' h hp4181
          refine condF ha KR KR (t := decide (a0.f2 ≥ 4294967296)) (decide_eq_false hp4181) ?_
          refine wp_skip ?_
          exact thenN ⟨a0.f0, a0.f1, a0.f2, a0.f3, a0.f4, A0_0, c0_0, a0.f5, a0.f6.f0, a0.f6.f1, a0.f7, h, ha.sub (subs_cons KR (subs_cons KR (subs_nil _))), HW.pick [1, 0] [] (by decide) (by decide) KR KR, hr0_0⟩
    · skip
      replace h := ite_neg' h hp4178
      replace ha := ha.bool 9 KR (ieq_f hp4178)
      refine stepo ha 10 KR ?_; clear ha a; intro a ha
      refine stepo ha 11 KR ?_; clear ha a; intro a ha
      refine stepo ha 12 KR ?_; clear ha a; intro a ha
      refine stepo ha 13 KR ?_; clear ha a; intro a ha
      refine stepo ha 14 KR ?_; clear ha a; intro a ha
      refine stepo ha 15 KR ?_; clear ha a; intro a ha
      refine stepo ha 16 KR ?_; clear ha a; intro a ha
      refine stepo ha 17 KR ?_; clear ha a; intro a ha
      refine stepp ha 18 (.bool false) KR KR ?_; clear ha a; intro a ha
      refine endl ?_
      refine thenN (hK4177 _ _ ?_); clear hK4177
      refine condF ha KR KR (t := false) (rfl) ?_
      refine wp_skip ?_
      exact thenN ⟨a0.f0, a0.f1, a0.f2, a0.f3, a0.f4, A0_0, c0_0, a0.f5, a0.f6.f0, a0.f6.f1, a0.f7, h, ha.sub (subs_cons KR (subs_cons KR (subs_nil _))), HW.pick [1, 0] [] (by decide) (by decide) KR KR, hr0_0⟩
  · skip
    intro a W4195 hJ
    obtain ⟨x4183, x4184, x4185, x4186, x4187, A4188, c4189, x4191, x4192, x4193, x4194, h, ha, HW, hr4190⟩ := hJ
    replace h : sense_Of_0.j0 K  x4183 x4184 x4185 x4186 x4187 x4191 x4192 x4193 x4194 = some r := h
    unfold sense_Of_0.j0 at h
    refine hK4175 _ _ ?_; clear hK4175
    refine wp_seq_k (fun K4196 hK4197 => ?_)
    refine wp_seq_k (fun K4198 hK4199 => ?_)
    refine wp_region_lit ?_
    refine stepl ha 20 (HW.ca0 hG3) 114 0 (.global 3) (.agg (encs T_sense_row.enc G_sense_rows).toArray) rfl KR KR KR ?_; clear ha a; intro a ha
    refine stepp ha 21 (.int .i64 0) KR KR ?_; clear ha a; intro a ha
    refine endl ?_
    refine thenN (hK4199 _ _ ?_); clear hK4199
    refine wp_block ?_
    refine loopk (fun k => fun a W4285 => ∃ (x4284 : Int), sense_Of_0.l0 K x4183 x4184 x4185 x4186 x4187 x4191 x4192 x4193 x4194 k x4284 = some r ∧ Has 43 [(1, .pointer (some ⟨b4170, 0, none⟩)), (3, .pointer (some ⟨b4172, 0, none⟩)), (20, .agg (encs T_sense_row.enc G_sense_rows).toArray), (21, .int .i64 x4284)] a ∧ Wd w W4285 [(b4170, .cells #[.int .i64 x4183, .string x4184, .int .i64 x4185, .int .i64 x4186, .slice A4188 x4187.length c4189, .int .u32 x4191, .int .i64 x4192, .string x4193, .int .i64 x4194] 64 (0, 0)), (b4172, .cells #[.int .i64 0, .int .i64 0, .int .i64 0, .int .i64 0] 66 (0, 0))] []) K ?_ ?_
    · skip
      exact ⟨0, h, ha.sub (subs_cons KR (subs_cons KR (subs_cons KR (subs_cons KR (subs_nil _))))), HW.pick [0, 1] [] (by decide) (by decide) KR KR⟩
    · skip
      intro k a W4285 hI
      obtain ⟨x4284, h, ha, HW⟩ := hI
      cases k with
      | zero => exact (none_some (show none = some r from h)).elim
      | succ k4286 =>
        replace h : sense_Of_0.b0 K x4183 x4184 x4185 x4186 x4187 x4191 x4192 x4193 x4194 (sense_Of_0.l0 K x4183 x4184 x4185 x4186 x4187 x4191 x4192 x4193 x4194 k4286) x4284 = some r := h
        obtain ⟨again4283, hag4287⟩ : ∃ g_, g_ = sense_Of_0.l0 K x4183 x4184 x4185 x4186 x4187 x4191 x4192 x4193 x4194 k4286 := ⟨_, rfl⟩
        rw [← hag4287] at h
        unfold sense_Of_0.b0 at h
        refine wp_seq_k (fun K4288 hK4289 => ?_)
        refine wp_region_lit ?_
        refine stepp ha 22 (.bool (decide (x4284 < 11))) KR KR ?_; clear ha a; intro a ha
        refine endl ?_
        refine thenN (hK4289 _ _ ?_); clear hK4289
        refine wp_seq_k (fun K4290 hK4291 => ?_)
        by_cases hp4292 : x4284 < 11
        · skip
          replace h := ite_pos' h hp4292
          refine condT ha KR KR (t := decide (x4284 < 11)) (decide_eq_true hp4292) ?_
          refine wp_skip ?_
          refine thenN (hK4291 _ _ ?_); clear hK4291
          refine wp_seq_k (fun K4293 hK4294 => ?_)
          refine wp_block ?_
          refine wp_seq_k (fun K4295 hK4296 => ?_)
          refine wp_region_lit ?_
          obtain ⟨hA4297, h_⟩ := asrt_some h; clear h; have h := h_; clear h_
          refine stepag T_sense_row.enc T_sense_row.z ha 23 114 11 113 (.tmp 20) (.tmp 21) .i64 x4284 G_sense_rows (.agg #[.int .i64 ((rdL T_sense_row.z G_sense_rows x4284).f0), .int .i64 ((rdL T_sense_row.z G_sense_rows x4284).f1), .int .i64 ((rdL T_sense_row.z G_sense_rows x4284).f2), .int .i64 ((rdL T_sense_row.z G_sense_rows x4284).f3), .int .i64 ((rdL T_sense_row.z G_sense_rows x4284).f4), .int .i64 ((rdL T_sense_row.z G_sense_rows x4284).f5)]) rfl KR KR KR KR (fun _ => rfl) hA4297 hp4292 KR rfl ?_; clear ha a; intro a ha
          refine stepnew ha HW 5 #[.int .i64 0, .int .i64 0, .int .i64 0, .int .i64 0, .int .i64 0, .int .i64 0] 113 KR KR ?_; clear ha HW a; intro b4298 a W4299 HW ha
          refine stepst ha HW 0 (b := b4298) (C := #[.int .i64 0, .int .i64 0, .int .i64 0, .int .i64 0, .int .i64 0, .int .i64 0]) (T := 113) KR 113 0 (.tmp 5) (.tmp 23) (.agg #[.int .i64 ((rdL T_sense_row.z G_sense_rows x4284).f0), .int .i64 ((rdL T_sense_row.z G_sense_rows x4284).f1), .int .i64 ((rdL T_sense_row.z G_sense_rows x4284).f2), .int .i64 ((rdL T_sense_row.z G_sense_rows x4284).f3), .int .i64 ((rdL T_sense_row.z G_sense_rows x4284).f4), .int .i64 ((rdL T_sense_row.z G_sense_rows x4284).f5)]) #[.int .i64 ((rdL T_sense_row.z G_sense_rows x4284).f0), .int .i64 ((rdL T_sense_row.z G_sense_rows x4284).f1), .int .i64 ((rdL T_sense_row.z G_sense_rows x4284).f2), .int .i64 ((rdL T_sense_row.z G_sense_rows x4284).f3), .int .i64 ((rdL T_sense_row.z G_sense_rows x4284).f4), .int .i64 ((rdL T_sense_row.z G_sense_rows x4284).f5)] rfl KR KR KR KR KR KR KR ?_; clear ha HW a; intro a W4300 HW ha
          refine endl ?_
          refine thenN (hK4296 _ _ ?_); clear hK4296
          refine wp_seq_k (fun K4301 hK4302 => ?_)
          refine wp_region_lit ?_
          refine stepl ha 24 (HW.ca (i := 0) (b := b4298) (C := #[.int .i64 ((rdL T_sense_row.z G_sense_rows x4284).f0), .int .i64 ((rdL T_sense_row.z G_sense_rows x4284).f1), .int .i64 ((rdL T_sense_row.z G_sense_rows x4284).f2), .int .i64 ((rdL T_sense_row.z G_sense_rows x4284).f3), .int .i64 ((rdL T_sense_row.z G_sense_rows x4284).f4), .int .i64 ((rdL T_sense_row.z G_sense_rows x4284).f5)]) (T := 113) (fr := (0, 0)) KR) 113 0 (.tmp 5) (.agg #[.int .i64 ((rdL T_sense_row.z G_sense_rows x4284).f0), .int .i64 ((rdL T_sense_row.z G_sense_rows x4284).f1), .int .i64 ((rdL T_sense_row.z G_sense_rows x4284).f2), .int .i64 ((rdL T_sense_row.z G_sense_rows x4284).f3), .int .i64 ((rdL T_sense_row.z G_sense_rows x4284).f4), .int .i64 ((rdL T_sense_row.z G_sense_rows x4284).f5)]) rfl KR KR KR ?_; clear ha a; intro a ha
          refine stepl ha 25 (HW.ca (i := 1) (b := b4170) (C := #[.int .i64 x4183, .string x4184, .int .i64 x4185, .int .i64 x4186, .slice A4188 x4187.length c4189, .int .u32 x4191, .int .i64 x4192, .string x4193, .int .i64 x4194]) (T := 64) (fr := (0, 0)) KR) 64 0 (.tmp 1) (.agg #[.int .i64 x4183, .string x4184, .int .i64 x4185, .int .i64 x4186, .slice A4188 x4187.length c4189, .int .u32 x4191, .int .i64 x4192, .string x4193, .int .i64 x4194]) rfl KR KR KR ?_; clear ha a; intro a ha
          obtain ⟨t4303, ht4304, h_⟩ := bind_some' h; clear h; have h := h_; clear h_
          refine stepc ha 26 KR KR (sense_row_outcome.calls (⟨(rdL T_sense_row.z G_sense_rows x4284).f0, (rdL T_sense_row.z G_sense_rows x4284).f1, (rdL T_sense_row.z G_sense_rows x4284).f2, (rdL T_sense_row.z G_sense_rows x4284).f3, (rdL T_sense_row.z G_sense_rows x4284).f4, (rdL T_sense_row.z G_sense_rows x4284).f5⟩ : T_sense_row) (⟨x4183, x4184, x4185, x4186, x4187, x4191, (⟨x4192, x4193⟩ : T_api_Hold), x4194⟩ : T_api_Out) A4188 c4189 t4303 _ ((HW.rd0 hr4190)) ht4304) ?_; clear ha a; rintro e W4305 ⟨rfl, HX4306⟩
          refine ⟨_, rfl, ?_⟩; intro a ha; replace HW := HW.callw HX4306; clear HX4306
          refine endl ?_
          refine thenN (hK4302 _ _ ?_); clear hK4302
          by_cases hp4307 : t4303 = true
          · skip
            replace h := ite_pos' h hp4307
            refine condT ha KR KR (t := t4303) (hp4307) ?_
            refine wp_seq_k (fun K4308 hK4309 => ?_)
            refine wp_region_lit ?_
            refine stepl ha 27 (HW.ca (i := 0) (b := b4298) (C := #[.int .i64 ((rdL T_sense_row.z G_sense_rows x4284).f0), .int .i64 ((rdL T_sense_row.z G_sense_rows x4284).f1), .int .i64 ((rdL T_sense_row.z G_sense_rows x4284).f2), .int .i64 ((rdL T_sense_row.z G_sense_rows x4284).f3), .int .i64 ((rdL T_sense_row.z G_sense_rows x4284).f4), .int .i64 ((rdL T_sense_row.z G_sense_rows x4284).f5)]) (T := 113) (fr := (0, 0)) KR) 113 0 (.tmp 5) (.agg #[.int .i64 ((rdL T_sense_row.z G_sense_rows x4284).f0), .int .i64 ((rdL T_sense_row.z G_sense_rows x4284).f1), .int .i64 ((rdL T_sense_row.z G_sense_rows x4284).f2), .int .i64 ((rdL T_sense_row.z G_sense_rows x4284).f3), .int .i64 ((rdL T_sense_row.z G_sense_rows x4284).f4), .int .i64 ((rdL T_sense_row.z G_sense_rows x4284).f5)]) rfl KR KR KR ?_; clear ha a; intro a ha
            obtain ⟨t4310, ht4311, h_⟩ := bind_some' h; clear h; have h := h_; clear h_
            refine stepc ha 28 KR KR (sense_row_sense.calls (⟨(rdL T_sense_row.z G_sense_rows x4284).f0, (rdL T_sense_row.z G_sense_rows x4284).f1, (rdL T_sense_row.z G_sense_rows x4284).f2, (rdL T_sense_row.z G_sense_rows x4284).f3, (rdL T_sense_row.z G_sense_rows x4284).f4, (rdL T_sense_row.z G_sense_rows x4284).f5⟩ : T_sense_row) t4310 _ ht4311) ?_; clear ha a; rintro e W4312 ⟨rfl, HX4313⟩
            refine ⟨_, rfl, ?_⟩; intro a ha; replace HW := HW.callw HX4313; clear HX4313
            refine stepst ha HW 2 (b := b4172) (C := #[.int .i64 0, .int .i64 0, .int .i64 0, .int .i64 0]) (T := 66) KR 66 0 (.tmp 3) (.tmp 28) (.agg #[.int .i64 t4310.f0, .int .i64 t4310.f1, .int .i64 t4310.f2, .int .i64 t4310.f3]) #[.int .i64 t4310.f0, .int .i64 t4310.f1, .int .i64 t4310.f2, .int .i64 t4310.f3] rfl KR KR KR KR KR KR KR ?_; clear ha HW a; intro a W4314 HW ha
            refine endl ?_
            refine thenN (hK4309 _ _ ?_); clear hK4309
            refine wp_seq_k (fun K4315 hK4316 => ?_)
            refine wp_seq_k (fun K4317 hK4318 => ?_)
            refine wp_region_lit ?_
            refine stepp ha 29 (.pointer (some ⟨b4298, 0, none⟩)) KR KR ?_; clear ha a; intro a ha
            refine stepl ha 30 (HW.ca (i := 0) (b := b4298) (C := #[.int .i64 ((rdL T_sense_row.z G_sense_rows x4284).f0), .int .i64 ((rdL T_sense_row.z G_sense_rows x4284).f1), .int .i64 ((rdL T_sense_row.z G_sense_rows x4284).f2), .int .i64 ((rdL T_sense_row.z G_sense_rows x4284).f3), .int .i64 ((rdL T_sense_row.z G_sense_rows x4284).f4), .int .i64 ((rdL T_sense_row.z G_sense_rows x4284).f5)]) (T := 113) (fr := (0, 0)) KR) 3 0 (.tmp 29) (.int .i64 ((rdL T_sense_row.z G_sense_rows x4284).f0)) rfl KR KR KR ?_; clear ha a; intro a ha
            refine stepp ha 31 (.bool (((rdL T_sense_row.z G_sense_rows x4284).f0) == 3)) KR KR ?_; clear ha a; intro a ha
            refine endl ?_
            refine thenN (hK4318 _ _ ?_); clear hK4318
            by_cases hp4319 : ((rdL T_sense_row.z G_sense_rows x4284).f0) = 3
            · skip
              replace h := ite_pos' h hp4319
              refine condT ha KR KR (t := (((rdL T_sense_row.z G_sense_rows x4284).f0) == 3)) (ieq_t hp4319) ?_
              refine wp_region_lit ?_
              refine stepp ha 32 (.pointer (some ⟨b4170, 2, none⟩)) KR KR ?_; clear ha a; intro a ha
              refine stepl ha 33 (HW.ca (i := 1) (b := b4170) (C := #[.int .i64 x4183, .string x4184, .int .i64 x4185, .int .i64 x4186, .slice A4188 x4187.length c4189, .int .u32 x4191, .int .i64 x4192, .string x4193, .int .i64 x4194]) (T := 64) (fr := (0, 0)) KR) 3 2 (.tmp 32) (.int .i64 x4185) rfl KR KR KR ?_; clear ha a; intro a ha
              refine stepp ha 34 (.pointer (some ⟨b4172, 3, none⟩)) KR KR ?_; clear ha a; intro a ha
              refine stepst ha HW 2 (b := b4172) (C := #[.int .i64 t4310.f0, .int .i64 t4310.f1, .int .i64 t4310.f2, .int .i64 t4310.f3]) (T := 66) KR 3 3 (.tmp 34) (.tmp 33) (.int .i64 x4185) #[.int .i64 t4310.f0, .int .i64 t4310.f1, .int .i64 t4310.f2, .int .i64 x4185] rfl KR KR KR KR KR KR KR ?_; clear ha HW a; intro a W4320 HW ha
              refine endl ?_
              refine thenN (hK4316 _ _ ?_); clear hK4316
              refine wp_seq_k (fun K4321 hK4322 => ?_)
              refine regionG 4 KR KR ha HW [.fix (.pointer (some ⟨b4298, 2, none⟩)), .fix (.int .i64 ((rdL T_sense_row.z G_sense_rows x4284).f2)), .fix (.agg #[.int .i64 t4310.f0, .int .i64 t4310.f1, .int .i64 t4310.f2, .int .i64 x4185]), .fix (.int .i64 ((rdL T_sense_row.z G_sense_rows x4284).f2))] ?_ ?_
              · skip
                refine ⟨?_, ?_, ?_, ?_, trivial⟩
                · skip
                  intro a wr hn hd HW hs; have ha := hasNil hn hd
                  have ha := ha.add (seeE hs 5 (.pointer (some ⟨b4298, 0, none⟩)) KR KR)
                  refine yStep ha 35 KR ?_; intro l_ ha HK
                  refine stepp ha 35 (.pointer (some ⟨b4298, 2, none⟩)) KR KR ?_; intro ax hax; exact HK _ _ _ hax rfl (Below.refl _ _)
                · skip
                  intro a wr hn hd HW hs; have ha := hasNil hn hd
                  have ha := ha.add (seeF hs 35 0 (.pointer (some ⟨b4298, 2, none⟩)) KR KR)
                  refine yStep ha 36 KR ?_; intro l_ ha HK
                  refine stepl ha 36 (HW.ca (i := 0) (b := b4298) (C := #[.int .i64 ((rdL T_sense_row.z G_sense_rows x4284).f0), .int .i64 ((rdL T_sense_row.z G_sense_rows x4284).f1), .int .i64 ((rdL T_sense_row.z G_sense_rows x4284).f2), .int .i64 ((rdL T_sense_row.z G_sense_rows x4284).f3), .int .i64 ((rdL T_sense_row.z G_sense_rows x4284).f4), .int .i64 ((rdL T_sense_row.z G_sense_rows x4284).f5)]) (T := 113) (fr := (0, 0)) KR) 3 2 (.tmp 35) (.int .i64 ((rdL T_sense_row.z G_sense_rows x4284).f2)) rfl KR KR KR ?_; intro ax hax; exact HK _ _ _ hax rfl (Below.refl _ _)
                · skip
                  intro a wr hn hd HW hs; have ha := hasNil hn hd
                  have ha := ha.add (seeE hs 3 (.pointer (some ⟨b4172, 0, none⟩)) KR KR)
                  refine yStep ha 37 KR ?_; intro l_ ha HK
                  refine stepl ha 37 (HW.ca (i := 2) (b := b4172) (C := #[.int .i64 t4310.f0, .int .i64 t4310.f1, .int .i64 t4310.f2, .int .i64 x4185]) (T := 66) (fr := (0, 0)) KR) 66 0 (.tmp 3) (.agg #[.int .i64 t4310.f0, .int .i64 t4310.f1, .int .i64 t4310.f2, .int .i64 x4185]) rfl KR KR KR ?_; intro ax hax; exact HK _ _ _ hax rfl (Below.refl _ _)
                · skip
                  intro a wr hn hd HW hs; have ha := hasNil hn hd
                  have ha := ha.add (seeF hs 36 1 (.int .i64 ((rdL T_sense_row.z G_sense_rows x4284).f2)) KR KR)
                  refine yStep ha 2 KR ?_; intro l_ ha HK
                  refine stepp ha 2 (.int .i64 ((rdL T_sense_row.z G_sense_rows x4284).f2)) KR KR ?_; intro ax hax; exact HK _ _ _ hax rfl (Below.refl _ _)
              · skip
                intro a W4323 ha HW he hf
                replace ha := ha.add (gotF (m := 4) (j := 3) (d := 2) (v := .int .i64 ((rdL T_sense_row.z G_sense_rows x4284).f2)) hf KR KR KR)
                replace ha := ha.add (he 3 (.pointer (some ⟨b4172, 0, none⟩)) KR KR)
                replace ha := ha.add (gotF (m := 4) (j := 2) (d := 37) (v := .agg #[.int .i64 t4310.f0, .int .i64 t4310.f1, .int .i64 t4310.f2, .int .i64 x4185]) hf KR KR KR)
                clear he hf
                refine stepst ha HW 2 (b := b4172) (C := #[.int .i64 t4310.f0, .int .i64 t4310.f1, .int .i64 t4310.f2, .int .i64 x4185]) (T := 66) KR 66 0 (.tmp 3) (.tmp 37) (.agg #[.int .i64 t4310.f0, .int .i64 t4310.f1, .int .i64 t4310.f2, .int .i64 x4185]) #[.int .i64 t4310.f0, .int .i64 t4310.f1, .int .i64 t4310.f2, .int .i64 x4185] rfl KR KR KR KR KR KR KR ?_; clear ha HW a; intro a W4324 HW ha
                refine endl ?_
                refine thenN (hK4322 _ _ ?_); clear hK4322
                refine wp_ret ?_
                refine blkR ?_
                refine thenR ?_
                refine thenR ?_
                refine blkR ?_
                refine thenR ?_
                obtain rfl := Option.some.inj h
                exact finv ha _ _ rfl (.tmp (v := .int .i64 ((rdL T_sense_row.z G_sense_rows x4284).f2)) KR (.cell (ad := ⟨b4172, 0, none⟩) (v := .agg #[.int .i64 t4310.f0, .int .i64 t4310.f1, .int .i64 t4310.f2, .int .i64 x4185]) KR (run_loadVar_ca0 (HW.ca (i := 2) (b := b4172) (C := #[.int .i64 t4310.f0, .int .i64 t4310.f1, .int .i64 t4310.f2, .int .i64 x4185]) (T := 66) (fr := (0, 0)) KR) 66 0 (.agg #[.int .i64 t4310.f0, .int .i64 t4310.f1, .int .i64 t4310.f2, .int .i64 x4185]) KR) .nil)) (.tuple #[.int .i64 ((rdL T_sense_row.z G_sense_rows x4284).f2), .agg #[.int .i64 t4310.f0, .int .i64 t4310.f1, .int .i64 t4310.f2, .int .i64 x4185]]) rfl ⟨rfl, HW.pick [] [] (by decide) (by decide) rfl KR⟩
            · skip
              replace h := ite_neg' h hp4319
              refine condF ha KR KR (t := (((rdL T_sense_row.z G_sense_rows x4284).f0) == 3)) (ieq_f hp4319) ?_
              refine wp_skip ?_
              refine thenN (hK4316 _ _ ?_); clear hK4316
              refine wp_seq_k (fun K4325 hK4326 => ?_)
              refine regionG 4 KR KR ha HW [.fix (.pointer (some ⟨b4298, 2, none⟩)), .fix (.int .i64 ((rdL T_sense_row.z G_sense_rows x4284).f2)), .fix (.agg #[.int .i64 t4310.f0, .int .i64 t4310.f1, .int .i64 t4310.f2, .int .i64 t4310.f3]), .fix (.int .i64 ((rdL T_sense_row.z G_sense_rows x4284).f2))] ?_ ?_
              · skip
                refine ⟨?_, ?_, ?_, ?_, trivial⟩
                · skip
                  intro a wr hn hd HW hs; have ha := hasNil hn hd
                  have ha := ha.add (seeE hs 5 (.pointer (some ⟨b4298, 0, none⟩)) KR KR)
                  refine yStep ha 35 KR ?_; intro l_ ha HK
                  refine stepp ha 35 (.pointer (some ⟨b4298, 2, none⟩)) KR KR ?_; intro ax hax; exact HK _ _ _ hax rfl (Below.refl _ _)
                · skip
                  intro a wr hn hd HW hs; have ha := hasNil hn hd
                  have ha := ha.add (seeF hs 35 0 (.pointer (some ⟨b4298, 2, none⟩)) KR KR)
                  refine yStep ha 36 KR ?_; intro l_ ha HK
                  refine stepl ha 36 (HW.ca (i := 0) (b := b4298) (C := #[.int .i64 ((rdL T_sense_row.z G_sense_rows x4284).f0), .int .i64 ((rdL T_sense_row.z G_sense_rows x4284).f1), .int .i64 ((rdL T_sense_row.z G_sense_rows x4284).f2), .int .i64 ((rdL T_sense_row.z G_sense_rows x4284).f3), .int .i64 ((rdL T_sense_row.z G_sense_rows x4284).f4), .int .i64 ((rdL T_sense_row.z G_sense_rows x4284).f5)]) (T := 113) (fr := (0, 0)) KR) 3 2 (.tmp 35) (.int .i64 ((rdL T_sense_row.z G_sense_rows x4284).f2)) rfl KR KR KR ?_; intro ax hax; exact HK _ _ _ hax rfl (Below.refl _ _)
                · skip
                  intro a wr hn hd HW hs; have ha := hasNil hn hd
                  have ha := ha.add (seeE hs 3 (.pointer (some ⟨b4172, 0, none⟩)) KR KR)
                  refine yStep ha 37 KR ?_; intro l_ ha HK
                  refine stepl ha 37 (HW.ca (i := 2) (b := b4172) (C := #[.int .i64 t4310.f0, .int .i64 t4310.f1, .int .i64 t4310.f2, .int .i64 t4310.f3]) (T := 66) (fr := (0, 0)) KR) 66 0 (.tmp 3) (.agg #[.int .i64 t4310.f0, .int .i64 t4310.f1, .int .i64 t4310.f2, .int .i64 t4310.f3]) rfl KR KR KR ?_; intro ax hax; exact HK _ _ _ hax rfl (Below.refl _ _)
                · skip
                  intro a wr hn hd HW hs; have ha := hasNil hn hd
                  have ha := ha.add (seeF hs 36 1 (.int .i64 ((rdL T_sense_row.z G_sense_rows x4284).f2)) KR KR)
                  refine yStep ha 2 KR ?_; intro l_ ha HK
                  refine stepp ha 2 (.int .i64 ((rdL T_sense_row.z G_sense_rows x4284).f2)) KR KR ?_; intro ax hax; exact HK _ _ _ hax rfl (Below.refl _ _)
              · skip
                intro a W4327 ha HW he hf
                replace ha := ha.add (gotF (m := 4) (j := 3) (d := 2) (v := .int .i64 ((rdL T_sense_row.z G_sense_rows x4284).f2)) hf KR KR KR)
                replace ha := ha.add (he 3 (.pointer (some ⟨b4172, 0, none⟩)) KR KR)
                replace ha := ha.add (gotF (m := 4) (j := 2) (d := 37) (v := .agg #[.int .i64 t4310.f0, .int .i64 t4310.f1, .int .i64 t4310.f2, .int .i64 t4310.f3]) hf KR KR KR)
                clear he hf
                refine stepst ha HW 2 (b := b4172) (C := #[.int .i64 t4310.f0, .int .i64 t4310.f1, .int .i64 t4310.f2, .int .i64 t4310.f3]) (T := 66) KR 66 0 (.tmp 3) (.tmp 37) (.agg #[.int .i64 t4310.f0, .int .i64 t4310.f1, .int .i64 t4310.f2, .int .i64 t4310.f3]) #[.int .i64 t4310.f0, .int .i64 t4310.f1, .int .i64 t4310.f2, .int .i64 t4310.f3] rfl KR KR KR KR KR KR KR ?_; clear ha HW a; intro a W4328 HW ha
                refine endl ?_
                refine thenN (hK4326 _ _ ?_); clear hK4326
                refine wp_ret ?_
                refine blkR ?_
                refine thenR ?_
                refine thenR ?_
                refine blkR ?_
                refine thenR ?_
                obtain rfl := Option.some.inj h
                exact finv ha _ _ rfl (.tmp (v := .int .i64 ((rdL T_sense_row.z G_sense_rows x4284).f2)) KR (.cell (ad := ⟨b4172, 0, none⟩) (v := .agg #[.int .i64 t4310.f0, .int .i64 t4310.f1, .int .i64 t4310.f2, .int .i64 t4310.f3]) KR (run_loadVar_ca0 (HW.ca (i := 2) (b := b4172) (C := #[.int .i64 t4310.f0, .int .i64 t4310.f1, .int .i64 t4310.f2, .int .i64 t4310.f3]) (T := 66) (fr := (0, 0)) KR) 66 0 (.agg #[.int .i64 t4310.f0, .int .i64 t4310.f1, .int .i64 t4310.f2, .int .i64 t4310.f3]) KR) .nil)) (.tuple #[.int .i64 ((rdL T_sense_row.z G_sense_rows x4284).f2), .agg #[.int .i64 t4310.f0, .int .i64 t4310.f1, .int .i64 t4310.f2, .int .i64 t4310.f3]]) rfl ⟨rfl, HW.pick [] [] (by decide) (by decide) rfl KR⟩
          · skip
            replace h := ite_neg' h hp4307
            refine condF ha KR KR (t := t4303) (bool_f hp4307) ?_
            refine wp_skip ?_
            refine blkN ?_
            refine thenN (hK4294 _ _ ?_); clear hK4294
            refine wp_region_lit ?_
            refine stepp ha 38 (.int .i64 (IntKind.wrap .i64 (x4284 + 1))) KR KR ?_; clear ha a; intro a ha
            refine stepp ha 21 (.int .i64 (IntKind.wrap .i64 (x4284 + 1))) KR KR ?_; clear ha a; intro a ha
            refine endl ?_
            exact thenN ⟨k4286, Nat.lt_succ_self k4286, IntKind.wrap .i64 (x4284 + 1), (by rw [← hag4287]; exact h), ha.sub (subs_cons KR (subs_cons KR (subs_cons KR (subs_cons KR (subs_nil _))))), HW.pick [1, 2] [] (by decide) (by decide) KR KR⟩
        · skip
          replace h := ite_neg' h hp4292
          refine condF ha KR KR (t := decide (x4284 < 11)) (decide_eq_false hp4292) ?_
          refine wp_exit ?_
          refine thenE ?_
          refine thenE ?_
          refine inBlk ?_
          refine thenN (hK4197 _ _ ?_); clear hK4197
          refine wp_seq_k (fun K4329 hK4330 => ?_)
          refine wp_region_lit ?_
          refine stepp ha 39 (.agg #[.int .i64 8, .string (⟨#[]⟩ : ByteArray), .int .i64 0, .int .i64 0, .slice none 0 0, .int .u32 0, .int .i64 0, .string (⟨#[]⟩ : ByteArray), .int .i64 0]) KR KR ?_; clear ha a; intro a ha
          exact (none_some h).elim
/-! ### headgate/sense.Of: function 31 -/
def sense_Of.b0 (K : Nat) (x4346 : Int) (x4347 : ByteArray) (x4348 : Int) (x4349 : Int) (x4350 : List T_api_Reg) (x4354 : Int) (x4355 : Int) (x4356 : ByteArray) (x4357 : Int) (again4446 : Int → Option (Int × T_api_Sense)) (x4447 : Int) : Option (Int × T_api_Sense) :=
  if x4447 < 11 then (asrt (0 ≤ x4447) ((sense_row_outcome.f (⟨(rdL T_sense_row.z G_sense_rows x4447).f0, (rdL T_sense_row.z G_sense_rows x4447).f1, (rdL T_sense_row.z G_sense_rows x4447).f2, (rdL T_sense_row.z G_sense_rows x4447).f3, (rdL T_sense_row.z G_sense_rows x4447).f4, (rdL T_sense_row.z G_sense_rows x4447).f5⟩ : T_sense_row) (⟨x4346, x4347, x4348, x4349, x4350, x4354, (⟨x4355, x4356⟩ : T_api_Hold), x4357⟩ : T_api_Out)).bind fun t4466 => (if t4466 = true then ((sense_row_sense.f (⟨(rdL T_sense_row.z G_sense_rows x4447).f0, (rdL T_sense_row.z G_sense_rows x4447).f1, (rdL T_sense_row.z G_sense_rows x4447).f2, (rdL T_sense_row.z G_sense_rows x4447).f3, (rdL T_sense_row.z G_sense_rows x4447).f4, (rdL T_sense_row.z G_sense_rows x4447).f5⟩ : T_sense_row)).bind fun t4473 => (if ((rdL T_sense_row.z G_sense_rows x4447).f0) = 3 then (some ((rdL T_sense_row.z G_sense_rows x4447).f2, (⟨t4473.f0, t4473.f1, t4473.f2, x4348⟩ : T_api_Sense))) else (some ((rdL T_sense_row.z G_sense_rows x4447).f2, t4473)))) else (again4446 (IntKind.wrap .i64 (x4447 + 1)))))) else ((sense_Of_0.f K (⟨8, (⟨#[]⟩ : ByteArray), 0, 0, ([] : List T_api_Reg), 0, (⟨0, (⟨#[]⟩ : ByteArray)⟩ : T_api_Hold), 0⟩ : T_api_Out)).bind fun t4494 => (some (t4494.1, (⟨t4494.2.f0, t4494.2.f1, t4494.2.f2, t4494.2.f3⟩ : T_api_Sense))))
def sense_Of.l0 (K : Nat) (x4346 : Int) (x4347 : ByteArray) (x4348 : Int) (x4349 : Int) (x4350 : List T_api_Reg) (x4354 : Int) (x4355 : Int) (x4356 : ByteArray) (x4357 : Int) : Nat → Int → Option (Int × T_api_Sense)
  | 0, _ => none
  | k_ + 1, x4447 => sense_Of.b0 K x4346 x4347 x4348 x4349 x4350 x4354 x4355 x4356 x4357 (sense_Of.l0 K x4346 x4347 x4348 x4349 x4350 x4354 x4355 x4356 x4357 k_) x4447
def sense_Of.j0 (K : Nat) (x4346 : Int) (x4347 : ByteArray) (x4348 : Int) (x4349 : Int) (x4350 : List T_api_Reg) (x4354 : Int) (x4355 : Int) (x4356 : ByteArray) (x4357 : Int) : Option (Int × T_api_Sense) :=
  sense_Of.l0 K x4346 x4347 x4348 x4349 x4350 x4354 x4355 x4356 x4357 K 0
def sense_Of.f (K : Nat) (a0 : T_api_Out) : Option (Int × T_api_Sense) :=
  if a0.f0 = 3 then (if a0.f2 < 0 then (sense_Of.j0 K  8 (⟨#[]⟩ : ByteArray) 0 0 ([] : List T_api_Reg) 0 0 (⟨#[]⟩ : ByteArray) 0) else (if a0.f2 ≥ 4294967296 then (sense_Of.j0 K  8 (⟨#[]⟩ : ByteArray) 0 0 ([] : List T_api_Reg) 0 0 (⟨#[]⟩ : ByteArray) 0) else (sense_Of.j0 K  a0.f0 a0.f1 a0.f2 a0.f3 a0.f4 a0.f5 a0.f6.f0 a0.f6.f1 a0.f7))) else (sense_Of.j0 K  a0.f0 a0.f1 a0.f2 a0.f3 a0.f4 a0.f5 a0.f6.f0 a0.f6.f1 a0.f7)
set_option maxRecDepth 100000 in
set_option maxHeartbeats 4000000 in
theorem sense_Of.calls (K : Nat) (a0 : T_api_Out) (A0_0 : Option Addr) (c0_0 : Nat) (r : Int × T_api_Sense) (w : World) (hG3 : CA w 3 0 (encs T_sense_row.enc G_sense_rows).toArray) (hr0_0 : Rd 2 w (.slice A0_0 a0.f4.length c0_0) a0.f4.length (encs T_api_Reg.enc a0.f4)) (h : sense_Of.f K a0 = some r) :
    Calls Tryd.prog 31 #[.agg #[.int .i64 a0.f0, .string a0.f1, .int .i64 a0.f2, .int .i64 a0.f3, .slice A0_0 a0.f4.length c0_0, .int .u32 a0.f5, .int .i64 a0.f6.f0, .string a0.f6.f1, .int .i64 a0.f7]] w (fun e W' => e = .returned (.tuple #[.int .i64 r.1, .agg #[.int .i64 r.2.f0, .int .i64 r.2.f1, .int .i64 r.2.f2, .int .i64 r.2.f3]]) ∧ Wd w W' [] [] ) := by
  refine sxstart (n := 43) (l := [(0, .agg #[.int .i64 a0.f0, .string a0.f1, .int .i64 a0.f2, .int .i64 a0.f3, .slice A0_0 a0.f4.length c0_0, .int .u32 a0.f5, .int .i64 a0.f6.f0, .string a0.f6.f1, .int .i64 a0.f7])]) Tryd.func31 rfl rfl (Nat.le_of_ble_eq_true KR) (subsA_cons rfl (subsA_nil _)) ?_
  intro a ha
  have HW := Wd.refl w
  unfold sense_Of.f at h
  refine wp_seq_k (fun K4331 hK4332 => ?_)
  refine wp_region_lit ?_
  refine stepnew ha HW 1 #[.int .i64 a0.f0, .string a0.f1, .int .i64 a0.f2, .int .i64 a0.f3, .slice A0_0 a0.f4.length c0_0, .int .u32 a0.f5, .int .i64 a0.f6.f0, .string a0.f6.f1, .int .i64 a0.f7] 64 KR KR ?_; clear ha HW a; intro b4333 a W4334 HW ha
  refine stepp ha 2 (.int .i64 0) KR KR ?_; clear ha a; intro a ha
  refine stepnew ha HW 3 #[.int .i64 0, .int .i64 0, .int .i64 0, .int .i64 0] 66 KR KR ?_; clear ha HW a; intro b4335 a W4336 HW ha
  refine endl ?_
  refine thenN (hK4332 _ _ ?_); clear hK4332
  refine wp_seq_k (fun K4337 hK4338 => ?_)
  refine cutn (fun a W4358 => ∃ (x4346 : Int), ∃ (x4347 : ByteArray), ∃ (x4348 : Int), ∃ (x4349 : Int), ∃ (x4350 : List T_api_Reg), ∃ A4351, ∃ c4352, ∃ (x4354 : Int), ∃ (x4355 : Int), ∃ (x4356 : ByteArray), ∃ (x4357 : Int), sense_Of.j0 K  x4346 x4347 x4348 x4349 x4350 x4354 x4355 x4356 x4357 = some r ∧ Has 43 [(1, .pointer (some ⟨b4333, 0, none⟩)), (3, .pointer (some ⟨b4335, 0, none⟩))] a ∧ Wd w W4358 [(b4333, .cells #[.int .i64 x4346, .string x4347, .int .i64 x4348, .int .i64 x4349, .slice A4351 x4350.length c4352, .int .u32 x4354, .int .i64 x4355, .string x4356, .int .i64 x4357] 64 (0, 0)), (b4335, .cells #[.int .i64 0, .int .i64 0, .int .i64 0, .int .i64 0] 66 (0, 0))] [] ∧ Rd 2 w (.slice A4351 x4350.length c4352) x4350.length (encs T_api_Reg.enc x4350)) ?_ ?_
  · skip
    refine wp_seq_k (fun K4339 hK4340 => ?_)
    refine wp_region_lit ?_
    refine stepp ha 6 (.pointer (some ⟨b4333, 0, none⟩)) KR KR ?_; clear ha a; intro a ha
    refine stepl ha 7 (HW.ca (i := 1) (b := b4333) (C := #[.int .i64 a0.f0, .string a0.f1, .int .i64 a0.f2, .int .i64 a0.f3, .slice A0_0 a0.f4.length c0_0, .int .u32 a0.f5, .int .i64 a0.f6.f0, .string a0.f6.f1, .int .i64 a0.f7]) (T := 64) (fr := (0, 0)) KR) 3 0 (.tmp 6) (.int .i64 a0.f0) rfl KR KR KR ?_; clear ha a; intro a ha
    refine stepp ha 8 (.bool (a0.f0 == 3)) KR KR ?_; clear ha a; intro a ha
    refine stepp ha 9 (.bool (a0.f0 == 3)) KR KR ?_; clear ha a; intro a ha
    by_cases hp4341 : a0.f0 = 3
    · skip
      replace h := ite_pos' h hp4341
      replace ha := ha.bool 9 KR (ieq_t hp4341)
      refine stepp ha 10 (.pointer (some ⟨b4333, 2, none⟩)) KR KR ?_; clear ha a; intro a ha
      refine stepl ha 11 (HW.ca (i := 1) (b := b4333) (C := #[.int .i64 a0.f0, .string a0.f1, .int .i64 a0.f2, .int .i64 a0.f3, .slice A0_0 a0.f4.length c0_0, .int .u32 a0.f5, .int .i64 a0.f6.f0, .string a0.f6.f1, .int .i64 a0.f7]) (T := 64) (fr := (0, 0)) KR) 3 2 (.tmp 10) (.int .i64 a0.f2) rfl KR KR KR ?_; clear ha a; intro a ha
      refine stepp ha 12 (.bool (decide (a0.f2 < 0))) KR KR ?_; clear ha a; intro a ha
      refine stepp ha 13 (.bool (decide (a0.f2 < 0))) KR KR ?_; clear ha a; intro a ha
      by_cases hp4342 : a0.f2 < 0
      · skip
        replace h := ite_pos' h hp4342
        replace ha := ha.bool 13 KR (decide_eq_true hp4342)
        refine stepo ha 14 KR ?_; clear ha a; intro a ha
        refine stepo ha 15 KR ?_; clear ha a; intro a ha
        refine stepo ha 16 KR ?_; clear ha a; intro a ha
        refine stepp ha 17 (.bool true) KR KR ?_; clear ha a; intro a ha
        refine stepp ha 18 (.bool true) KR KR ?_; clear ha a; intro a ha
        refine endl ?_
        refine thenN (hK4340 _ _ ?_); clear hK4340
        refine condT ha KR KR (t := true) (rfl) ?_
        refine wp_region_lit ?_
        refine stepp ha 19 (.agg #[.int .i64 8, .string (⟨#[]⟩ : ByteArray), .int .i64 0, .int .i64 0, .slice none 0 0, .int .u32 0, .int .i64 0, .string (⟨#[]⟩ : ByteArray), .int .i64 0]) KR KR ?_; clear ha a; intro a ha
        refine stepst ha HW 1 (b := b4333) (C := #[.int .i64 a0.f0, .string a0.f1, .int .i64 a0.f2, .int .i64 a0.f3, .slice A0_0 a0.f4.length c0_0, .int .u32 a0.f5, .int .i64 a0.f6.f0, .string a0.f6.f1, .int .i64 a0.f7]) (T := 64) KR 64 0 (.tmp 1) (.tmp 19) (.agg #[.int .i64 8, .string (⟨#[]⟩ : ByteArray), .int .i64 0, .int .i64 0, .slice none 0 0, .int .u32 0, .int .i64 0, .string (⟨#[]⟩ : ByteArray), .int .i64 0]) #[.int .i64 8, .string (⟨#[]⟩ : ByteArray), .int .i64 0, .int .i64 0, .slice none 0 0, .int .u32 0, .int .i64 0, .string (⟨#[]⟩ : ByteArray), .int .i64 0] rfl KR KR KR KR KR KR KR ?_; clear ha HW a; intro a W4343 HW ha
        refine endl ?_
        exact thenN ⟨8, (⟨#[]⟩ : ByteArray), 0, 0, ([] : List T_api_Reg), none, 0, 0, 0, (⟨#[]⟩ : ByteArray), 0, h, ha.sub (subs_cons KR (subs_cons KR (subs_nil _))), HW.pick [1, 0] [] (by decide) (by decide) KR KR, Rd.nil _ _⟩
      · skip
        replace h := ite_neg' h hp4342
        replace ha := ha.bool 13 KR (decide_eq_false hp4342)
        refine stepp ha 14 (.pointer (some ⟨b4333, 2, none⟩)) KR KR ?_; clear ha a; intro a ha
        refine stepl ha 15 (HW.ca (i := 1) (b := b4333) (C := #[.int .i64 a0.f0, .string a0.f1, .int .i64 a0.f2, .int .i64 a0.f3, .slice A0_0 a0.f4.length c0_0, .int .u32 a0.f5, .int .i64 a0.f6.f0, .string a0.f6.f1, .int .i64 a0.f7]) (T := 64) (fr := (0, 0)) KR) 3 2 (.tmp 14) (.int .i64 a0.f2) rfl KR KR KR ?_; clear ha a; intro a ha
        refine stepp ha 16 (.bool (decide (a0.f2 ≥ 4294967296))) KR KR ?_; clear ha a; intro a ha
        refine stepp ha 17 (.bool (decide (a0.f2 ≥ 4294967296))) KR KR ?_; clear ha a; intro a ha
        refine stepp ha 18 (.bool (decide (a0.f2 ≥ 4294967296))) KR KR ?_; clear ha a; intro a ha
        refine endl ?_
        refine thenN (hK4340 _ _ ?_); clear hK4340
        by_cases hp4344 : a0.f2 ≥ 4294967296
        · skip
          replace h := ite_pos' h hp4344
          refine condT ha KR KR (t := decide (a0.f2 ≥ 4294967296)) (decide_eq_true hp4344) ?_
          refine wp_region_lit ?_
          refine stepp ha 19 (.agg #[.int .i64 8, .string (⟨#[]⟩ : ByteArray), .int .i64 0, .int .i64 0, .slice none 0 0, .int .u32 0, .int .i64 0, .string (⟨#[]⟩ : ByteArray), .int .i64 0]) KR KR ?_; clear ha a; intro a ha
          refine stepst ha HW 1 (b := b4333) (C := #[.int .i64 a0.f0, .string a0.f1, .int .i64 a0.f2, .int .i64 a0.f3, .slice A0_0 a0.f4.length c0_0, .int .u32 a0.f5, .int .i64 a0.f6.f0, .string a0.f6.f1, .int .i64 a0.f7]) (T := 64) KR 64 0 (.tmp 1) (.tmp 19) (.agg #[.int .i64 8, .string (⟨#[]⟩ : ByteArray), .int .i64 0, .int .i64 0, .slice none 0 0, .int .u32 0, .int .i64 0, .string (⟨#[]⟩ : ByteArray), .int .i64 0]) #[.int .i64 8, .string (⟨#[]⟩ : ByteArray), .int .i64 0, .int .i64 0, .slice none 0 0, .int .u32 0, .int .i64 0, .string (⟨#[]⟩ : ByteArray), .int .i64 0] rfl KR KR KR KR KR KR KR ?_; clear ha HW a; intro a W4345 HW ha
          refine endl ?_
          exact thenN ⟨8, (⟨#[]⟩ : ByteArray), 0, 0, ([] : List T_api_Reg), none, 0, 0, 0, (⟨#[]⟩ : ByteArray), 0, h, ha.sub (subs_cons KR (subs_cons KR (subs_nil _))), HW.pick [1, 0] [] (by decide) (by decide) KR KR, Rd.nil _ _⟩
        · skip
          replace h := ite_neg' h hp4344
          refine condF ha KR KR (t := decide (a0.f2 ≥ 4294967296)) (decide_eq_false hp4344) ?_
          refine wp_skip ?_
          exact thenN ⟨a0.f0, a0.f1, a0.f2, a0.f3, a0.f4, A0_0, c0_0, a0.f5, a0.f6.f0, a0.f6.f1, a0.f7, h, ha.sub (subs_cons KR (subs_cons KR (subs_nil _))), HW.pick [1, 0] [] (by decide) (by decide) KR KR, hr0_0⟩
    · skip
      replace h := ite_neg' h hp4341
      replace ha := ha.bool 9 KR (ieq_f hp4341)
      refine stepo ha 10 KR ?_; clear ha a; intro a ha
      refine stepo ha 11 KR ?_; clear ha a; intro a ha
      refine stepo ha 12 KR ?_; clear ha a; intro a ha
      refine stepo ha 13 KR ?_; clear ha a; intro a ha
      refine stepo ha 14 KR ?_; clear ha a; intro a ha
      refine stepo ha 15 KR ?_; clear ha a; intro a ha
      refine stepo ha 16 KR ?_; clear ha a; intro a ha
      refine stepo ha 17 KR ?_; clear ha a; intro a ha
      refine stepp ha 18 (.bool false) KR KR ?_; clear ha a; intro a ha
      refine endl ?_
      refine thenN (hK4340 _ _ ?_); clear hK4340
      refine condF ha KR KR (t := false) (rfl) ?_
      refine wp_skip ?_
      exact thenN ⟨a0.f0, a0.f1, a0.f2, a0.f3, a0.f4, A0_0, c0_0, a0.f5, a0.f6.f0, a0.f6.f1, a0.f7, h, ha.sub (subs_cons KR (subs_cons KR (subs_nil _))), HW.pick [1, 0] [] (by decide) (by decide) KR KR, hr0_0⟩
  · skip
    intro a W4358 hJ
    obtain ⟨x4346, x4347, x4348, x4349, x4350, A4351, c4352, x4354, x4355, x4356, x4357, h, ha, HW, hr4353⟩ := hJ
    replace h : sense_Of.j0 K  x4346 x4347 x4348 x4349 x4350 x4354 x4355 x4356 x4357 = some r := h
    unfold sense_Of.j0 at h
    refine hK4338 _ _ ?_; clear hK4338
    refine wp_seq_k (fun K4359 hK4360 => ?_)
    refine wp_seq_k (fun K4361 hK4362 => ?_)
    refine wp_region_lit ?_
    refine stepl ha 20 (HW.ca0 hG3) 114 0 (.global 3) (.agg (encs T_sense_row.enc G_sense_rows).toArray) rfl KR KR KR ?_; clear ha a; intro a ha
    refine stepp ha 21 (.int .i64 0) KR KR ?_; clear ha a; intro a ha
    refine endl ?_
    refine thenN (hK4362 _ _ ?_); clear hK4362
    refine wp_block ?_
    refine loopk (fun k => fun a W4448 => ∃ (x4447 : Int), sense_Of.l0 K x4346 x4347 x4348 x4349 x4350 x4354 x4355 x4356 x4357 k x4447 = some r ∧ Has 43 [(1, .pointer (some ⟨b4333, 0, none⟩)), (3, .pointer (some ⟨b4335, 0, none⟩)), (20, .agg (encs T_sense_row.enc G_sense_rows).toArray), (21, .int .i64 x4447)] a ∧ Wd w W4448 [(b4333, .cells #[.int .i64 x4346, .string x4347, .int .i64 x4348, .int .i64 x4349, .slice A4351 x4350.length c4352, .int .u32 x4354, .int .i64 x4355, .string x4356, .int .i64 x4357] 64 (0, 0)), (b4335, .cells #[.int .i64 0, .int .i64 0, .int .i64 0, .int .i64 0] 66 (0, 0))] []) K ?_ ?_
    · skip
      exact ⟨0, h, ha.sub (subs_cons KR (subs_cons KR (subs_cons KR (subs_cons KR (subs_nil _))))), HW.pick [0, 1] [] (by decide) (by decide) KR KR⟩
    · skip
      intro k a W4448 hI
      obtain ⟨x4447, h, ha, HW⟩ := hI
      cases k with
      | zero => exact (none_some (show none = some r from h)).elim
      | succ k4449 =>
        replace h : sense_Of.b0 K x4346 x4347 x4348 x4349 x4350 x4354 x4355 x4356 x4357 (sense_Of.l0 K x4346 x4347 x4348 x4349 x4350 x4354 x4355 x4356 x4357 k4449) x4447 = some r := h
        obtain ⟨again4446, hag4450⟩ : ∃ g_, g_ = sense_Of.l0 K x4346 x4347 x4348 x4349 x4350 x4354 x4355 x4356 x4357 k4449 := ⟨_, rfl⟩
        rw [← hag4450] at h
        unfold sense_Of.b0 at h
        refine wp_seq_k (fun K4451 hK4452 => ?_)
        refine wp_region_lit ?_
        refine stepp ha 22 (.bool (decide (x4447 < 11))) KR KR ?_; clear ha a; intro a ha
        refine endl ?_
        refine thenN (hK4452 _ _ ?_); clear hK4452
        refine wp_seq_k (fun K4453 hK4454 => ?_)
        by_cases hp4455 : x4447 < 11
        · skip
          replace h := ite_pos' h hp4455
          refine condT ha KR KR (t := decide (x4447 < 11)) (decide_eq_true hp4455) ?_
          refine wp_skip ?_
          refine thenN (hK4454 _ _ ?_); clear hK4454
          refine wp_seq_k (fun K4456 hK4457 => ?_)
          refine wp_block ?_
          refine wp_seq_k (fun K4458 hK4459 => ?_)
          refine wp_region_lit ?_
          obtain ⟨hA4460, h_⟩ := asrt_some h; clear h; have h := h_; clear h_
          refine stepag T_sense_row.enc T_sense_row.z ha 23 114 11 113 (.tmp 20) (.tmp 21) .i64 x4447 G_sense_rows (.agg #[.int .i64 ((rdL T_sense_row.z G_sense_rows x4447).f0), .int .i64 ((rdL T_sense_row.z G_sense_rows x4447).f1), .int .i64 ((rdL T_sense_row.z G_sense_rows x4447).f2), .int .i64 ((rdL T_sense_row.z G_sense_rows x4447).f3), .int .i64 ((rdL T_sense_row.z G_sense_rows x4447).f4), .int .i64 ((rdL T_sense_row.z G_sense_rows x4447).f5)]) rfl KR KR KR KR (fun _ => rfl) hA4460 hp4455 KR rfl ?_; clear ha a; intro a ha
          refine stepnew ha HW 5 #[.int .i64 0, .int .i64 0, .int .i64 0, .int .i64 0, .int .i64 0, .int .i64 0] 113 KR KR ?_; clear ha HW a; intro b4461 a W4462 HW ha
          refine stepst ha HW 0 (b := b4461) (C := #[.int .i64 0, .int .i64 0, .int .i64 0, .int .i64 0, .int .i64 0, .int .i64 0]) (T := 113) KR 113 0 (.tmp 5) (.tmp 23) (.agg #[.int .i64 ((rdL T_sense_row.z G_sense_rows x4447).f0), .int .i64 ((rdL T_sense_row.z G_sense_rows x4447).f1), .int .i64 ((rdL T_sense_row.z G_sense_rows x4447).f2), .int .i64 ((rdL T_sense_row.z G_sense_rows x4447).f3), .int .i64 ((rdL T_sense_row.z G_sense_rows x4447).f4), .int .i64 ((rdL T_sense_row.z G_sense_rows x4447).f5)]) #[.int .i64 ((rdL T_sense_row.z G_sense_rows x4447).f0), .int .i64 ((rdL T_sense_row.z G_sense_rows x4447).f1), .int .i64 ((rdL T_sense_row.z G_sense_rows x4447).f2), .int .i64 ((rdL T_sense_row.z G_sense_rows x4447).f3), .int .i64 ((rdL T_sense_row.z G_sense_rows x4447).f4), .int .i64 ((rdL T_sense_row.z G_sense_rows x4447).f5)] rfl KR KR KR KR KR KR KR ?_; clear ha HW a; intro a W4463 HW ha
          refine endl ?_
          refine thenN (hK4459 _ _ ?_); clear hK4459
          refine wp_seq_k (fun K4464 hK4465 => ?_)
          refine wp_region_lit ?_
          refine stepl ha 24 (HW.ca (i := 0) (b := b4461) (C := #[.int .i64 ((rdL T_sense_row.z G_sense_rows x4447).f0), .int .i64 ((rdL T_sense_row.z G_sense_rows x4447).f1), .int .i64 ((rdL T_sense_row.z G_sense_rows x4447).f2), .int .i64 ((rdL T_sense_row.z G_sense_rows x4447).f3), .int .i64 ((rdL T_sense_row.z G_sense_rows x4447).f4), .int .i64 ((rdL T_sense_row.z G_sense_rows x4447).f5)]) (T := 113) (fr := (0, 0)) KR) 113 0 (.tmp 5) (.agg #[.int .i64 ((rdL T_sense_row.z G_sense_rows x4447).f0), .int .i64 ((rdL T_sense_row.z G_sense_rows x4447).f1), .int .i64 ((rdL T_sense_row.z G_sense_rows x4447).f2), .int .i64 ((rdL T_sense_row.z G_sense_rows x4447).f3), .int .i64 ((rdL T_sense_row.z G_sense_rows x4447).f4), .int .i64 ((rdL T_sense_row.z G_sense_rows x4447).f5)]) rfl KR KR KR ?_; clear ha a; intro a ha
          refine stepl ha 25 (HW.ca (i := 1) (b := b4333) (C := #[.int .i64 x4346, .string x4347, .int .i64 x4348, .int .i64 x4349, .slice A4351 x4350.length c4352, .int .u32 x4354, .int .i64 x4355, .string x4356, .int .i64 x4357]) (T := 64) (fr := (0, 0)) KR) 64 0 (.tmp 1) (.agg #[.int .i64 x4346, .string x4347, .int .i64 x4348, .int .i64 x4349, .slice A4351 x4350.length c4352, .int .u32 x4354, .int .i64 x4355, .string x4356, .int .i64 x4357]) rfl KR KR KR ?_; clear ha a; intro a ha
          obtain ⟨t4466, ht4467, h_⟩ := bind_some' h; clear h; have h := h_; clear h_
          refine stepc ha 26 KR KR (sense_row_outcome.calls (⟨(rdL T_sense_row.z G_sense_rows x4447).f0, (rdL T_sense_row.z G_sense_rows x4447).f1, (rdL T_sense_row.z G_sense_rows x4447).f2, (rdL T_sense_row.z G_sense_rows x4447).f3, (rdL T_sense_row.z G_sense_rows x4447).f4, (rdL T_sense_row.z G_sense_rows x4447).f5⟩ : T_sense_row) (⟨x4346, x4347, x4348, x4349, x4350, x4354, (⟨x4355, x4356⟩ : T_api_Hold), x4357⟩ : T_api_Out) A4351 c4352 t4466 _ ((HW.rd0 hr4353)) ht4467) ?_; clear ha a; rintro e W4468 ⟨rfl, HX4469⟩
          refine ⟨_, rfl, ?_⟩; intro a ha; replace HW := HW.callw HX4469; clear HX4469
          refine endl ?_
          refine thenN (hK4465 _ _ ?_); clear hK4465
          by_cases hp4470 : t4466 = true
          · skip
            replace h := ite_pos' h hp4470
            refine condT ha KR KR (t := t4466) (hp4470) ?_
            refine wp_seq_k (fun K4471 hK4472 => ?_)
            refine wp_region_lit ?_
            refine stepl ha 27 (HW.ca (i := 0) (b := b4461) (C := #[.int .i64 ((rdL T_sense_row.z G_sense_rows x4447).f0), .int .i64 ((rdL T_sense_row.z G_sense_rows x4447).f1), .int .i64 ((rdL T_sense_row.z G_sense_rows x4447).f2), .int .i64 ((rdL T_sense_row.z G_sense_rows x4447).f3), .int .i64 ((rdL T_sense_row.z G_sense_rows x4447).f4), .int .i64 ((rdL T_sense_row.z G_sense_rows x4447).f5)]) (T := 113) (fr := (0, 0)) KR) 113 0 (.tmp 5) (.agg #[.int .i64 ((rdL T_sense_row.z G_sense_rows x4447).f0), .int .i64 ((rdL T_sense_row.z G_sense_rows x4447).f1), .int .i64 ((rdL T_sense_row.z G_sense_rows x4447).f2), .int .i64 ((rdL T_sense_row.z G_sense_rows x4447).f3), .int .i64 ((rdL T_sense_row.z G_sense_rows x4447).f4), .int .i64 ((rdL T_sense_row.z G_sense_rows x4447).f5)]) rfl KR KR KR ?_; clear ha a; intro a ha
            obtain ⟨t4473, ht4474, h_⟩ := bind_some' h; clear h; have h := h_; clear h_
            refine stepc ha 28 KR KR (sense_row_sense.calls (⟨(rdL T_sense_row.z G_sense_rows x4447).f0, (rdL T_sense_row.z G_sense_rows x4447).f1, (rdL T_sense_row.z G_sense_rows x4447).f2, (rdL T_sense_row.z G_sense_rows x4447).f3, (rdL T_sense_row.z G_sense_rows x4447).f4, (rdL T_sense_row.z G_sense_rows x4447).f5⟩ : T_sense_row) t4473 _ ht4474) ?_; clear ha a; rintro e W4475 ⟨rfl, HX4476⟩
            refine ⟨_, rfl, ?_⟩; intro a ha; replace HW := HW.callw HX4476; clear HX4476
            refine stepst ha HW 2 (b := b4335) (C := #[.int .i64 0, .int .i64 0, .int .i64 0, .int .i64 0]) (T := 66) KR 66 0 (.tmp 3) (.tmp 28) (.agg #[.int .i64 t4473.f0, .int .i64 t4473.f1, .int .i64 t4473.f2, .int .i64 t4473.f3]) #[.int .i64 t4473.f0, .int .i64 t4473.f1, .int .i64 t4473.f2, .int .i64 t4473.f3] rfl KR KR KR KR KR KR KR ?_; clear ha HW a; intro a W4477 HW ha
            refine endl ?_
            refine thenN (hK4472 _ _ ?_); clear hK4472
            refine wp_seq_k (fun K4478 hK4479 => ?_)
            refine wp_seq_k (fun K4480 hK4481 => ?_)
            refine wp_region_lit ?_
            refine stepp ha 29 (.pointer (some ⟨b4461, 0, none⟩)) KR KR ?_; clear ha a; intro a ha
            refine stepl ha 30 (HW.ca (i := 0) (b := b4461) (C := #[.int .i64 ((rdL T_sense_row.z G_sense_rows x4447).f0), .int .i64 ((rdL T_sense_row.z G_sense_rows x4447).f1), .int .i64 ((rdL T_sense_row.z G_sense_rows x4447).f2), .int .i64 ((rdL T_sense_row.z G_sense_rows x4447).f3), .int .i64 ((rdL T_sense_row.z G_sense_rows x4447).f4), .int .i64 ((rdL T_sense_row.z G_sense_rows x4447).f5)]) (T := 113) (fr := (0, 0)) KR) 3 0 (.tmp 29) (.int .i64 ((rdL T_sense_row.z G_sense_rows x4447).f0)) rfl KR KR KR ?_; clear ha a; intro a ha
            refine stepp ha 31 (.bool (((rdL T_sense_row.z G_sense_rows x4447).f0) == 3)) KR KR ?_; clear ha a; intro a ha
            refine endl ?_
            refine thenN (hK4481 _ _ ?_); clear hK4481
            by_cases hp4482 : ((rdL T_sense_row.z G_sense_rows x4447).f0) = 3
            · skip
              replace h := ite_pos' h hp4482
              refine condT ha KR KR (t := (((rdL T_sense_row.z G_sense_rows x4447).f0) == 3)) (ieq_t hp4482) ?_
              refine wp_region_lit ?_
              refine stepp ha 32 (.pointer (some ⟨b4333, 2, none⟩)) KR KR ?_; clear ha a; intro a ha
              refine stepl ha 33 (HW.ca (i := 1) (b := b4333) (C := #[.int .i64 x4346, .string x4347, .int .i64 x4348, .int .i64 x4349, .slice A4351 x4350.length c4352, .int .u32 x4354, .int .i64 x4355, .string x4356, .int .i64 x4357]) (T := 64) (fr := (0, 0)) KR) 3 2 (.tmp 32) (.int .i64 x4348) rfl KR KR KR ?_; clear ha a; intro a ha
              refine stepp ha 34 (.pointer (some ⟨b4335, 3, none⟩)) KR KR ?_; clear ha a; intro a ha
              refine stepst ha HW 2 (b := b4335) (C := #[.int .i64 t4473.f0, .int .i64 t4473.f1, .int .i64 t4473.f2, .int .i64 t4473.f3]) (T := 66) KR 3 3 (.tmp 34) (.tmp 33) (.int .i64 x4348) #[.int .i64 t4473.f0, .int .i64 t4473.f1, .int .i64 t4473.f2, .int .i64 x4348] rfl KR KR KR KR KR KR KR ?_; clear ha HW a; intro a W4483 HW ha
              refine endl ?_
              refine thenN (hK4479 _ _ ?_); clear hK4479
              refine wp_seq_k (fun K4484 hK4485 => ?_)
              refine regionG 4 KR KR ha HW [.fix (.pointer (some ⟨b4461, 2, none⟩)), .fix (.int .i64 ((rdL T_sense_row.z G_sense_rows x4447).f2)), .fix (.agg #[.int .i64 t4473.f0, .int .i64 t4473.f1, .int .i64 t4473.f2, .int .i64 x4348]), .fix (.int .i64 ((rdL T_sense_row.z G_sense_rows x4447).f2))] ?_ ?_
              · skip
                refine ⟨?_, ?_, ?_, ?_, trivial⟩
                · skip
                  intro a wr hn hd HW hs; have ha := hasNil hn hd
                  have ha := ha.add (seeE hs 5 (.pointer (some ⟨b4461, 0, none⟩)) KR KR)
                  refine yStep ha 35 KR ?_; intro l_ ha HK
                  refine stepp ha 35 (.pointer (some ⟨b4461, 2, none⟩)) KR KR ?_; intro ax hax; exact HK _ _ _ hax rfl (Below.refl _ _)
                · skip
                  intro a wr hn hd HW hs; have ha := hasNil hn hd
                  have ha := ha.add (seeF hs 35 0 (.pointer (some ⟨b4461, 2, none⟩)) KR KR)
                  refine yStep ha 36 KR ?_; intro l_ ha HK
                  refine stepl ha 36 (HW.ca (i := 0) (b := b4461) (C := #[.int .i64 ((rdL T_sense_row.z G_sense_rows x4447).f0), .int .i64 ((rdL T_sense_row.z G_sense_rows x4447).f1), .int .i64 ((rdL T_sense_row.z G_sense_rows x4447).f2), .int .i64 ((rdL T_sense_row.z G_sense_rows x4447).f3), .int .i64 ((rdL T_sense_row.z G_sense_rows x4447).f4), .int .i64 ((rdL T_sense_row.z G_sense_rows x4447).f5)]) (T := 113) (fr := (0, 0)) KR) 3 2 (.tmp 35) (.int .i64 ((rdL T_sense_row.z G_sense_rows x4447).f2)) rfl KR KR KR ?_; intro ax hax; exact HK _ _ _ hax rfl (Below.refl _ _)
                · skip
                  intro a wr hn hd HW hs; have ha := hasNil hn hd
                  have ha := ha.add (seeE hs 3 (.pointer (some ⟨b4335, 0, none⟩)) KR KR)
                  refine yStep ha 37 KR ?_; intro l_ ha HK
                  refine stepl ha 37 (HW.ca (i := 2) (b := b4335) (C := #[.int .i64 t4473.f0, .int .i64 t4473.f1, .int .i64 t4473.f2, .int .i64 x4348]) (T := 66) (fr := (0, 0)) KR) 66 0 (.tmp 3) (.agg #[.int .i64 t4473.f0, .int .i64 t4473.f1, .int .i64 t4473.f2, .int .i64 x4348]) rfl KR KR KR ?_; intro ax hax; exact HK _ _ _ hax rfl (Below.refl _ _)
                · skip
                  intro a wr hn hd HW hs; have ha := hasNil hn hd
                  have ha := ha.add (seeF hs 36 1 (.int .i64 ((rdL T_sense_row.z G_sense_rows x4447).f2)) KR KR)
                  refine yStep ha 2 KR ?_; intro l_ ha HK
                  refine stepp ha 2 (.int .i64 ((rdL T_sense_row.z G_sense_rows x4447).f2)) KR KR ?_; intro ax hax; exact HK _ _ _ hax rfl (Below.refl _ _)
              · skip
                intro a W4486 ha HW he hf
                replace ha := ha.add (gotF (m := 4) (j := 3) (d := 2) (v := .int .i64 ((rdL T_sense_row.z G_sense_rows x4447).f2)) hf KR KR KR)
                replace ha := ha.add (he 3 (.pointer (some ⟨b4335, 0, none⟩)) KR KR)
                replace ha := ha.add (gotF (m := 4) (j := 2) (d := 37) (v := .agg #[.int .i64 t4473.f0, .int .i64 t4473.f1, .int .i64 t4473.f2, .int .i64 x4348]) hf KR KR KR)
                clear he hf
                refine stepst ha HW 2 (b := b4335) (C := #[.int .i64 t4473.f0, .int .i64 t4473.f1, .int .i64 t4473.f2, .int .i64 x4348]) (T := 66) KR 66 0 (.tmp 3) (.tmp 37) (.agg #[.int .i64 t4473.f0, .int .i64 t4473.f1, .int .i64 t4473.f2, .int .i64 x4348]) #[.int .i64 t4473.f0, .int .i64 t4473.f1, .int .i64 t4473.f2, .int .i64 x4348] rfl KR KR KR KR KR KR KR ?_; clear ha HW a; intro a W4487 HW ha
                refine endl ?_
                refine thenN (hK4485 _ _ ?_); clear hK4485
                refine wp_ret ?_
                refine blkR ?_
                refine thenR ?_
                refine thenR ?_
                refine blkR ?_
                refine thenR ?_
                obtain rfl := Option.some.inj h
                exact finv ha _ _ rfl (.tmp (v := .int .i64 ((rdL T_sense_row.z G_sense_rows x4447).f2)) KR (.cell (ad := ⟨b4335, 0, none⟩) (v := .agg #[.int .i64 t4473.f0, .int .i64 t4473.f1, .int .i64 t4473.f2, .int .i64 x4348]) KR (run_loadVar_ca0 (HW.ca (i := 2) (b := b4335) (C := #[.int .i64 t4473.f0, .int .i64 t4473.f1, .int .i64 t4473.f2, .int .i64 x4348]) (T := 66) (fr := (0, 0)) KR) 66 0 (.agg #[.int .i64 t4473.f0, .int .i64 t4473.f1, .int .i64 t4473.f2, .int .i64 x4348]) KR) .nil)) (.tuple #[.int .i64 ((rdL T_sense_row.z G_sense_rows x4447).f2), .agg #[.int .i64 t4473.f0, .int .i64 t4473.f1, .int .i64 t4473.f2, .int .i64 x4348]]) rfl ⟨rfl, HW.pick [] [] (by decide) (by decide) rfl KR⟩
            · skip
              replace h := ite_neg' h hp4482
              refine condF ha KR KR (t := (((rdL T_sense_row.z G_sense_rows x4447).f0) == 3)) (ieq_f hp4482) ?_
              refine wp_skip ?_
              refine thenN (hK4479 _ _ ?_); clear hK4479
              refine wp_seq_k (fun K4488 hK4489 => ?_)
              refine regionG 4 KR KR ha HW [.fix (.pointer (some ⟨b4461, 2, none⟩)), .fix (.int .i64 ((rdL T_sense_row.z G_sense_rows x4447).f2)), .fix (.agg #[.int .i64 t4473.f0, .int .i64 t4473.f1, .int .i64 t4473.f2, .int .i64 t4473.f3]), .fix (.int .i64 ((rdL T_sense_row.z G_sense_rows x4447).f2))] ?_ ?_
              · skip
                refine ⟨?_, ?_, ?_, ?_, trivial⟩
                · skip
                  intro a wr hn hd HW hs; have ha := hasNil hn hd
                  have ha := ha.add (seeE hs 5 (.pointer (some ⟨b4461, 0, none⟩)) KR KR)
                  refine yStep ha 35 KR ?_; intro l_ ha HK
                  refine stepp ha 35 (.pointer (some ⟨b4461, 2, none⟩)) KR KR ?_; intro ax hax; exact HK _ _ _ hax rfl (Below.refl _ _)
                · skip
                  intro a wr hn hd HW hs; have ha := hasNil hn hd
                  have ha := ha.add (seeF hs 35 0 (.pointer (some ⟨b4461, 2, none⟩)) KR KR)
                  refine yStep ha 36 KR ?_; intro l_ ha HK
                  refine stepl ha 36 (HW.ca (i := 0) (b := b4461) (C := #[.int .i64 ((rdL T_sense_row.z G_sense_rows x4447).f0), .int .i64 ((rdL T_sense_row.z G_sense_rows x4447).f1), .int .i64 ((rdL T_sense_row.z G_sense_rows x4447).f2), .int .i64 ((rdL T_sense_row.z G_sense_rows x4447).f3), .int .i64 ((rdL T_sense_row.z G_sense_rows x4447).f4), .int .i64 ((rdL T_sense_row.z G_sense_rows x4447).f5)]) (T := 113) (fr := (0, 0)) KR) 3 2 (.tmp 35) (.int .i64 ((rdL T_sense_row.z G_sense_rows x4447).f2)) rfl KR KR KR ?_; intro ax hax; exact HK _ _ _ hax rfl (Below.refl _ _)
                · skip
                  intro a wr hn hd HW hs; have ha := hasNil hn hd
                  have ha := ha.add (seeE hs 3 (.pointer (some ⟨b4335, 0, none⟩)) KR KR)
                  refine yStep ha 37 KR ?_; intro l_ ha HK
                  refine stepl ha 37 (HW.ca (i := 2) (b := b4335) (C := #[.int .i64 t4473.f0, .int .i64 t4473.f1, .int .i64 t4473.f2, .int .i64 t4473.f3]) (T := 66) (fr := (0, 0)) KR) 66 0 (.tmp 3) (.agg #[.int .i64 t4473.f0, .int .i64 t4473.f1, .int .i64 t4473.f2, .int .i64 t4473.f3]) rfl KR KR KR ?_; intro ax hax; exact HK _ _ _ hax rfl (Below.refl _ _)
                · skip
                  intro a wr hn hd HW hs; have ha := hasNil hn hd
                  have ha := ha.add (seeF hs 36 1 (.int .i64 ((rdL T_sense_row.z G_sense_rows x4447).f2)) KR KR)
                  refine yStep ha 2 KR ?_; intro l_ ha HK
                  refine stepp ha 2 (.int .i64 ((rdL T_sense_row.z G_sense_rows x4447).f2)) KR KR ?_; intro ax hax; exact HK _ _ _ hax rfl (Below.refl _ _)
              · skip
                intro a W4490 ha HW he hf
                replace ha := ha.add (gotF (m := 4) (j := 3) (d := 2) (v := .int .i64 ((rdL T_sense_row.z G_sense_rows x4447).f2)) hf KR KR KR)
                replace ha := ha.add (he 3 (.pointer (some ⟨b4335, 0, none⟩)) KR KR)
                replace ha := ha.add (gotF (m := 4) (j := 2) (d := 37) (v := .agg #[.int .i64 t4473.f0, .int .i64 t4473.f1, .int .i64 t4473.f2, .int .i64 t4473.f3]) hf KR KR KR)
                clear he hf
                refine stepst ha HW 2 (b := b4335) (C := #[.int .i64 t4473.f0, .int .i64 t4473.f1, .int .i64 t4473.f2, .int .i64 t4473.f3]) (T := 66) KR 66 0 (.tmp 3) (.tmp 37) (.agg #[.int .i64 t4473.f0, .int .i64 t4473.f1, .int .i64 t4473.f2, .int .i64 t4473.f3]) #[.int .i64 t4473.f0, .int .i64 t4473.f1, .int .i64 t4473.f2, .int .i64 t4473.f3] rfl KR KR KR KR KR KR KR ?_; clear ha HW a; intro a W4491 HW ha
                refine endl ?_
                refine thenN (hK4489 _ _ ?_); clear hK4489
                refine wp_ret ?_
                refine blkR ?_
                refine thenR ?_
                refine thenR ?_
                refine blkR ?_
                refine thenR ?_
                obtain rfl := Option.some.inj h
                exact finv ha _ _ rfl (.tmp (v := .int .i64 ((rdL T_sense_row.z G_sense_rows x4447).f2)) KR (.cell (ad := ⟨b4335, 0, none⟩) (v := .agg #[.int .i64 t4473.f0, .int .i64 t4473.f1, .int .i64 t4473.f2, .int .i64 t4473.f3]) KR (run_loadVar_ca0 (HW.ca (i := 2) (b := b4335) (C := #[.int .i64 t4473.f0, .int .i64 t4473.f1, .int .i64 t4473.f2, .int .i64 t4473.f3]) (T := 66) (fr := (0, 0)) KR) 66 0 (.agg #[.int .i64 t4473.f0, .int .i64 t4473.f1, .int .i64 t4473.f2, .int .i64 t4473.f3]) KR) .nil)) (.tuple #[.int .i64 ((rdL T_sense_row.z G_sense_rows x4447).f2), .agg #[.int .i64 t4473.f0, .int .i64 t4473.f1, .int .i64 t4473.f2, .int .i64 t4473.f3]]) rfl ⟨rfl, HW.pick [] [] (by decide) (by decide) rfl KR⟩
          · skip
            replace h := ite_neg' h hp4470
            refine condF ha KR KR (t := t4466) (bool_f hp4470) ?_
            refine wp_skip ?_
            refine blkN ?_
            refine thenN (hK4457 _ _ ?_); clear hK4457
            refine wp_region_lit ?_
            refine stepp ha 38 (.int .i64 (IntKind.wrap .i64 (x4447 + 1))) KR KR ?_; clear ha a; intro a ha
            refine stepp ha 21 (.int .i64 (IntKind.wrap .i64 (x4447 + 1))) KR KR ?_; clear ha a; intro a ha
            refine endl ?_
            exact thenN ⟨k4449, Nat.lt_succ_self k4449, IntKind.wrap .i64 (x4447 + 1), (by rw [← hag4450]; exact h), ha.sub (subs_cons KR (subs_cons KR (subs_cons KR (subs_cons KR (subs_nil _))))), HW.pick [1, 2] [] (by decide) (by decide) KR KR⟩
        · skip
          replace h := ite_neg' h hp4455
          refine condF ha KR KR (t := decide (x4447 < 11)) (decide_eq_false hp4455) ?_
          refine wp_exit ?_
          refine thenE ?_
          refine thenE ?_
          refine inBlk ?_
          refine thenN (hK4360 _ _ ?_); clear hK4360
          refine wp_seq_k (fun K4492 hK4493 => ?_)
          refine wp_region_lit ?_
          refine stepp ha 39 (.agg #[.int .i64 8, .string (⟨#[]⟩ : ByteArray), .int .i64 0, .int .i64 0, .slice none 0 0, .int .u32 0, .int .i64 0, .string (⟨#[]⟩ : ByteArray), .int .i64 0]) KR KR ?_; clear ha a; intro a ha
          obtain ⟨t4494, ht4495, h_⟩ := bind_some' h; clear h; have h := h_; clear h_
          refine stepc ha 40 KR KR (sense_Of_0.calls K (⟨8, (⟨#[]⟩ : ByteArray), 0, 0, ([] : List T_api_Reg), 0, (⟨0, (⟨#[]⟩ : ByteArray)⟩ : T_api_Hold), 0⟩ : T_api_Out) none 0 t4494 _ (HW.ca0 hG3) (Rd.nil _ _) ht4495) ?_; clear ha a; rintro e W4496 ⟨rfl, HX4497⟩
          refine ⟨_, rfl, ?_⟩; intro a ha; replace HW := HW.callw HX4497; clear HX4497
          refine stepp ha 41 (.int .i64 t4494.1) KR KR ?_; clear ha a; intro a ha
          refine stepp ha 42 (.agg #[.int .i64 t4494.2.f0, .int .i64 t4494.2.f1, .int .i64 t4494.2.f2, .int .i64 t4494.2.f3]) KR KR ?_; clear ha a; intro a ha
          refine stepp ha 2 (.int .i64 t4494.1) KR KR ?_; clear ha a; intro a ha
          refine stepst ha HW 1 (b := b4335) (C := #[.int .i64 0, .int .i64 0, .int .i64 0, .int .i64 0]) (T := 66) KR 66 0 (.tmp 3) (.tmp 42) (.agg #[.int .i64 t4494.2.f0, .int .i64 t4494.2.f1, .int .i64 t4494.2.f2, .int .i64 t4494.2.f3]) #[.int .i64 t4494.2.f0, .int .i64 t4494.2.f1, .int .i64 t4494.2.f2, .int .i64 t4494.2.f3] rfl KR KR KR KR KR KR KR ?_; clear ha HW a; intro a W4498 HW ha
          refine endl ?_
          refine thenN (hK4493 _ _ ?_); clear hK4493
          refine wp_ret ?_
          obtain rfl := Option.some.inj h
          exact finv ha _ _ rfl (.tmp (v := .int .i64 t4494.1) KR (.cell (ad := ⟨b4335, 0, none⟩) (v := .agg #[.int .i64 t4494.2.f0, .int .i64 t4494.2.f1, .int .i64 t4494.2.f2, .int .i64 t4494.2.f3]) KR (run_loadVar_ca0 (HW.ca (i := 1) (b := b4335) (C := #[.int .i64 t4494.2.f0, .int .i64 t4494.2.f1, .int .i64 t4494.2.f2, .int .i64 t4494.2.f3]) (T := 66) (fr := (0, 0)) KR) 66 0 (.agg #[.int .i64 t4494.2.f0, .int .i64 t4494.2.f1, .int .i64 t4494.2.f2, .int .i64 t4494.2.f3]) KR) .nil)) (.tuple #[.int .i64 t4494.1, .agg #[.int .i64 t4494.2.f0, .int .i64 t4494.2.f1, .int .i64 t4494.2.f2, .int .i64 t4494.2.f3]]) rfl ⟨rfl, HW.pick [] [] (by decide) (by decide) rfl KR⟩
/-! ### headgate/headgatekeep.Senses: function 35 -/
def headgatekeep_Senses.f (a0 : T_api_Sense) (a1 : T_api_Sense) : Option Bool :=
  if a0.f0 = a1.f0 then (if a0.f1 = a1.f1 then (if a0.f2 = a1.f2 then (some (a0.f3 == a1.f3)) else (some false)) else (some false)) else (some false)
set_option maxRecDepth 100000 in
set_option maxHeartbeats 4000000 in
theorem headgatekeep_Senses.calls (a0 : T_api_Sense) (a1 : T_api_Sense)  (r : Bool) (w : World)  (h : headgatekeep_Senses.f a0 a1 = some r) :
    Calls Tryd.prog 35 #[.agg #[.int .i64 a0.f0, .int .i64 a0.f1, .int .i64 a0.f2, .int .i64 a0.f3], .agg #[.int .i64 a1.f0, .int .i64 a1.f1, .int .i64 a1.f2, .int .i64 a1.f3]] w (fun e W' => e = .returned (.bool r) ∧ Wd w W' [] [] ) := by
  refine sxstart (n := 31) (l := [(0, .agg #[.int .i64 a0.f0, .int .i64 a0.f1, .int .i64 a0.f2, .int .i64 a0.f3]), (1, .agg #[.int .i64 a1.f0, .int .i64 a1.f1, .int .i64 a1.f2, .int .i64 a1.f3])]) Tryd.func35 rfl rfl (Nat.le_of_ble_eq_true KR) (subsA_cons rfl (subsA_cons rfl (subsA_nil _))) ?_
  intro a ha
  have HW := Wd.refl w
  unfold headgatekeep_Senses.f at h
  refine wp_seq_k (fun K4898 hK4899 => ?_)
  refine wp_region_lit ?_
  refine stepnew ha HW 2 #[.int .i64 a0.f0, .int .i64 a0.f1, .int .i64 a0.f2, .int .i64 a0.f3] 66 KR KR ?_; clear ha HW a; intro b4900 a W4901 HW ha
  refine stepnew ha HW 3 #[.int .i64 a1.f0, .int .i64 a1.f1, .int .i64 a1.f2, .int .i64 a1.f3] 66 KR KR ?_; clear ha HW a; intro b4902 a W4903 HW ha
  refine stepp ha 4 (.bool false) KR KR ?_; clear ha a; intro a ha
  refine endl ?_
  refine thenN (hK4899 _ _ ?_); clear hK4899
  refine wp_seq_k (fun K4904 hK4905 => ?_)
  refine wp_region_lit ?_
  refine stepp ha 5 (.pointer (some ⟨b4900, 0, none⟩)) KR KR ?_; clear ha a; intro a ha
  refine stepl ha 6 (HW.ca (i := 1) (b := b4900) (C := #[.int .i64 a0.f0, .int .i64 a0.f1, .int .i64 a0.f2, .int .i64 a0.f3]) (T := 66) (fr := (0, 0)) KR) 3 0 (.tmp 5) (.int .i64 a0.f0) rfl KR KR KR ?_; clear ha a; intro a ha
  refine stepp ha 7 (.pointer (some ⟨b4902, 0, none⟩)) KR KR ?_; clear ha a; intro a ha
  refine stepl ha 8 (HW.ca (i := 0) (b := b4902) (C := #[.int .i64 a1.f0, .int .i64 a1.f1, .int .i64 a1.f2, .int .i64 a1.f3]) (T := 66) (fr := (0, 0)) KR) 3 0 (.tmp 7) (.int .i64 a1.f0) rfl KR KR KR ?_; clear ha a; intro a ha
  refine stepp ha 9 (.bool (a0.f0 == a1.f0)) KR KR ?_; clear ha a; intro a ha
  refine stepp ha 10 (.bool (a0.f0 == a1.f0)) KR KR ?_; clear ha a; intro a ha
  by_cases hp4906 : a0.f0 = a1.f0
  · skip
    replace h := ite_pos' h hp4906
    replace ha := ha.bool 10 KR (ieq_t hp4906)
    refine stepp ha 11 (.pointer (some ⟨b4900, 1, none⟩)) KR KR ?_; clear ha a; intro a ha
    refine stepl ha 12 (HW.ca (i := 1) (b := b4900) (C := #[.int .i64 a0.f0, .int .i64 a0.f1, .int .i64 a0.f2, .int .i64 a0.f3]) (T := 66) (fr := (0, 0)) KR) 3 1 (.tmp 11) (.int .i64 a0.f1) rfl KR KR KR ?_; clear ha a; intro a ha
    refine stepp ha 13 (.pointer (some ⟨b4902, 1, none⟩)) KR KR ?_; clear ha a; intro a ha
    refine stepl ha 14 (HW.ca (i := 0) (b := b4902) (C := #[.int .i64 a1.f0, .int .i64 a1.f1, .int .i64 a1.f2, .int .i64 a1.f3]) (T := 66) (fr := (0, 0)) KR) 3 1 (.tmp 13) (.int .i64 a1.f1) rfl KR KR KR ?_; clear ha a; intro a ha
    refine stepp ha 15 (.bool (a0.f1 == a1.f1)) KR KR ?_; clear ha a; intro a ha
    refine stepp ha 16 (.bool (a0.f1 == a1.f1)) KR KR ?_; clear ha a; intro a ha
    refine stepp ha 17 (.bool (a0.f1 == a1.f1)) KR KR ?_; clear ha a; intro a ha
    by_cases hp4907 : a0.f1 = a1.f1
    · skip
      replace h := ite_pos' h hp4907
      replace ha := ha.bool 17 KR (ieq_t hp4907)
      refine stepp ha 18 (.pointer (some ⟨b4900, 2, none⟩)) KR KR ?_; clear ha a; intro a ha
      refine stepl ha 19 (HW.ca (i := 1) (b := b4900) (C := #[.int .i64 a0.f0, .int .i64 a0.f1, .int .i64 a0.f2, .int .i64 a0.f3]) (T := 66) (fr := (0, 0)) KR) 3 2 (.tmp 18) (.int .i64 a0.f2) rfl KR KR KR ?_; clear ha a; intro a ha
      refine stepp ha 20 (.pointer (some ⟨b4902, 2, none⟩)) KR KR ?_; clear ha a; intro a ha
      refine stepl ha 21 (HW.ca (i := 0) (b := b4902) (C := #[.int .i64 a1.f0, .int .i64 a1.f1, .int .i64 a1.f2, .int .i64 a1.f3]) (T := 66) (fr := (0, 0)) KR) 3 2 (.tmp 20) (.int .i64 a1.f2) rfl KR KR KR ?_; clear ha a; intro a ha
      refine stepp ha 22 (.bool (a0.f2 == a1.f2)) KR KR ?_; clear ha a; intro a ha
      refine stepp ha 23 (.bool (a0.f2 == a1.f2)) KR KR ?_; clear ha a; intro a ha
      refine stepp ha 24 (.bool (a0.f2 == a1.f2)) KR KR ?_; clear ha a; intro a ha
      by_cases hp4908 : a0.f2 = a1.f2
      · skip
        replace h := ite_pos' h hp4908
        replace ha := ha.bool 24 KR (ieq_t hp4908)
        refine stepp ha 25 (.pointer (some ⟨b4900, 3, none⟩)) KR KR ?_; clear ha a; intro a ha
        refine stepl ha 26 (HW.ca (i := 1) (b := b4900) (C := #[.int .i64 a0.f0, .int .i64 a0.f1, .int .i64 a0.f2, .int .i64 a0.f3]) (T := 66) (fr := (0, 0)) KR) 3 3 (.tmp 25) (.int .i64 a0.f3) rfl KR KR KR ?_; clear ha a; intro a ha
        refine stepp ha 27 (.pointer (some ⟨b4902, 3, none⟩)) KR KR ?_; clear ha a; intro a ha
        refine stepl ha 28 (HW.ca (i := 0) (b := b4902) (C := #[.int .i64 a1.f0, .int .i64 a1.f1, .int .i64 a1.f2, .int .i64 a1.f3]) (T := 66) (fr := (0, 0)) KR) 3 3 (.tmp 27) (.int .i64 a1.f3) rfl KR KR KR ?_; clear ha a; intro a ha
        refine stepp ha 29 (.bool (a0.f3 == a1.f3)) KR KR ?_; clear ha a; intro a ha
        refine stepp ha 30 (.bool (a0.f3 == a1.f3)) KR KR ?_; clear ha a; intro a ha
        refine stepp ha 4 (.bool (a0.f3 == a1.f3)) KR KR ?_; clear ha a; intro a ha
        refine endl ?_
        refine thenN (hK4905 _ _ ?_); clear hK4905
        refine wp_ret ?_
        obtain rfl := Option.some.inj h
        exact finv ha _ _ rfl (.tmp (v := .bool (a0.f3 == a1.f3)) KR .nil) (.bool (a0.f3 == a1.f3)) rfl ⟨rfl, HW.pick [] [] (by decide) (by decide) rfl KR⟩
      · skip
        replace h := ite_neg' h hp4908
        replace ha := ha.bool 24 KR (ieq_f hp4908)
        refine stepo ha 25 KR ?_; clear ha a; intro a ha
        refine stepo ha 26 KR ?_; clear ha a; intro a ha
        refine stepo ha 27 KR ?_; clear ha a; intro a ha
        refine stepo ha 28 KR ?_; clear ha a; intro a ha
        refine stepo ha 29 KR ?_; clear ha a; intro a ha
        refine stepp ha 30 (.bool false) KR KR ?_; clear ha a; intro a ha
        refine stepp ha 4 (.bool false) KR KR ?_; clear ha a; intro a ha
        refine endl ?_
        refine thenN (hK4905 _ _ ?_); clear hK4905
        refine wp_ret ?_
        obtain rfl := Option.some.inj h
        exact finv ha _ _ rfl (.tmp (v := .bool false) KR .nil) (.bool false) rfl ⟨rfl, HW.pick [] [] (by decide) (by decide) rfl KR⟩
    · skip
      replace h := ite_neg' h hp4907
      replace ha := ha.bool 17 KR (ieq_f hp4907)
      refine stepo ha 18 KR ?_; clear ha a; intro a ha
      refine stepo ha 19 KR ?_; clear ha a; intro a ha
      refine stepo ha 20 KR ?_; clear ha a; intro a ha
      refine stepo ha 21 KR ?_; clear ha a; intro a ha
      refine stepo ha 22 KR ?_; clear ha a; intro a ha
      refine stepp ha 23 (.bool false) KR KR ?_; clear ha a; intro a ha
      refine stepp ha 24 (.bool false) KR KR ?_; clear ha a; intro a ha
      refine stepo ha 25 KR ?_; clear ha a; intro a ha
      refine stepo ha 26 KR ?_; clear ha a; intro a ha
      refine stepo ha 27 KR ?_; clear ha a; intro a ha
      refine stepo ha 28 KR ?_; clear ha a; intro a ha
      refine stepo ha 29 KR ?_; clear ha a; intro a ha
      refine stepp ha 30 (.bool false) KR KR ?_; clear ha a; intro a ha
      refine stepp ha 4 (.bool false) KR KR ?_; clear ha a; intro a ha
      refine endl ?_
      refine thenN (hK4905 _ _ ?_); clear hK4905
      refine wp_ret ?_
      obtain rfl := Option.some.inj h
      exact finv ha _ _ rfl (.tmp (v := .bool false) KR .nil) (.bool false) rfl ⟨rfl, HW.pick [] [] (by decide) (by decide) rfl KR⟩
  · skip
    replace h := ite_neg' h hp4906
    replace ha := ha.bool 10 KR (ieq_f hp4906)
    refine stepo ha 11 KR ?_; clear ha a; intro a ha
    refine stepo ha 12 KR ?_; clear ha a; intro a ha
    refine stepo ha 13 KR ?_; clear ha a; intro a ha
    refine stepo ha 14 KR ?_; clear ha a; intro a ha
    refine stepo ha 15 KR ?_; clear ha a; intro a ha
    refine stepp ha 16 (.bool false) KR KR ?_; clear ha a; intro a ha
    refine stepp ha 17 (.bool false) KR KR ?_; clear ha a; intro a ha
    refine stepo ha 18 KR ?_; clear ha a; intro a ha
    refine stepo ha 19 KR ?_; clear ha a; intro a ha
    refine stepo ha 20 KR ?_; clear ha a; intro a ha
    refine stepo ha 21 KR ?_; clear ha a; intro a ha
    refine stepo ha 22 KR ?_; clear ha a; intro a ha
    refine stepp ha 23 (.bool false) KR KR ?_; clear ha a; intro a ha
    refine stepp ha 24 (.bool false) KR KR ?_; clear ha a; intro a ha
    refine stepo ha 25 KR ?_; clear ha a; intro a ha
    refine stepo ha 26 KR ?_; clear ha a; intro a ha
    refine stepo ha 27 KR ?_; clear ha a; intro a ha
    refine stepo ha 28 KR ?_; clear ha a; intro a ha
    refine stepo ha 29 KR ?_; clear ha a; intro a ha
    refine stepp ha 30 (.bool false) KR KR ?_; clear ha a; intro a ha
    refine stepp ha 4 (.bool false) KR KR ?_; clear ha a; intro a ha
    refine endl ?_
    refine thenN (hK4905 _ _ ?_); clear hK4905
    refine wp_ret ?_
    obtain rfl := Option.some.inj h
    exact finv ha _ _ rfl (.tmp (v := .bool false) KR .nil) (.bool false) rfl ⟨rfl, HW.pick [] [] (by decide) (by decide) rfl KR⟩
/-! ### headgate/sense.good$1: function 83 -/
def sense_good_1.f (a0 : Int) (a1 : Int) : Option Bool :=
  if (0 : Int) ≤ a0 then (some (decide (a0 ≤ a1))) else (some false)
set_option maxRecDepth 100000 in
set_option maxHeartbeats 4000000 in
theorem sense_good_1.calls (a0 : Int) (a1 : Int)  (r : Bool) (w : World)  (h : sense_good_1.f a0 a1 = some r) :
    Calls Tryd.prog 83 #[.int .i64 a0, .int .i64 a1] w (fun e W' => e = .returned (.bool r) ∧ Wd w W' [] [] ) := by
  refine sxstart (n := 12) (l := [(0, .int .i64 a0), (1, .int .i64 a1)]) Tryd.func83 rfl rfl (Nat.le_of_ble_eq_true KR) (subsA_cons rfl (subsA_cons rfl (subsA_nil _))) ?_
  intro a ha
  have HW := Wd.refl w
  unfold sense_good_1.f at h
  refine wp_seq_k (fun K5302 hK5303 => ?_)
  refine wp_region_lit ?_
  refine stepp ha 4 (.bool false) KR KR ?_; clear ha a; intro a ha
  refine endl ?_
  refine thenN (hK5303 _ _ ?_); clear hK5303
  refine wp_seq_k (fun K5304 hK5305 => ?_)
  refine wp_region_lit ?_
  refine stepp ha 5 (.int .i64 a0) KR KR ?_; clear ha a; intro a ha
  refine stepp ha 6 (.bool (decide ((0 : Int) ≤ a0))) KR KR ?_; clear ha a; intro a ha
  refine stepp ha 7 (.bool (decide ((0 : Int) ≤ a0))) KR KR ?_; clear ha a; intro a ha
  by_cases hp5306 : (0 : Int) ≤ a0
  · skip
    replace h := ite_pos' h hp5306
    replace ha := ha.bool 7 KR (decide_eq_true hp5306)
    refine stepp ha 8 (.int .i64 a0) KR KR ?_; clear ha a; intro a ha
    refine stepp ha 9 (.int .i64 a1) KR KR ?_; clear ha a; intro a ha
    refine stepp ha 10 (.bool (decide (a0 ≤ a1))) KR KR ?_; clear ha a; intro a ha
    refine stepp ha 11 (.bool (decide (a0 ≤ a1))) KR KR ?_; clear ha a; intro a ha
    refine stepp ha 4 (.bool (decide (a0 ≤ a1))) KR KR ?_; clear ha a; intro a ha
    refine endl ?_
    refine thenN (hK5305 _ _ ?_); clear hK5305
    refine wp_ret ?_
    obtain rfl := Option.some.inj h
    exact finv ha _ _ rfl (.tmp (v := .bool (decide (a0 ≤ a1))) KR .nil) (.bool (decide (a0 ≤ a1))) rfl ⟨rfl, HW.pick [] [] (by decide) (by decide) rfl KR⟩
  · skip
    replace h := ite_neg' h hp5306
    replace ha := ha.bool 7 KR (decide_eq_false hp5306)
    refine stepo ha 8 KR ?_; clear ha a; intro a ha
    refine stepo ha 9 KR ?_; clear ha a; intro a ha
    refine stepo ha 10 KR ?_; clear ha a; intro a ha
    refine stepp ha 11 (.bool false) KR KR ?_; clear ha a; intro a ha
    refine stepp ha 4 (.bool false) KR KR ?_; clear ha a; intro a ha
    refine endl ?_
    refine thenN (hK5305 _ _ ?_); clear hK5305
    refine wp_ret ?_
    obtain rfl := Option.some.inj h
    exact finv ha _ _ rfl (.tmp (v := .bool false) KR .nil) (.bool false) rfl ⟨rfl, HW.pick [] [] (by decide) (by decide) rfl KR⟩
/-! ### headgate/sense.good: function 67 -/
def sense_good.f (a0 : T_api_Sense) : Option Bool :=
  (sense_good_1.f a0.f0 15).bind fun t5315 => (if t5315 = true then ((sense_good_1.f a0.f1 255).bind fun t5320 => (if t5320 = true then ((sense_good_1.f a0.f2 255).bind fun t5325 => (if t5325 = true then (if ((-1) : Int) ≤ a0.f3 then (some (decide (a0.f3 < 4294967296))) else (some false)) else (some false))) else (some false))) else (some false))
set_option maxRecDepth 100000 in
set_option maxHeartbeats 4000000 in
theorem sense_good.calls (a0 : T_api_Sense)  (r : Bool) (w : World)  (h : sense_good.f a0 = some r) :
    Calls Tryd.prog 67 #[.agg #[.int .i64 a0.f0, .int .i64 a0.f1, .int .i64 a0.f2, .int .i64 a0.f3]] w (fun e W' => e = .returned (.bool r) ∧ Wd w W' [] [] ) := by
  refine sxstart (n := 30) (l := [(0, .agg #[.int .i64 a0.f0, .int .i64 a0.f1, .int .i64 a0.f2, .int .i64 a0.f3])]) Tryd.func67 rfl rfl (Nat.le_of_ble_eq_true KR) (subsA_cons rfl (subsA_nil _)) ?_
  intro a ha
  have HW := Wd.refl w
  unfold sense_good.f at h
  refine wp_seq_k (fun K5307 hK5308 => ?_)
  refine wp_region_lit ?_
  refine stepnew ha HW 1 #[.int .i64 a0.f0, .int .i64 a0.f1, .int .i64 a0.f2, .int .i64 a0.f3] 66 KR KR ?_; clear ha HW a; intro b5309 a W5310 HW ha
  refine stepp ha 2 (.bool false) KR KR ?_; clear ha a; intro a ha
  refine endl ?_
  refine thenN (hK5308 _ _ ?_); clear hK5308
  refine wp_seq_k (fun K5311 hK5312 => ?_)
  refine wp_region_lit ?_
  refine stepp ha 3 (.func (.func 83) #[] #[]) KR KR ?_; clear ha a; intro a ha
  refine endl ?_
  refine thenN (hK5312 _ _ ?_); clear hK5312
  refine wp_seq_k (fun K5313 hK5314 => ?_)
  refine wp_region_lit ?_
  refine stepp ha 4 (.func (.func 83) #[] #[]) KR KR ?_; clear ha a; intro a ha
  refine stepp ha 5 (.pointer (some ⟨b5309, 0, none⟩)) KR KR ?_; clear ha a; intro a ha
  refine stepl ha 6 (HW.ca (i := 0) (b := b5309) (C := #[.int .i64 a0.f0, .int .i64 a0.f1, .int .i64 a0.f2, .int .i64 a0.f3]) (T := 66) (fr := (0, 0)) KR) 3 0 (.tmp 5) (.int .i64 a0.f0) rfl KR KR KR ?_; clear ha a; intro a ha
  obtain ⟨t5315, ht5316, h_⟩ := bind_some' h; clear h; have h := h_; clear h_
  refine stepc ha 7 KR KR (sense_good_1.calls a0.f0 15 t5315 _ ht5316) ?_; clear ha a; rintro e W5317 ⟨rfl, HX5318⟩
  refine ⟨_, rfl, ?_⟩; intro a ha; replace HW := HW.callw HX5318; clear HX5318
  refine stepp ha 8 (.bool t5315) KR KR ?_; clear ha a; intro a ha
  by_cases hp5319 : t5315 = true
  · skip
    replace h := ite_pos' h hp5319
    replace ha := ha.bool 8 KR (hp5319)
    refine stepp ha 9 (.func (.func 83) #[] #[]) KR KR ?_; clear ha a; intro a ha
    refine stepp ha 10 (.pointer (some ⟨b5309, 1, none⟩)) KR KR ?_; clear ha a; intro a ha
    refine stepl ha 11 (HW.ca (i := 0) (b := b5309) (C := #[.int .i64 a0.f0, .int .i64 a0.f1, .int .i64 a0.f2, .int .i64 a0.f3]) (T := 66) (fr := (0, 0)) KR) 3 1 (.tmp 10) (.int .i64 a0.f1) rfl KR KR KR ?_; clear ha a; intro a ha
    obtain ⟨t5320, ht5321, h_⟩ := bind_some' h; clear h; have h := h_; clear h_
    refine stepc ha 12 KR KR (sense_good_1.calls a0.f1 255 t5320 _ ht5321) ?_; clear ha a; rintro e W5322 ⟨rfl, HX5323⟩
    refine ⟨_, rfl, ?_⟩; intro a ha; replace HW := HW.callw HX5323; clear HX5323
    refine stepp ha 13 (.bool t5320) KR KR ?_; clear ha a; intro a ha
    refine stepp ha 14 (.bool t5320) KR KR ?_; clear ha a; intro a ha
    by_cases hp5324 : t5320 = true
    · skip
      replace h := ite_pos' h hp5324
      replace ha := ha.bool 14 KR (hp5324)
      refine stepp ha 15 (.func (.func 83) #[] #[]) KR KR ?_; clear ha a; intro a ha
      refine stepp ha 16 (.pointer (some ⟨b5309, 2, none⟩)) KR KR ?_; clear ha a; intro a ha
      refine stepl ha 17 (HW.ca (i := 0) (b := b5309) (C := #[.int .i64 a0.f0, .int .i64 a0.f1, .int .i64 a0.f2, .int .i64 a0.f3]) (T := 66) (fr := (0, 0)) KR) 3 2 (.tmp 16) (.int .i64 a0.f2) rfl KR KR KR ?_; clear ha a; intro a ha
      obtain ⟨t5325, ht5326, h_⟩ := bind_some' h; clear h; have h := h_; clear h_
      refine stepc ha 18 KR KR (sense_good_1.calls a0.f2 255 t5325 _ ht5326) ?_; clear ha a; rintro e W5327 ⟨rfl, HX5328⟩
      refine ⟨_, rfl, ?_⟩; intro a ha; replace HW := HW.callw HX5328; clear HX5328
      refine stepp ha 19 (.bool t5325) KR KR ?_; clear ha a; intro a ha
      refine stepp ha 20 (.bool t5325) KR KR ?_; clear ha a; intro a ha
      by_cases hp5329 : t5325 = true
      · skip
        replace h := ite_pos' h hp5329
        replace ha := ha.bool 20 KR (hp5329)
        refine stepp ha 21 (.pointer (some ⟨b5309, 3, none⟩)) KR KR ?_; clear ha a; intro a ha
        refine stepl ha 22 (HW.ca (i := 0) (b := b5309) (C := #[.int .i64 a0.f0, .int .i64 a0.f1, .int .i64 a0.f2, .int .i64 a0.f3]) (T := 66) (fr := (0, 0)) KR) 3 3 (.tmp 21) (.int .i64 a0.f3) rfl KR KR KR ?_; clear ha a; intro a ha
        refine stepp ha 23 (.bool (decide (((-1) : Int) ≤ a0.f3))) KR KR ?_; clear ha a; intro a ha
        refine stepp ha 24 (.bool (decide (((-1) : Int) ≤ a0.f3))) KR KR ?_; clear ha a; intro a ha
        refine stepp ha 25 (.bool (decide (((-1) : Int) ≤ a0.f3))) KR KR ?_; clear ha a; intro a ha
        by_cases hp5330 : ((-1) : Int) ≤ a0.f3
        · skip
          replace h := ite_pos' h hp5330
          replace ha := ha.bool 25 KR (decide_eq_true hp5330)
          refine stepp ha 26 (.pointer (some ⟨b5309, 3, none⟩)) KR KR ?_; clear ha a; intro a ha
          refine stepl ha 27 (HW.ca (i := 0) (b := b5309) (C := #[.int .i64 a0.f0, .int .i64 a0.f1, .int .i64 a0.f2, .int .i64 a0.f3]) (T := 66) (fr := (0, 0)) KR) 3 3 (.tmp 26) (.int .i64 a0.f3) rfl KR KR KR ?_; clear ha a; intro a ha
          refine stepp ha 28 (.bool (decide (a0.f3 < 4294967296))) KR KR ?_; clear ha a; intro a ha
          refine stepp ha 29 (.bool (decide (a0.f3 < 4294967296))) KR KR ?_; clear ha a; intro a ha
          refine stepp ha 2 (.bool (decide (a0.f3 < 4294967296))) KR KR ?_; clear ha a; intro a ha
          refine endl ?_
          refine thenN (hK5314 _ _ ?_); clear hK5314
          refine wp_ret ?_
          obtain rfl := Option.some.inj h
          exact finv ha _ _ rfl (.tmp (v := .bool (decide (a0.f3 < 4294967296))) KR .nil) (.bool (decide (a0.f3 < 4294967296))) rfl ⟨rfl, HW.pick [] [] (by decide) (by decide) rfl KR⟩
        · skip
          replace h := ite_neg' h hp5330
          replace ha := ha.bool 25 KR (decide_eq_false hp5330)
          refine stepo ha 26 KR ?_; clear ha a; intro a ha
          refine stepo ha 27 KR ?_; clear ha a; intro a ha
          refine stepo ha 28 KR ?_; clear ha a; intro a ha
          refine stepp ha 29 (.bool false) KR KR ?_; clear ha a; intro a ha
          refine stepp ha 2 (.bool false) KR KR ?_; clear ha a; intro a ha
          refine endl ?_
          refine thenN (hK5314 _ _ ?_); clear hK5314
          refine wp_ret ?_
          obtain rfl := Option.some.inj h
          exact finv ha _ _ rfl (.tmp (v := .bool false) KR .nil) (.bool false) rfl ⟨rfl, HW.pick [] [] (by decide) (by decide) rfl KR⟩
      · skip
        replace h := ite_neg' h hp5329
        replace ha := ha.bool 20 KR (bool_f hp5329)
        refine stepo ha 21 KR ?_; clear ha a; intro a ha
        refine stepo ha 22 KR ?_; clear ha a; intro a ha
        refine stepo ha 23 KR ?_; clear ha a; intro a ha
        refine stepp ha 24 (.bool false) KR KR ?_; clear ha a; intro a ha
        refine stepp ha 25 (.bool false) KR KR ?_; clear ha a; intro a ha
        refine stepo ha 26 KR ?_; clear ha a; intro a ha
        refine stepo ha 27 KR ?_; clear ha a; intro a ha
        refine stepo ha 28 KR ?_; clear ha a; intro a ha
        refine stepp ha 29 (.bool false) KR KR ?_; clear ha a; intro a ha
        refine stepp ha 2 (.bool false) KR KR ?_; clear ha a; intro a ha
        refine endl ?_
        refine thenN (hK5314 _ _ ?_); clear hK5314
        refine wp_ret ?_
        obtain rfl := Option.some.inj h
        exact finv ha _ _ rfl (.tmp (v := .bool false) KR .nil) (.bool false) rfl ⟨rfl, HW.pick [] [] (by decide) (by decide) rfl KR⟩
    · skip
      replace h := ite_neg' h hp5324
      replace ha := ha.bool 14 KR (bool_f hp5324)
      refine stepo ha 15 KR ?_; clear ha a; intro a ha
      refine stepo ha 16 KR ?_; clear ha a; intro a ha
      refine stepo ha 17 KR ?_; clear ha a; intro a ha
      refine stepo ha 18 KR ?_; clear ha a; intro a ha
      refine stepp ha 19 (.bool false) KR KR ?_; clear ha a; intro a ha
      refine stepp ha 20 (.bool false) KR KR ?_; clear ha a; intro a ha
      refine stepo ha 21 KR ?_; clear ha a; intro a ha
      refine stepo ha 22 KR ?_; clear ha a; intro a ha
      refine stepo ha 23 KR ?_; clear ha a; intro a ha
      refine stepp ha 24 (.bool false) KR KR ?_; clear ha a; intro a ha
      refine stepp ha 25 (.bool false) KR KR ?_; clear ha a; intro a ha
      refine stepo ha 26 KR ?_; clear ha a; intro a ha
      refine stepo ha 27 KR ?_; clear ha a; intro a ha
      refine stepo ha 28 KR ?_; clear ha a; intro a ha
      refine stepp ha 29 (.bool false) KR KR ?_; clear ha a; intro a ha
      refine stepp ha 2 (.bool false) KR KR ?_; clear ha a; intro a ha
      refine endl ?_
      refine thenN (hK5314 _ _ ?_); clear hK5314
      refine wp_ret ?_
      obtain rfl := Option.some.inj h
      exact finv ha _ _ rfl (.tmp (v := .bool false) KR .nil) (.bool false) rfl ⟨rfl, HW.pick [] [] (by decide) (by decide) rfl KR⟩
  · skip
    replace h := ite_neg' h hp5319
    replace ha := ha.bool 8 KR (bool_f hp5319)
    refine stepo ha 9 KR ?_; clear ha a; intro a ha
    refine stepo ha 10 KR ?_; clear ha a; intro a ha
    refine stepo ha 11 KR ?_; clear ha a; intro a ha
    refine stepo ha 12 KR ?_; clear ha a; intro a ha
    refine stepp ha 13 (.bool false) KR KR ?_; clear ha a; intro a ha
    refine stepp ha 14 (.bool false) KR KR ?_; clear ha a; intro a ha
    refine stepo ha 15 KR ?_; clear ha a; intro a ha
    refine stepo ha 16 KR ?_; clear ha a; intro a ha
    refine stepo ha 17 KR ?_; clear ha a; intro a ha
    refine stepo ha 18 KR ?_; clear ha a; intro a ha
    refine stepp ha 19 (.bool false) KR KR ?_; clear ha a; intro a ha
    refine stepp ha 20 (.bool false) KR KR ?_; clear ha a; intro a ha
    refine stepo ha 21 KR ?_; clear ha a; intro a ha
    refine stepo ha 22 KR ?_; clear ha a; intro a ha
    refine stepo ha 23 KR ?_; clear ha a; intro a ha
    refine stepp ha 24 (.bool false) KR KR ?_; clear ha a; intro a ha
    refine stepp ha 25 (.bool false) KR KR ?_; clear ha a; intro a ha
    refine stepo ha 26 KR ?_; clear ha a; intro a ha
    refine stepo ha 27 KR ?_; clear ha a; intro a ha
    refine stepo ha 28 KR ?_; clear ha a; intro a ha
    refine stepp ha 29 (.bool false) KR KR ?_; clear ha a; intro a ha
    refine stepp ha 2 (.bool false) KR KR ?_; clear ha a; intro a ha
    refine endl ?_
    refine thenN (hK5314 _ _ ?_); clear hK5314
    refine wp_ret ?_
    obtain rfl := Option.some.inj h
    exact finv ha _ _ rfl (.tmp (v := .bool false) KR .nil) (.bool false) rfl ⟨rfl, HW.pick [] [] (by decide) (by decide) rfl KR⟩
/-! ### strings.Repeat: function 69, by the library's contract -/
def strings_Repeat.f (a0 : ByteArray) (a1 : Int) : Option ByteArray :=
  asrt (0 ≤ a1) (asrt (a1 ≤ 9223372036854775807) (asrt (a0.size * a1.toNat ≤ 140737488355328) (some ⟨(Lib.repeatL a0.data.toList a1.toNat).toArray⟩)))
theorem strings_Repeat.calls (a0 : ByteArray) (a1 : Int)  (r : ByteArray) (w : World) (h : strings_Repeat.f a0 a1 = some r) :
    Calls Tryd.prog 69 #[.string a0, .int .i64 a1] w (fun e W' => e = .returned (.string r) ∧ Wd w W' [] []) := by
  unfold strings_Repeat.f at h
  obtain ⟨h0, h⟩ := asrt_some h
  obtain ⟨h1, h⟩ := asrt_some h
  obtain ⟨h2, h⟩ := asrt_some h
  obtain rfl := Option.some.inj h
  obtain ⟨c, rfl⟩ := Int.eq_ofNat_of_zero_le h0
  exact (Tryd.strings_Repeat a0 c w (by omega) h2).mono fun e W' ⟨he, hb⟩ => ⟨he, (Wd.refl w).call hb⟩
end Go.Proofs.YthjjbkgifelooaaDoor.F
