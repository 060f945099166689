/- headgate/access.Type, headgate/access.registered, headgate/access.Holds, headgate/fields.shifts, headgate/fields.put[uint64], headgate/fields.PutLittle, headgate/nresv.header, headgate/nresv.entry, headgate/nresv.bit, headgate/nresv.Report, headgate/nresv.Size: plain functions, and that the calls come to what they say. No condition. -/
import Derived.Test.YthjjbkgifelooaaDoorFT
namespace Go.Proofs.YthjjbkgifelooaaDoor.F
open Go Go.RowKit Go.Proofs.YthjjbkgifelooaaDoor.X
set_option linter.unusedVariables false
set_option linter.unusedSimpArgs false
/-! ### headgate/access.Type: function 48 -/
def access_Type.f (a0 : Int) : Option Bool :=
  if a0 ≥ 1 then (some (decide (a0 ≤ 6))) else (some false)
set_option maxRecDepth 100000 in
set_option maxHeartbeats 4000000 in
theorem access_Type.calls (a0 : Int)  (r : Bool) (w : World)  (h : access_Type.f a0 = some r) :
    Calls Tryd.prog 48 #[.int .i64 a0] w (fun e W' => e = .returned (.bool r) ∧ Wd w W' [] [] ) := by
  refine sxstart (n := 9) (l := [(0, .int .i64 a0)]) Tryd.func48 rfl rfl (Nat.le_of_ble_eq_true KR) (subsA_cons rfl (subsA_nil _)) ?_
  intro a ha
  have HW := Wd.refl w
  unfold access_Type.f at h
  refine wp_seq_k (fun K77 hK78 => ?_)
  refine wp_region_lit ?_
  refine stepp ha 2 (.bool false) KR KR ?_; clear ha a; intro a ha
  refine endl ?_
  refine thenN (hK78 _ _ ?_); clear hK78
  refine wp_seq_k (fun K79 hK80 => ?_)
  refine wp_region_lit ?_
  refine stepp ha 3 (.int .i64 a0) KR KR ?_; clear ha a; intro a ha
  refine stepp ha 4 (.bool (decide (a0 ≥ 1))) KR KR ?_; clear ha a; intro a ha
  refine stepp ha 5 (.bool (decide (a0 ≥ 1))) KR KR ?_; clear ha a; intro a ha
  by_cases hp81 : a0 ≥ 1
  · skip
    replace h := ite_pos' h hp81
    replace ha := ha.bool 5 KR (decide_eq_true hp81)
    refine stepp ha 6 (.int .i64 a0) KR KR ?_; clear ha a; intro a ha
    refine stepp ha 7 (.bool (decide (a0 ≤ 6))) KR KR ?_; clear ha a; intro a ha
    refine stepp ha 8 (.bool (decide (a0 ≤ 6))) KR KR ?_; clear ha a; intro a ha
    refine stepp ha 2 (.bool (decide (a0 ≤ 6))) KR KR ?_; clear ha a; intro a ha
    refine endl ?_
    refine thenN (hK80 _ _ ?_); clear hK80
    refine wp_ret ?_
    obtain rfl := Option.some.inj h
    exact finv ha _ _ rfl (.tmp (v := .bool (decide (a0 ≤ 6))) KR .nil) (.bool (decide (a0 ≤ 6))) rfl ⟨rfl, HW.pick [] [] (by decide) (by decide) rfl KR⟩
  · skip
    replace h := ite_neg' h hp81
    replace ha := ha.bool 5 KR (decide_eq_false hp81)
    refine stepo ha 6 KR ?_; clear ha a; intro a ha
    refine stepo ha 7 KR ?_; clear ha a; intro a ha
    refine stepp ha 8 (.bool false) KR KR ?_; clear ha a; intro a ha
    refine stepp ha 2 (.bool false) KR KR ?_; clear ha a; intro a ha
    refine endl ?_
    refine thenN (hK80 _ _ ?_); clear hK80
    refine wp_ret ?_
    obtain rfl := Option.some.inj h
    exact finv ha _ _ rfl (.tmp (v := .bool false) KR .nil) (.bool false) rfl ⟨rfl, HW.pick [] [] (by decide) (by decide) rfl KR⟩
/-! ### headgate/access.registered: function 56 -/
def access_registered.b0 (K : Nat) (a0 : T_api_Table) (a1 : ByteArray) (again135 : Int → Option Bool) (x136 : Int) : Option Bool :=
  if x136 < (a0.f0.length : Int) then (asrt (0 ≤ x136) (if ((rdL T_api_Reg.z a0.f0 x136).f0) = a1 then (some true) else (again135 (IntKind.wrap .i64 (x136 + 1))))) else (some false)
def access_registered.l0 (K : Nat) (a0 : T_api_Table) (a1 : ByteArray) : Nat → Int → Option Bool
  | 0, _ => none
  | k_ + 1, x136 => access_registered.b0 K a0 a1 (access_registered.l0 K a0 a1 k_) x136
def access_registered.f (K : Nat) (a0 : T_api_Table) (a1 : ByteArray) : Option Bool :=
  access_registered.l0 K a0 a1 K 0
set_option maxRecDepth 100000 in
set_option maxHeartbeats 4000000 in
theorem access_registered.calls (K : Nat) (a0 : T_api_Table) (a1 : ByteArray) (A0_0 : Option Addr) (c0_0 : Nat) (r : Bool) (w : World) (hr0_0 : Rd 2 w (.slice A0_0 a0.f0.length c0_0) a0.f0.length (encs T_api_Reg.enc a0.f0)) (h : access_registered.f K a0 a1 = some r) :
    Calls Tryd.prog 56 #[.agg #[.slice A0_0 a0.f0.length c0_0, .int .i64 a0.f1.f0, .string a0.f1.f1, .int .u32 a0.f2, .bool a0.f3], .string a1] w (fun e W' => e = .returned (.bool r) ∧ Wd w W' [] [] ) := by
  refine sxstart (n := 19) (l := [(0, .agg #[.slice A0_0 a0.f0.length c0_0, .int .i64 a0.f1.f0, .string a0.f1.f1, .int .u32 a0.f2, .bool a0.f3]), (1, .string a1)]) Tryd.func56 rfl rfl (Nat.le_of_ble_eq_true KR) (subsA_cons rfl (subsA_cons rfl (subsA_nil _))) ?_
  intro a ha
  have HW := Wd.refl w
  unfold access_registered.f at h
  refine wp_seq_k (fun K82 hK83 => ?_)
  refine wp_region_lit ?_
  refine stepnew ha HW 2 #[.slice A0_0 a0.f0.length c0_0, .int .i64 a0.f1.f0, .string a0.f1.f1, .int .u32 a0.f2, .bool a0.f3] 27 KR KR ?_; clear ha HW a; intro b84 a W85 HW ha
  refine stepp ha 4 (.bool false) KR KR ?_; clear ha a; intro a ha
  refine endl ?_
  refine thenN (hK83 _ _ ?_); clear hK83
  refine wp_seq_k (fun K86 hK87 => ?_)
  refine wp_seq_k (fun K88 hK89 => ?_)
  refine wp_region_lit ?_
  refine stepp ha 7 (.pointer (some ⟨b84, 0, none⟩)) KR KR ?_; clear ha a; intro a ha
  refine stepl ha 8 (HW.ca (i := 0) (b := b84) (C := #[.slice A0_0 a0.f0.length c0_0, .int .i64 a0.f1.f0, .string a0.f1.f1, .int .u32 a0.f2, .bool a0.f3]) (T := 27) (fr := (0, 0)) KR) 22 0 (.tmp 7) (.slice A0_0 a0.f0.length c0_0) rfl KR KR KR ?_; clear ha a; intro a ha
  refine stepp ha 9 (.int .i64 (a0.f0.length : Int)) KR KR ?_; clear ha a; intro a ha
  refine stepp ha 10 (.int .i64 0) KR KR ?_; clear ha a; intro a ha
  refine endl ?_
  refine thenN (hK89 _ _ ?_); clear hK89
  refine wp_block ?_
  refine loopk (fun k => fun a W137 => ∃ (x136 : Int), access_registered.l0 K a0 a1 k x136 = some r ∧ Has 19 [(1, .string a1), (8, .slice A0_0 a0.f0.length c0_0), (9, .int .i64 (a0.f0.length : Int)), (10, .int .i64 x136)] a ∧ Wd w W137 [] []) K ?_ ?_
  · skip
    exact ⟨0, h, ha.sub (subs_cons KR (subs_cons KR (subs_cons KR (subs_cons KR (subs_nil _))))), HW.pick [] [] (by decide) (by decide) KR KR⟩
  · skip
    intro k a W137 hI
    obtain ⟨x136, h, ha, HW⟩ := hI
    cases k with
    | zero => exact (none_some (show none = some r from h)).elim
    | succ k138 =>
      replace h : access_registered.b0 K a0 a1 (access_registered.l0 K a0 a1 k138) x136 = some r := h
      obtain ⟨again135, hag139⟩ : ∃ g_, g_ = access_registered.l0 K a0 a1 k138 := ⟨_, rfl⟩
      rw [← hag139] at h
      unfold access_registered.b0 at h
      refine wp_seq_k (fun K140 hK141 => ?_)
      refine wp_region_lit ?_
      refine stepp ha 11 (.bool (decide (x136 < (a0.f0.length : Int)))) KR KR ?_; clear ha a; intro a ha
      refine endl ?_
      refine thenN (hK141 _ _ ?_); clear hK141
      refine wp_seq_k (fun K142 hK143 => ?_)
      by_cases hp144 : x136 < (a0.f0.length : Int)
      · skip
        replace h := ite_pos' h hp144
        refine condT ha KR KR (t := decide (x136 < (a0.f0.length : Int))) (decide_eq_true hp144) ?_
        refine wp_skip ?_
        refine thenN (hK143 _ _ ?_); clear hK143
        refine wp_seq_k (fun K145 hK146 => ?_)
        refine wp_block ?_
        refine wp_seq_k (fun K147 hK148 => ?_)
        refine wp_region_lit ?_
        obtain ⟨hA149, h_⟩ := asrt_some h; clear h; have h := h_; clear h_
        refine stepie T_api_Reg.enc T_api_Reg.z ha 12 (fun _ => rfl) (v := .slice A0_0 a0.f0.length c0_0) (xs := a0.f0) ((HW.rd0 hr0_0)) 22 44 (.tmp 8) (.tmp 10) .i64 x136 rfl KR KR KR KR hA149 (show (x136 : Int) < ((a0.f0).length : Int) from hp144) KR ?_; clear ha a; intro b150 off151 a hC152 ha
        refine stepl ha 13 hC152 44 0 (.tmp 12) (.agg #[.string ((rdL T_api_Reg.z a0.f0 x136).f0), .int .u64 ((rdL T_api_Reg.z a0.f0 x136).f1)]) rfl KR KR KR ?_; clear ha a; intro a ha
        refine stepnew ha HW 6 #[.string (⟨#[]⟩ : ByteArray), .int .u64 0] 44 KR KR ?_; clear ha HW a; intro b153 a W154 HW ha
        refine stepst ha HW 0 (b := b153) (C := #[.string (⟨#[]⟩ : ByteArray), .int .u64 0]) (T := 44) KR 44 0 (.tmp 6) (.tmp 13) (.agg #[.string ((rdL T_api_Reg.z a0.f0 x136).f0), .int .u64 ((rdL T_api_Reg.z a0.f0 x136).f1)]) #[.string ((rdL T_api_Reg.z a0.f0 x136).f0), .int .u64 ((rdL T_api_Reg.z a0.f0 x136).f1)] rfl KR KR KR KR KR KR KR ?_; clear ha HW a; intro a W155 HW ha
        refine endl ?_
        refine thenN (hK148 _ _ ?_); clear hK148
        refine wp_seq_k (fun K156 hK157 => ?_)
        refine wp_region_lit ?_
        refine stepp ha 14 (.pointer (some ⟨b153, 0, none⟩)) KR KR ?_; clear ha a; intro a ha
        refine stepl ha 15 (HW.ca (i := 0) (b := b153) (C := #[.string ((rdL T_api_Reg.z a0.f0 x136).f0), .int .u64 ((rdL T_api_Reg.z a0.f0 x136).f1)]) (T := 44) (fr := (0, 0)) KR) 9 0 (.tmp 14) (.string ((rdL T_api_Reg.z a0.f0 x136).f0)) rfl KR KR KR ?_; clear ha a; intro a ha
        refine stepp ha 16 (.string a1) KR KR ?_; clear ha a; intro a ha
        refine stepp ha 17 (.bool (((rdL T_api_Reg.z a0.f0 x136).f0).toList == a1.toList)) KR KR ?_; clear ha a; intro a ha
        refine endl ?_
        refine thenN (hK157 _ _ ?_); clear hK157
        by_cases hp158 : ((rdL T_api_Reg.z a0.f0 x136).f0) = a1
        · skip
          replace h := ite_pos' h hp158
          refine condT ha KR KR (t := (((rdL T_api_Reg.z a0.f0 x136).f0).toList == a1.toList)) (str_eq_t hp158) ?_
          refine wp_seq_k (fun K159 hK160 => ?_)
          refine wp_region_lit ?_
          refine stepp ha 4 (.bool true) KR KR ?_; clear ha a; intro a ha
          refine endl ?_
          refine thenN (hK160 _ _ ?_); clear hK160
          refine wp_ret ?_
          refine blkR ?_
          refine thenR ?_
          refine thenR ?_
          refine blkR ?_
          refine thenR ?_
          obtain rfl := Option.some.inj h
          exact finv ha _ _ rfl (.tmp (v := .bool true) KR .nil) (.bool true) rfl ⟨rfl, HW.pick [] [] (by decide) (by decide) rfl KR⟩
        · skip
          replace h := ite_neg' h hp158
          refine condF ha KR KR (t := (((rdL T_api_Reg.z a0.f0 x136).f0).toList == a1.toList)) (str_eq_f hp158) ?_
          refine wp_skip ?_
          refine blkN ?_
          refine thenN (hK146 _ _ ?_); clear hK146
          refine wp_region_lit ?_
          refine stepp ha 18 (.int .i64 (IntKind.wrap .i64 (x136 + 1))) KR KR ?_; clear ha a; intro a ha
          refine stepp ha 10 (.int .i64 (IntKind.wrap .i64 (x136 + 1))) KR KR ?_; clear ha a; intro a ha
          refine endl ?_
          exact thenN ⟨k138, Nat.lt_succ_self k138, IntKind.wrap .i64 (x136 + 1), (by rw [← hag139]; exact h), ha.sub (subs_cons KR (subs_cons KR (subs_cons KR (subs_cons KR (subs_nil _))))), HW.pick [] [] (by decide) (by decide) KR KR⟩
      · skip
        replace h := ite_neg' h hp144
        refine condF ha KR KR (t := decide (x136 < (a0.f0.length : Int))) (decide_eq_false hp144) ?_
        refine wp_exit ?_
        refine thenE ?_
        refine thenE ?_
        refine inBlk ?_
        refine thenN (hK87 _ _ ?_); clear hK87
        refine wp_seq_k (fun K161 hK162 => ?_)
        refine wp_region_lit ?_
        refine stepp ha 4 (.bool false) KR KR ?_; clear ha a; intro a ha
        refine endl ?_
        refine thenN (hK162 _ _ ?_); clear hK162
        refine wp_ret ?_
        obtain rfl := Option.some.inj h
        exact finv ha _ _ rfl (.tmp (v := .bool false) KR .nil) (.bool false) rfl ⟨rfl, HW.pick [] [] (by decide) (by decide) rfl KR⟩
/-! ### headgate/access.Holds: function 22 -/
def access_Holds.f (K : Nat) (a0 : T_api_Table) (a1 : ByteArray) : Option Bool :=
  (access_Type.f a0.f1.f0).bind fun t171 => (if t171 = true then (asrt (0 ≤ a0.f1.f0) (asrt (a0.f1.f0 < 7) (if (band .i64 (rdL (0 : Int) G_access_lets a0.f1.f0) 8) = 0 then (some (a1.toList == a0.f1.f1.toList)) else ((access_registered.f K (⟨a0.f0, (⟨a0.f1.f0, a0.f1.f1⟩ : T_api_Hold), a0.f2, a0.f3⟩ : T_api_Table) a1).bind fun t187 => (some t187))))) else (some false))
set_option maxRecDepth 100000 in
set_option maxHeartbeats 4000000 in
theorem access_Holds.calls (K : Nat) (a0 : T_api_Table) (a1 : ByteArray) (A0_0 : Option Addr) (c0_0 : Nat) (r : Bool) (w : World) (hG0 : CA w 0 0 (encs (encI .i64) G_access_lets).toArray) (hr0_0 : Rd 2 w (.slice A0_0 a0.f0.length c0_0) a0.f0.length (encs T_api_Reg.enc a0.f0)) (h : access_Holds.f K a0 a1 = some r) :
    Calls Tryd.prog 22 #[.agg #[.slice A0_0 a0.f0.length c0_0, .int .i64 a0.f1.f0, .string a0.f1.f1, .int .u32 a0.f2, .bool a0.f3], .string a1] w (fun e W' => e = .returned (.bool r) ∧ Wd w W' [] [] ) := by
  refine sxstart (n := 25) (l := [(0, .agg #[.slice A0_0 a0.f0.length c0_0, .int .i64 a0.f1.f0, .string a0.f1.f1, .int .u32 a0.f2, .bool a0.f3]), (1, .string a1)]) Tryd.func22 rfl rfl (Nat.le_of_ble_eq_true KR) (subsA_cons rfl (subsA_cons rfl (subsA_nil _))) ?_
  intro a ha
  have HW := Wd.refl w
  unfold access_Holds.f at h
  refine wp_seq_k (fun K163 hK164 => ?_)
  refine wp_region_lit ?_
  refine stepnew ha HW 2 #[.slice A0_0 a0.f0.length c0_0, .int .i64 a0.f1.f0, .string a0.f1.f1, .int .u32 a0.f2, .bool a0.f3] 27 KR KR ?_; clear ha HW a; intro b165 a W166 HW ha
  refine stepp ha 4 (.bool false) KR KR ?_; clear ha a; intro a ha
  refine endl ?_
  refine thenN (hK164 _ _ ?_); clear hK164
  refine wp_seq_k (fun K167 hK168 => ?_)
  refine wp_seq_k (fun K169 hK170 => ?_)
  refine wp_region_lit ?_
  refine stepp ha 5 (.pointer (some ⟨b165, 1, none⟩)) KR KR ?_; clear ha a; intro a ha
  refine stepp ha 6 (.pointer (some ⟨b165, 1, none⟩)) KR KR ?_; clear ha a; intro a ha
  refine stepl ha 7 (HW.ca (i := 0) (b := b165) (C := #[.slice A0_0 a0.f0.length c0_0, .int .i64 a0.f1.f0, .string a0.f1.f1, .int .u32 a0.f2, .bool a0.f3]) (T := 27) (fr := (0, 0)) KR) 3 1 (.tmp 6) (.int .i64 a0.f1.f0) rfl KR KR KR ?_; clear ha a; intro a ha
  obtain ⟨t171, ht172, h_⟩ := bind_some' h; clear h; have h := h_; clear h_
  refine stepc ha 8 KR KR (access_Type.calls a0.f1.f0 t171 _ ht172) ?_; clear ha a; rintro e W173 ⟨rfl, HX174⟩
  refine ⟨_, rfl, ?_⟩; intro a ha; replace HW := HW.callw HX174; clear HX174
  refine stepp ha 9 (.bool (!t171)) KR KR ?_; clear ha a; intro a ha
  refine endl ?_
  refine thenN (hK170 _ _ ?_); clear hK170
  by_cases hp175 : t171 = true
  · skip
    replace h := ite_pos' h hp175
    refine condF ha KR KR (t := (!t171)) (not_f (hp175)) ?_
    refine wp_skip ?_
    refine thenN (hK168 _ _ ?_); clear hK168
    refine wp_seq_k (fun K178 hK179 => ?_)
    refine wp_seq_k (fun K180 hK181 => ?_)
    refine wp_region_lit ?_
    refine stepp ha 10 (.pointer (some ⟨b165, 1, none⟩)) KR KR ?_; clear ha a; intro a ha
    refine stepp ha 11 (.pointer (some ⟨b165, 1, none⟩)) KR KR ?_; clear ha a; intro a ha
    refine stepl ha 12 (HW.ca (i := 0) (b := b165) (C := #[.slice A0_0 a0.f0.length c0_0, .int .i64 a0.f1.f0, .string a0.f1.f1, .int .u32 a0.f2, .bool a0.f3]) (T := 27) (fr := (0, 0)) KR) 3 1 (.tmp 11) (.int .i64 a0.f1.f0) rfl KR KR KR ?_; clear ha a; intro a ha
    obtain ⟨hA182, h_⟩ := asrt_some h; clear h; have h := h_; clear h_
    obtain ⟨hA183, h_⟩ := asrt_some h; clear h; have h := h_; clear h_
    refine stepiw ha 13 (sz := 1) 0 0 96 7 3 (.global 0) (.tmp 12) .i64 a0.f1.f0 rfl KR KR KR KR hA182 hA183 KR ?_; clear ha a; intro a ha
    refine stepl ha 14 (CA.el (encI .i64) (0 : Int) (fun _ => rfl) (HW.ca0 hG0) G_access_lets rfl (len := 7) rfl hA182 hA183) 3 0 (.tmp 13) (.int .i64 (rdL (0 : Int) G_access_lets a0.f1.f0)) rfl KR KR KR ?_; clear ha a; intro a ha
    refine stepp ha 15 (.int .i64 (band .i64 (rdL (0 : Int) G_access_lets a0.f1.f0) 8)) KR KR ?_; clear ha a; intro a ha
    refine stepp ha 16 (.bool ((band .i64 (rdL (0 : Int) G_access_lets a0.f1.f0) 8) != 0)) KR KR ?_; clear ha a; intro a ha
    refine endl ?_
    refine thenN (hK181 _ _ ?_); clear hK181
    by_cases hp184 : (band .i64 (rdL (0 : Int) G_access_lets a0.f1.f0) 8) = 0
    · skip
      replace h := ite_pos' h hp184
      refine condF ha KR KR (t := ((band .i64 (rdL (0 : Int) G_access_lets a0.f1.f0) 8) != 0)) (ineq_f hp184) ?_
      refine wp_skip ?_
      refine thenN (hK179 _ _ ?_); clear hK179
      refine wp_seq_k (fun K191 hK192 => ?_)
      refine wp_region_lit ?_
      refine stepp ha 20 (.string a1) KR KR ?_; clear ha a; intro a ha
      refine stepp ha 21 (.pointer (some ⟨b165, 1, none⟩)) KR KR ?_; clear ha a; intro a ha
      refine stepp ha 22 (.pointer (some ⟨b165, 2, none⟩)) KR KR ?_; clear ha a; intro a ha
      refine stepl ha 23 (HW.ca (i := 0) (b := b165) (C := #[.slice A0_0 a0.f0.length c0_0, .int .i64 a0.f1.f0, .string a0.f1.f1, .int .u32 a0.f2, .bool a0.f3]) (T := 27) (fr := (0, 0)) KR) 9 2 (.tmp 22) (.string a0.f1.f1) rfl KR KR KR ?_; clear ha a; intro a ha
      refine stepp ha 24 (.bool (a1.toList == a0.f1.f1.toList)) KR KR ?_; clear ha a; intro a ha
      refine stepp ha 4 (.bool (a1.toList == a0.f1.f1.toList)) KR KR ?_; clear ha a; intro a ha
      refine endl ?_
      refine thenN (hK192 _ _ ?_); clear hK192
      refine wp_ret ?_
      obtain rfl := Option.some.inj h
      exact finv ha _ _ rfl (.tmp (v := .bool (a1.toList == a0.f1.f1.toList)) KR .nil) (.bool (a1.toList == a0.f1.f1.toList)) rfl ⟨rfl, HW.pick [] [] (by decide) (by decide) rfl KR⟩
    · skip
      replace h := ite_neg' h hp184
      refine condT ha KR KR (t := ((band .i64 (rdL (0 : Int) G_access_lets a0.f1.f0) 8) != 0)) (ineq_t hp184) ?_
      refine wp_seq_k (fun K185 hK186 => ?_)
      refine wp_region_lit ?_
      refine stepl ha 17 (HW.ca (i := 0) (b := b165) (C := #[.slice A0_0 a0.f0.length c0_0, .int .i64 a0.f1.f0, .string a0.f1.f1, .int .u32 a0.f2, .bool a0.f3]) (T := 27) (fr := (0, 0)) KR) 27 0 (.tmp 2) (.agg #[.slice A0_0 a0.f0.length c0_0, .int .i64 a0.f1.f0, .string a0.f1.f1, .int .u32 a0.f2, .bool a0.f3]) rfl KR KR KR ?_; clear ha a; intro a ha
      refine stepp ha 18 (.string a1) KR KR ?_; clear ha a; intro a ha
      obtain ⟨t187, ht188, h_⟩ := bind_some' h; clear h; have h := h_; clear h_
      refine stepc ha 19 KR KR (access_registered.calls K (⟨a0.f0, (⟨a0.f1.f0, a0.f1.f1⟩ : T_api_Hold), a0.f2, a0.f3⟩ : T_api_Table) a1 A0_0 c0_0 t187 _ ((HW.rd0 hr0_0)) ht188) ?_; clear ha a; rintro e W189 ⟨rfl, HX190⟩
      refine ⟨_, rfl, ?_⟩; intro a ha; replace HW := HW.callw HX190; clear HX190
      refine stepp ha 4 (.bool t187) KR KR ?_; clear ha a; intro a ha
      refine endl ?_
      refine thenN (hK186 _ _ ?_); clear hK186
      refine wp_ret ?_
      refine thenR ?_
      obtain rfl := Option.some.inj h
      exact finv ha _ _ rfl (.tmp (v := .bool t187) KR .nil) (.bool t187) rfl ⟨rfl, HW.pick [] [] (by decide) (by decide) rfl KR⟩
  · skip
    replace h := ite_neg' h hp175
    refine condT ha KR KR (t := (!t171)) (not_t (bool_f hp175)) ?_
    refine wp_seq_k (fun K176 hK177 => ?_)
    refine wp_region_lit ?_
    refine stepp ha 4 (.bool false) KR KR ?_; clear ha a; intro a ha
    refine endl ?_
    refine thenN (hK177 _ _ ?_); clear hK177
    refine wp_ret ?_
    refine thenR ?_
    obtain rfl := Option.some.inj h
    exact finv ha _ _ rfl (.tmp (v := .bool false) KR .nil) (.bool false) rfl ⟨rfl, HW.pick [] [] (by decide) (by decide) rfl KR⟩
/-! ### headgate/fields.shifts: function 90 -/
def fields_shifts.b0 (K : Nat) (a0 : Int) (a1 : Bool) (again270 : (List Int) → Int → Option (List Int)) (x271 : List Int) (x275 : Int) : Option (List Int) :=
  if x275 < a0 then (if a1 = true then (asrt (x271.length + ([IntKind.wrap .i64 (8 * (IntKind.wrap .i64 ((IntKind.wrap .i64 (a0 - 1)) - x275)))] : List Int).length ≤ 17592186044416) (again270 (x271 ++ ([IntKind.wrap .i64 (8 * (IntKind.wrap .i64 ((IntKind.wrap .i64 (a0 - 1)) - x275)))] : List Int)) (IntKind.wrap .i64 (x275 + 1)))) else (asrt (x271.length + ([IntKind.wrap .i64 (8 * x275)] : List Int).length ≤ 17592186044416) (again270 (x271 ++ ([IntKind.wrap .i64 (8 * x275)] : List Int)) (IntKind.wrap .i64 (x275 + 1))))) else (some x271)
def fields_shifts.l0 (K : Nat) (a0 : Int) (a1 : Bool) : Nat → (List Int) → Int → Option (List Int)
  | 0, _, _ => none
  | k_ + 1, x271, x275 => fields_shifts.b0 K a0 a1 (fields_shifts.l0 K a0 a1 k_) x271 x275
def fields_shifts.f (K : Nat) (a0 : Int) (a1 : Bool) : Option (List Int) :=
  fields_shifts.l0 K a0 a1 K ([] : List Int) 0
set_option maxRecDepth 100000 in
set_option maxHeartbeats 4000000 in
theorem fields_shifts.calls (K : Nat) (a0 : Int) (a1 : Bool)  (r : List Int) (w : World)  (h : fields_shifts.f K a0 a1 = some r) :
    Calls Tryd.prog 90 #[.int .i64 a0, .bool a1] w (fun e W' => ∃ A_0 c_0, e = .returned (.slice A_0 r.length c_0) ∧ Wd w W' [] [⟨3, 1, .slice A_0 r.length c_0, r.length, encs (encI .i64) r⟩] ) := by
  refine sxstart (n := 27) (l := [(0, .int .i64 a0), (1, .bool a1)]) Tryd.func90 rfl rfl (Nat.le_of_ble_eq_true KR) (subsA_cons rfl (subsA_cons rfl (subsA_nil _))) ?_
  intro a ha
  have HW := Wd.refl w
  unfold fields_shifts.f at h
  refine wp_seq_k (fun K193 hK194 => ?_)
  refine wp_region_lit ?_
  refine stepp ha 4 (.slice none 0 0) KR KR ?_; clear ha a; intro a ha
  refine endl ?_
  refine thenN (hK194 _ _ ?_); clear hK194
  refine wp_seq_k (fun K195 hK196 => ?_)
  refine wp_region_lit ?_
  refine stepp ha 5 (.slice none 0 0) KR KR ?_; clear ha a; intro a ha
  refine endl ?_
  refine thenN (hK196 _ _ ?_); clear hK196
  refine wp_seq_k (fun K197 hK198 => ?_)
  refine wp_seq_k (fun K199 hK200 => ?_)
  refine wp_region_lit ?_
  refine stepp ha 7 (.int .i64 a0) KR KR ?_; clear ha a; intro a ha
  refine stepp ha 8 (.int .i64 0) KR KR ?_; clear ha a; intro a ha
  refine endl ?_
  refine thenN (hK200 _ _ ?_); clear hK200
  refine wp_block ?_
  refine loopk (fun k => fun a W276 => ∃ (x271 : List Int), ∃ A272, ∃ c273, ∃ (x275 : Int), fields_shifts.l0 K a0 a1 k x271 x275 = some r ∧ Has 27 [(0, .int .i64 a0), (1, .bool a1), (5, .slice A272 x271.length c273), (7, .int .i64 a0), (8, .int .i64 x275)] a ∧ Wd w W276 [] [⟨3, 1, .slice A272 x271.length c273, x271.length, encs (encI .i64) x271⟩]) K ?_ ?_
  · skip
    replace HW := HW.nilo 3 1
    exact ⟨([] : List Int), none, 0, 0, h, ha.sub (subs_cons KR (subs_cons KR (subs_cons KR (subs_cons KR (subs_cons KR (subs_nil _)))))), HW.pick [] [0] (by decide) (by decide) KR KR⟩
  · skip
    intro k a W276 hI
    obtain ⟨x271, A272, c273, x275, h, ha, HW⟩ := hI
    cases k with
    | zero => exact (none_some (show none = some r from h)).elim
    | succ k277 =>
      replace h : fields_shifts.b0 K a0 a1 (fields_shifts.l0 K a0 a1 k277) x271 x275 = some r := h
      obtain ⟨again270, hag278⟩ : ∃ g_, g_ = fields_shifts.l0 K a0 a1 k277 := ⟨_, rfl⟩
      rw [← hag278] at h
      unfold fields_shifts.b0 at h
      refine wp_seq_k (fun K279 hK280 => ?_)
      refine wp_region_lit ?_
      refine stepp ha 9 (.bool (decide (x275 < a0))) KR KR ?_; clear ha a; intro a ha
      refine endl ?_
      refine thenN (hK280 _ _ ?_); clear hK280
      refine wp_seq_k (fun K281 hK282 => ?_)
      by_cases hp283 : x275 < a0
      · skip
        replace h := ite_pos' h hp283
        refine condT ha KR KR (t := decide (x275 < a0)) (decide_eq_true hp283) ?_
        refine wp_skip ?_
        refine thenN (hK282 _ _ ?_); clear hK282
        refine wp_seq_k (fun K284 hK285 => ?_)
        refine wp_block ?_
        refine wp_seq_k (fun K286 hK287 => ?_)
        refine wp_region_lit ?_
        refine stepp ha 10 (.int .i64 x275) KR KR ?_; clear ha a; intro a ha
        refine stepp ha 6 (.int .i64 x275) KR KR ?_; clear ha a; intro a ha
        refine endl ?_
        refine thenN (hK287 _ _ ?_); clear hK287
        refine wp_seq_k (fun K288 hK289 => ?_)
        refine wp_region_lit ?_
        refine stepp ha 11 (.bool a1) KR KR ?_; clear ha a; intro a ha
        refine endl ?_
        refine thenN (hK289 _ _ ?_); clear hK289
        by_cases hp290 : a1 = true
        · skip
          replace h := ite_pos' h hp290
          refine condT ha KR KR (t := a1) (hp290) ?_
          refine wp_region_lit ?_
          refine stepp ha 12 (.slice A272 x271.length c273) KR KR ?_; clear ha a; intro a ha
          refine stepp ha 13 (.int .i64 a0) KR KR ?_; clear ha a; intro a ha
          refine stepp ha 14 (.int .i64 (IntKind.wrap .i64 (a0 - 1))) KR KR ?_; clear ha a; intro a ha
          refine stepp ha 15 (.int .i64 x275) KR KR ?_; clear ha a; intro a ha
          refine stepp ha 16 (.int .i64 (IntKind.wrap .i64 ((IntKind.wrap .i64 (a0 - 1)) - x275))) KR KR ?_; clear ha a; intro a ha
          refine stepp ha 17 (.int .i64 (IntKind.wrap .i64 (8 * (IntKind.wrap .i64 ((IntKind.wrap .i64 (a0 - 1)) - x275))))) KR KR ?_; clear ha a; intro a ha
          refine stepbs ha HW 18 3 1 1 #[.int .i64 (IntKind.wrap .i64 (8 * (IntKind.wrap .i64 ((IntKind.wrap .i64 (a0 - 1)) - x275))))] [.int .i64 (IntKind.wrap .i64 (8 * (IntKind.wrap .i64 ((IntKind.wrap .i64 (a0 - 1)) - x275))))] (by decide) KR KR KR KR ?_; clear ha HW a; intro b291 a W292 HW ha
          replace HW : Wd w W292 [] [⟨3, 1, .slice (some ⟨b291, 0, none⟩) ([IntKind.wrap .i64 (8 * (IntKind.wrap .i64 ((IntKind.wrap .i64 (a0 - 1)) - x275)))] : List Int).length 1, ([IntKind.wrap .i64 (8 * (IntKind.wrap .i64 ((IntKind.wrap .i64 (a0 - 1)) - x275)))] : List Int).length, encs (encI .i64) ([IntKind.wrap .i64 (8 * (IntKind.wrap .i64 ((IntKind.wrap .i64 (a0 - 1)) - x275)))] : List Int)⟩, ⟨3, 1, .slice A272 x271.length c273, x271.length, encs (encI .i64) x271⟩] := HW
          replace ha := ha.turn 18 (v := .slice (some ⟨b291, 0, none⟩) ([IntKind.wrap .i64 (8 * (IntKind.wrap .i64 ((IntKind.wrap .i64 (a0 - 1)) - x275)))] : List Int).length 1) KR rfl
          obtain ⟨hA294, h_⟩ := asrt_some h; clear h; have h := h_; clear h_
          refine stepape (encI .i64) ha HW 19 1 143 3 (.tmp 12) (.tmp 18) (.int .i64 0) 1 8 (.slice A272 x271.length c273) x271 (.slice (some ⟨b291, 0, none⟩) ([IntKind.wrap .i64 (8 * (IntKind.wrap .i64 ((IntKind.wrap .i64 (a0 - 1)) - x275)))] : List Int).length 1) ([IntKind.wrap .i64 (8 * (IntKind.wrap .i64 ((IntKind.wrap .i64 (a0 - 1)) - x275)))] : List Int) KR rfl KR KR (HW.rdo (i := 0) (q := ⟨3, 1, .slice (some ⟨b291, 0, none⟩) ([IntKind.wrap .i64 (8 * (IntKind.wrap .i64 ((IntKind.wrap .i64 (a0 - 1)) - x275)))] : List Int).length 1, ([IntKind.wrap .i64 (8 * (IntKind.wrap .i64 ((IntKind.wrap .i64 (a0 - 1)) - x275)))] : List Int).length, encs (encI .i64) ([IntKind.wrap .i64 (8 * (IntKind.wrap .i64 ((IntKind.wrap .i64 (a0 - 1)) - x275)))] : List Int)⟩) KR) (fun _ => rfl) KR KR KR (by decide) (by have := hA294; unfold maxLen; omega) (by have := hA294; omega) KR ?_; clear ha HW a; intro A295 c296 a W297 HW ha
          refine stepp ha 5 (.slice A295 (x271 ++ ([IntKind.wrap .i64 (8 * (IntKind.wrap .i64 ((IntKind.wrap .i64 (a0 - 1)) - x275)))] : List Int)).length c296) KR KR ?_; clear ha a; intro a ha
          refine endl ?_
          refine blkN ?_
          refine thenN (hK285 _ _ ?_); clear hK285
          refine wp_region_lit ?_
          refine stepp ha 25 (.int .i64 (IntKind.wrap .i64 (x275 + 1))) KR KR ?_; clear ha a; intro a ha
          refine stepp ha 8 (.int .i64 (IntKind.wrap .i64 (x275 + 1))) KR KR ?_; clear ha a; intro a ha
          refine endl ?_
          exact thenN ⟨k277, Nat.lt_succ_self k277, x271 ++ ([IntKind.wrap .i64 (8 * (IntKind.wrap .i64 ((IntKind.wrap .i64 (a0 - 1)) - x275)))] : List Int), A295, c296, IntKind.wrap .i64 (x275 + 1), (by rw [← hag278]; exact h), ha.sub (subs_cons KR (subs_cons KR (subs_cons KR (subs_cons KR (subs_cons KR (subs_nil _)))))), HW.pick [] [1] (by decide) (by decide) KR KR⟩
        · skip
          replace h := ite_neg' h hp290
          refine condF ha KR KR (t := a1) (bool_f hp290) ?_
          refine wp_region_lit ?_
          refine stepp ha 20 (.slice A272 x271.length c273) KR KR ?_; clear ha a; intro a ha
          refine stepp ha 21 (.int .i64 x275) KR KR ?_; clear ha a; intro a ha
          refine stepp ha 22 (.int .i64 (IntKind.wrap .i64 (8 * x275))) KR KR ?_; clear ha a; intro a ha
          refine stepbs ha HW 23 3 1 1 #[.int .i64 (IntKind.wrap .i64 (8 * x275))] [.int .i64 (IntKind.wrap .i64 (8 * x275))] (by decide) KR KR KR KR ?_; clear ha HW a; intro b300 a W301 HW ha
          replace HW : Wd w W301 [] [⟨3, 1, .slice (some ⟨b300, 0, none⟩) ([IntKind.wrap .i64 (8 * x275)] : List Int).length 1, ([IntKind.wrap .i64 (8 * x275)] : List Int).length, encs (encI .i64) ([IntKind.wrap .i64 (8 * x275)] : List Int)⟩, ⟨3, 1, .slice A272 x271.length c273, x271.length, encs (encI .i64) x271⟩] := HW
          replace ha := ha.turn 23 (v := .slice (some ⟨b300, 0, none⟩) ([IntKind.wrap .i64 (8 * x275)] : List Int).length 1) KR rfl
          obtain ⟨hA303, h_⟩ := asrt_some h; clear h; have h := h_; clear h_
          refine stepape (encI .i64) ha HW 24 1 143 3 (.tmp 20) (.tmp 23) (.int .i64 0) 1 8 (.slice A272 x271.length c273) x271 (.slice (some ⟨b300, 0, none⟩) ([IntKind.wrap .i64 (8 * x275)] : List Int).length 1) ([IntKind.wrap .i64 (8 * x275)] : List Int) KR rfl KR KR (HW.rdo (i := 0) (q := ⟨3, 1, .slice (some ⟨b300, 0, none⟩) ([IntKind.wrap .i64 (8 * x275)] : List Int).length 1, ([IntKind.wrap .i64 (8 * x275)] : List Int).length, encs (encI .i64) ([IntKind.wrap .i64 (8 * x275)] : List Int)⟩) KR) (fun _ => rfl) KR KR KR (by decide) (by have := hA303; unfold maxLen; omega) (by have := hA303; omega) KR ?_; clear ha HW a; intro A304 c305 a W306 HW ha
          refine stepp ha 5 (.slice A304 (x271 ++ ([IntKind.wrap .i64 (8 * x275)] : List Int)).length c305) KR KR ?_; clear ha a; intro a ha
          refine endl ?_
          refine blkN ?_
          refine thenN (hK285 _ _ ?_); clear hK285
          refine wp_region_lit ?_
          refine stepp ha 25 (.int .i64 (IntKind.wrap .i64 (x275 + 1))) KR KR ?_; clear ha a; intro a ha
          refine stepp ha 8 (.int .i64 (IntKind.wrap .i64 (x275 + 1))) KR KR ?_; clear ha a; intro a ha
          refine endl ?_
          exact thenN ⟨k277, Nat.lt_succ_self k277, x271 ++ ([IntKind.wrap .i64 (8 * x275)] : List Int), A304, c305, IntKind.wrap .i64 (x275 + 1), (by rw [← hag278]; exact h), ha.sub (subs_cons KR (subs_cons KR (subs_cons KR (subs_cons KR (subs_cons KR (subs_nil _)))))), HW.pick [] [1] (by decide) (by decide) KR KR⟩
      · skip
        replace h := ite_neg' h hp283
        refine condF ha KR KR (t := decide (x275 < a0)) (decide_eq_false hp283) ?_
        refine wp_exit ?_
        refine thenE ?_
        refine thenE ?_
        refine inBlk ?_
        refine thenN (hK198 _ _ ?_); clear hK198
        refine wp_seq_k (fun K309 hK310 => ?_)
        refine wp_region_lit ?_
        refine stepp ha 26 (.slice A272 x271.length c273) KR KR ?_; clear ha a; intro a ha
        refine stepp ha 4 (.slice A272 x271.length c273) KR KR ?_; clear ha a; intro a ha
        refine endl ?_
        refine thenN (hK310 _ _ ?_); clear hK310
        refine wp_ret ?_
        obtain rfl := Option.some.inj h
        exact finv ha _ _ rfl (.tmp (v := .slice A272 x271.length c273) KR .nil) (.slice A272 x271.length c273) rfl ⟨A272, c273, rfl, HW.pick [] [0] (by decide) (by decide) rfl KR⟩
/-! ### headgate/fields.put[uint64]: function 82 -/
def fields_put_uint64.b0 (K : Nat) (a0 : Int) (t329 : List Int) (again390 : (List Int) → Int → Option ByteArray) (x391 : List Int) (x395 : Int) : Option ByteArray :=
  if x395 < (t329.length : Int) then (asrt (0 ≤ x395) (asrt (0 ≤ (rdL (0 : Int) t329 x395)) (asrt (x391.length + ([IntKind.wrap .u8 (sshr .u64 a0 (rdL (0 : Int) t329 x395))] : List Int).length ≤ 140737488355328) (again390 (x391 ++ ([IntKind.wrap .u8 (sshr .u64 a0 (rdL (0 : Int) t329 x395))] : List Int)) (IntKind.wrap .i64 (x395 + 1)))))) else (some (strOfNums x391))
def fields_put_uint64.l0 (K : Nat) (a0 : Int) (t329 : List Int) : Nat → (List Int) → Int → Option ByteArray
  | 0, _, _ => none
  | k_ + 1, x391, x395 => fields_put_uint64.b0 K a0 t329 (fields_put_uint64.l0 K a0 t329 k_) x391 x395
def fields_put_uint64.f (K : Nat) (a0 : Int) (a1 : Int) (a2 : Bool) : Option ByteArray :=
  if a1 < 1 then (some (⟨#[]⟩ : ByteArray)) else (if a1 > 8 then (some (⟨#[]⟩ : ByteArray)) else ((fields_shifts.f K a1 a2).bind fun t329 => (fields_put_uint64.l0 K a0 t329 K ([] : List Int) 0)))
set_option maxRecDepth 100000 in
set_option maxHeartbeats 4000000 in
theorem fields_put_uint64.calls (K : Nat) (a0 : Int) (a1 : Int) (a2 : Bool)  (r : ByteArray) (w : World)  (h : fields_put_uint64.f K a0 a1 a2 = some r) :
    Calls Tryd.prog 82 #[.int .u64 a0, .int .i64 a1, .bool a2] w (fun e W' => e = .returned (.string r) ∧ Wd w W' [] [] ) := by
  refine sxstart (n := 34) (l := [(0, .int .u64 a0), (1, .int .i64 a1), (2, .bool a2)]) Tryd.func82 rfl rfl (Nat.le_of_ble_eq_true KR) (subsA_cons rfl (subsA_cons rfl (subsA_cons rfl (subsA_nil _)))) ?_
  intro a ha
  have HW := Wd.refl w
  unfold fields_put_uint64.f at h
  refine wp_seq_k (fun K311 hK312 => ?_)
  refine wp_region_lit ?_
  refine stepp ha 6 (.string (⟨#[]⟩ : ByteArray)) KR KR ?_; clear ha a; intro a ha
  refine endl ?_
  refine thenN (hK312 _ _ ?_); clear hK312
  refine wp_seq_k (fun K313 hK314 => ?_)
  refine wp_seq_k (fun K315 hK316 => ?_)
  refine wp_region_lit ?_
  refine stepp ha 10 (.int .i64 a1) KR KR ?_; clear ha a; intro a ha
  refine stepp ha 11 (.bool (decide (a1 < 1))) KR KR ?_; clear ha a; intro a ha
  refine stepp ha 12 (.bool (decide (a1 < 1))) KR KR ?_; clear ha a; intro a ha
  by_cases hp317 : a1 < 1
  · skip
    replace h := ite_pos' h hp317
    replace ha := ha.bool 12 KR (decide_eq_true hp317)
    refine stepo ha 13 KR ?_; clear ha a; intro a ha
    refine stepo ha 14 KR ?_; clear ha a; intro a ha
    refine stepp ha 15 (.bool true) KR KR ?_; clear ha a; intro a ha
    refine endl ?_
    refine thenN (hK316 _ _ ?_); clear hK316
    refine condT ha KR KR (t := true) (rfl) ?_
    refine wp_seq_k (fun K318 hK319 => ?_)
    refine wp_region_lit ?_
    refine stepp ha 6 (.string (⟨#[]⟩ : ByteArray)) KR KR ?_; clear ha a; intro a ha
    refine endl ?_
    refine thenN (hK319 _ _ ?_); clear hK319
    refine wp_ret ?_
    refine thenR ?_
    obtain rfl := Option.some.inj h
    exact finv ha _ _ rfl (.tmp (v := .string (⟨#[]⟩ : ByteArray)) KR .nil) (.string (⟨#[]⟩ : ByteArray)) rfl ⟨rfl, HW.pick [] [] (by decide) (by decide) rfl KR⟩
  · skip
    replace h := ite_neg' h hp317
    replace ha := ha.bool 12 KR (decide_eq_false hp317)
    refine stepp ha 13 (.int .i64 a1) KR KR ?_; clear ha a; intro a ha
    refine stepp ha 14 (.bool (decide (a1 > 8))) KR KR ?_; clear ha a; intro a ha
    refine stepp ha 15 (.bool (decide (a1 > 8))) KR KR ?_; clear ha a; intro a ha
    refine endl ?_
    refine thenN (hK316 _ _ ?_); clear hK316
    by_cases hp320 : a1 > 8
    · skip
      replace h := ite_pos' h hp320
      refine condT ha KR KR (t := decide (a1 > 8)) (decide_eq_true hp320) ?_
      refine wp_seq_k (fun K321 hK322 => ?_)
      refine wp_region_lit ?_
      refine stepp ha 6 (.string (⟨#[]⟩ : ByteArray)) KR KR ?_; clear ha a; intro a ha
      refine endl ?_
      refine thenN (hK322 _ _ ?_); clear hK322
      refine wp_ret ?_
      refine thenR ?_
      obtain rfl := Option.some.inj h
      exact finv ha _ _ rfl (.tmp (v := .string (⟨#[]⟩ : ByteArray)) KR .nil) (.string (⟨#[]⟩ : ByteArray)) rfl ⟨rfl, HW.pick [] [] (by decide) (by decide) rfl KR⟩
    · skip
      replace h := ite_neg' h hp320
      refine condF ha KR KR (t := decide (a1 > 8)) (decide_eq_false hp320) ?_
      refine wp_skip ?_
      refine thenN (hK314 _ _ ?_); clear hK314
      refine wp_seq_k (fun K323 hK324 => ?_)
      refine wp_region_lit ?_
      refine stepp ha 7 (.slice none 0 0) KR KR ?_; clear ha a; intro a ha
      refine endl ?_
      refine thenN (hK324 _ _ ?_); clear hK324
      refine wp_seq_k (fun K325 hK326 => ?_)
      refine wp_seq_k (fun K327 hK328 => ?_)
      refine wp_region_lit ?_
      refine stepp ha 16 (.int .i64 a1) KR KR ?_; clear ha a; intro a ha
      refine stepp ha 17 (.bool a2) KR KR ?_; clear ha a; intro a ha
      obtain ⟨t329, ht330, h_⟩ := bind_some' h; clear h; have h := h_; clear h_
      refine stepc ha 18 KR KR (fields_shifts.calls K a1 a2 t329 _ ht330) ?_; clear ha a; rintro e W334 ⟨A331, c332, rfl, HX335⟩
      refine ⟨_, rfl, ?_⟩; intro a ha; replace HW := HW.callw HX335; clear HX335
      refine stepp ha 19 (.int .i64 (t329.length : Int)) KR KR ?_; clear ha a; intro a ha
      refine stepp ha 20 (.int .i64 0) KR KR ?_; clear ha a; intro a ha
      refine endl ?_
      refine thenN (hK328 _ _ ?_); clear hK328
      refine wp_block ?_
      refine loopk (fun k => fun a W396 => ∃ (x391 : List Int), ∃ A392, ∃ c393, ∃ (x395 : Int), fields_put_uint64.l0 K a0 t329 k x391 x395 = some r ∧ Has 34 [(0, .int .u64 a0), (7, .slice A392 x391.length c393), (18, .slice A331 t329.length c332), (19, .int .i64 (t329.length : Int)), (20, .int .i64 x395)] a ∧ Wd w W396 [] [⟨5, 1, .slice A392 x391.length c393, x391.length, encs (encI .u8) x391⟩, ⟨3, 1, .slice A331 t329.length c332, t329.length, encs (encI .i64) t329⟩]) K ?_ ?_
      · skip
        replace HW := HW.nilo 5 1
        exact ⟨([] : List Int), none, 0, 0, h, ha.sub (subs_cons KR (subs_cons KR (subs_cons KR (subs_cons KR (subs_cons KR (subs_nil _)))))), HW.pick [] [0, 1] (by decide) (by decide) KR KR⟩
      · skip
        intro k a W396 hI
        obtain ⟨x391, A392, c393, x395, h, ha, HW⟩ := hI
        cases k with
        | zero => exact (none_some (show none = some r from h)).elim
        | succ k397 =>
          replace h : fields_put_uint64.b0 K a0 t329 (fields_put_uint64.l0 K a0 t329 k397) x391 x395 = some r := h
          obtain ⟨again390, hag398⟩ : ∃ g_, g_ = fields_put_uint64.l0 K a0 t329 k397 := ⟨_, rfl⟩
          rw [← hag398] at h
          unfold fields_put_uint64.b0 at h
          refine wp_seq_k (fun K399 hK400 => ?_)
          refine wp_region_lit ?_
          refine stepp ha 21 (.bool (decide (x395 < (t329.length : Int)))) KR KR ?_; clear ha a; intro a ha
          refine endl ?_
          refine thenN (hK400 _ _ ?_); clear hK400
          refine wp_seq_k (fun K401 hK402 => ?_)
          by_cases hp403 : x395 < (t329.length : Int)
          · skip
            replace h := ite_pos' h hp403
            refine condT ha KR KR (t := decide (x395 < (t329.length : Int))) (decide_eq_true hp403) ?_
            refine wp_skip ?_
            refine thenN (hK402 _ _ ?_); clear hK402
            refine wp_seq_k (fun K404 hK405 => ?_)
            refine wp_block ?_
            refine wp_seq_k (fun K406 hK407 => ?_)
            refine wp_region_lit ?_
            obtain ⟨hA408, h_⟩ := asrt_some h; clear h; have h := h_; clear h_
            refine stepie (encI .i64) (0 : Int) ha 22 (fun _ => rfl) (v := .slice A331 t329.length c332) (xs := t329) (HW.rdo (i := 1) (q := ⟨3, 1, .slice A331 t329.length c332, t329.length, encs (encI .i64) t329⟩) KR) 143 3 (.tmp 18) (.tmp 20) .i64 x395 rfl KR KR KR KR hA408 (show (x395 : Int) < ((t329).length : Int) from hp403) KR ?_; clear ha a; intro b409 off410 a hC411 ha
            refine stepl ha 23 hC411 3 0 (.tmp 22) (.int .i64 (rdL (0 : Int) t329 x395)) rfl KR KR KR ?_; clear ha a; intro a ha
            refine stepp ha 9 (.int .i64 (rdL (0 : Int) t329 x395)) KR KR ?_; clear ha a; intro a ha
            refine endl ?_
            refine thenN (hK407 _ _ ?_); clear hK407
            refine wp_region_lit ?_
            refine stepp ha 24 (.slice A392 x391.length c393) KR KR ?_; clear ha a; intro a ha
            refine stepp ha 25 (.int .u64 a0) KR KR ?_; clear ha a; intro a ha
            refine stepp ha 26 (.int .i64 (rdL (0 : Int) t329 x395)) KR KR ?_; clear ha a; intro a ha
            obtain ⟨hA412, h_⟩ := asrt_some h; clear h; have h := h_; clear h_
            refine stepshr ha 27 42 3 (.tmp 25) (.tmp 26) .u64 .i64 a0 (rdL (0 : Int) t329 x395) rfl KR KR hA412 KR ?_; clear ha a; intro a ha
            refine stepp ha 28 (.int .u8 (IntKind.wrap .u8 (sshr .u64 a0 (rdL (0 : Int) t329 x395)))) KR KR ?_; clear ha a; intro a ha
            refine stepbs ha HW 29 5 1 1 #[.int .u8 (IntKind.wrap .u8 (sshr .u64 a0 (rdL (0 : Int) t329 x395)))] [.int .u8 (IntKind.wrap .u8 (sshr .u64 a0 (rdL (0 : Int) t329 x395)))] (by decide) KR KR KR KR ?_; clear ha HW a; intro b413 a W414 HW ha
            replace HW : Wd w W414 [] [⟨5, 1, .slice (some ⟨b413, 0, none⟩) ([IntKind.wrap .u8 (sshr .u64 a0 (rdL (0 : Int) t329 x395))] : List Int).length 1, ([IntKind.wrap .u8 (sshr .u64 a0 (rdL (0 : Int) t329 x395))] : List Int).length, encs (encI .u8) ([IntKind.wrap .u8 (sshr .u64 a0 (rdL (0 : Int) t329 x395))] : List Int)⟩, ⟨5, 1, .slice A392 x391.length c393, x391.length, encs (encI .u8) x391⟩, ⟨3, 1, .slice A331 t329.length c332, t329.length, encs (encI .i64) t329⟩] := HW
            replace ha := ha.turn 29 (v := .slice (some ⟨b413, 0, none⟩) ([IntKind.wrap .u8 (sshr .u64 a0 (rdL (0 : Int) t329 x395))] : List Int).length 1) KR rfl
            obtain ⟨hA416, h_⟩ := asrt_some h; clear h; have h := h_; clear h_
            refine stepape (encI .u8) ha HW 30 1 97 5 (.tmp 24) (.tmp 29) (.int .u8 0) 1 1 (.slice A392 x391.length c393) x391 (.slice (some ⟨b413, 0, none⟩) ([IntKind.wrap .u8 (sshr .u64 a0 (rdL (0 : Int) t329 x395))] : List Int).length 1) ([IntKind.wrap .u8 (sshr .u64 a0 (rdL (0 : Int) t329 x395))] : List Int) KR rfl KR KR (HW.rdo (i := 0) (q := ⟨5, 1, .slice (some ⟨b413, 0, none⟩) ([IntKind.wrap .u8 (sshr .u64 a0 (rdL (0 : Int) t329 x395))] : List Int).length 1, ([IntKind.wrap .u8 (sshr .u64 a0 (rdL (0 : Int) t329 x395))] : List Int).length, encs (encI .u8) ([IntKind.wrap .u8 (sshr .u64 a0 (rdL (0 : Int) t329 x395))] : List Int)⟩) KR) (fun _ => rfl) KR KR KR (by decide) (by have := hA416; unfold maxLen; omega) (by have := hA416; omega) KR ?_; clear ha HW a; intro A417 c418 a W419 HW ha
            refine stepp ha 7 (.slice A417 (x391 ++ ([IntKind.wrap .u8 (sshr .u64 a0 (rdL (0 : Int) t329 x395))] : List Int)).length c418) KR KR ?_; clear ha a; intro a ha
            refine endl ?_
            refine blkN ?_
            refine thenN (hK405 _ _ ?_); clear hK405
            refine wp_region_lit ?_
            refine stepp ha 31 (.int .i64 (IntKind.wrap .i64 (x395 + 1))) KR KR ?_; clear ha a; intro a ha
            refine stepp ha 20 (.int .i64 (IntKind.wrap .i64 (x395 + 1))) KR KR ?_; clear ha a; intro a ha
            refine endl ?_
            exact thenN ⟨k397, Nat.lt_succ_self k397, x391 ++ ([IntKind.wrap .u8 (sshr .u64 a0 (rdL (0 : Int) t329 x395))] : List Int), A417, c418, IntKind.wrap .i64 (x395 + 1), (by rw [← hag398]; exact h), ha.sub (subs_cons KR (subs_cons KR (subs_cons KR (subs_cons KR (subs_cons KR (subs_nil _)))))), HW.pick [] [1, 2] (by decide) (by decide) KR KR⟩
          · skip
            replace h := ite_neg' h hp403
            refine condF ha KR KR (t := decide (x395 < (t329.length : Int))) (decide_eq_false hp403) ?_
            refine wp_exit ?_
            refine thenE ?_
            refine thenE ?_
            refine inBlk ?_
            refine thenN (hK326 _ _ ?_); clear hK326
            refine wp_seq_k (fun K422 hK423 => ?_)
            refine wp_region_lit ?_
            refine stepp ha 32 (.slice A392 x391.length c393) KR KR ?_; clear ha a; intro a ha
            refine stepbt ha 33 97 9 5 (.tmp 32) (v := .slice A392 x391.length c393) (xs := x391) (HW.rdo (i := 0) (q := ⟨5, 1, .slice A392 x391.length c393, x391.length, encs (encI .u8) x391⟩) KR) rfl KR KR KR KR KR ?_; clear ha a; intro a ha
            refine stepp ha 6 (.string (strOfNums x391)) KR KR ?_; clear ha a; intro a ha
            refine endl ?_
            refine thenN (hK423 _ _ ?_); clear hK423
            refine wp_ret ?_
            obtain rfl := Option.some.inj h
            exact finv ha _ _ rfl (.tmp (v := .string (strOfNums x391)) KR .nil) (.string (strOfNums x391)) rfl ⟨rfl, HW.pick [] [] (by decide) (by decide) rfl KR⟩
/-! ### headgate/fields.PutLittle: function 61 -/
def fields_PutLittle.f (K : Nat) (a0 : Int) (a1 : Int) : Option ByteArray :=
  (fields_put_uint64.f K a0 a1 false).bind fun t428 => (some t428)
set_option maxRecDepth 100000 in
set_option maxHeartbeats 4000000 in
theorem fields_PutLittle.calls (K : Nat) (a0 : Int) (a1 : Int)  (r : ByteArray) (w : World)  (h : fields_PutLittle.f K a0 a1 = some r) :
    Calls Tryd.prog 61 #[.int .u64 a0, .int .i64 a1] w (fun e W' => e = .returned (.string r) ∧ Wd w W' [] [] ) := by
  refine sxstart (n := 8) (l := [(0, .int .u64 a0), (1, .int .i64 a1)]) Tryd.func61 rfl rfl (Nat.le_of_ble_eq_true KR) (subsA_cons rfl (subsA_cons rfl (subsA_nil _))) ?_
  intro a ha
  have HW := Wd.refl w
  unfold fields_PutLittle.f at h
  refine wp_seq_k (fun K424 hK425 => ?_)
  refine wp_region_lit ?_
  refine stepp ha 4 (.string (⟨#[]⟩ : ByteArray)) KR KR ?_; clear ha a; intro a ha
  refine endl ?_
  refine thenN (hK425 _ _ ?_); clear hK425
  refine wp_seq_k (fun K426 hK427 => ?_)
  refine wp_region_lit ?_
  refine stepp ha 5 (.int .u64 a0) KR KR ?_; clear ha a; intro a ha
  refine stepp ha 6 (.int .i64 a1) KR KR ?_; clear ha a; intro a ha
  obtain ⟨t428, ht429, h_⟩ := bind_some' h; clear h; have h := h_; clear h_
  refine stepc ha 7 KR KR (fields_put_uint64.calls K a0 a1 false t428 _ ht429) ?_; clear ha a; rintro e W430 ⟨rfl, HX431⟩
  refine ⟨_, rfl, ?_⟩; intro a ha; replace HW := HW.callw HX431; clear HX431
  refine stepp ha 4 (.string t428) KR KR ?_; clear ha a; intro a ha
  refine endl ?_
  refine thenN (hK427 _ _ ?_); clear hK427
  refine wp_ret ?_
  obtain rfl := Option.some.inj h
  exact finv ha _ _ rfl (.tmp (v := .string t428) KR .nil) (.string t428) rfl ⟨rfl, HW.pick [] [] (by decide) (by decide) rfl KR⟩
/-! ### headgate/nresv.header: function 45 -/
def nresv_header.f (K : Nat) (a0 : Int) (a1 : Int) (a2 : Int) (a3 : Int) : Option ByteArray :=
  (fields_PutLittle.f K (IntKind.wrap .u64 a0) 4).bind fun t436 => (asrt (t436.size + (strOfNums ([IntKind.wrap .u8 a1] : List Int)).size ≤ 9223372036854775807) ((fields_PutLittle.f K (IntKind.wrap .u64 a2) 2).bind fun t447 => (asrt ((t436 ++ (strOfNums ([IntKind.wrap .u8 a1] : List Int))).size + t447.size ≤ 9223372036854775807) (asrt (((t436 ++ (strOfNums ([IntKind.wrap .u8 a1] : List Int))) ++ t447).size + (strOfNums ([0, 0, IntKind.wrap .u8 a3] : List Int)).size ≤ 9223372036854775807) (asrt ((((t436 ++ (strOfNums ([IntKind.wrap .u8 a1] : List Int))) ++ t447) ++ (strOfNums ([0, 0, IntKind.wrap .u8 a3] : List Int))).size + (strOfNums (List.replicate (14 : Int).toNat (0 : Int))).size ≤ 9223372036854775807) (some ((((t436 ++ (strOfNums ([IntKind.wrap .u8 a1] : List Int))) ++ t447) ++ (strOfNums ([0, 0, IntKind.wrap .u8 a3] : List Int))) ++ (strOfNums (List.replicate (14 : Int).toNat (0 : Int))))))))))
set_option maxRecDepth 100000 in
set_option maxHeartbeats 4000000 in
theorem nresv_header.calls (K : Nat) (a0 : Int) (a1 : Int) (a2 : Int) (a3 : Int)  (r : ByteArray) (w : World)  (h : nresv_header.f K a0 a1 a2 a3 = some r) :
    Calls Tryd.prog 45 #[.int .u32 a0, .int .i64 a1, .int .i64 a2, .int .i64 a3] w (fun e W' => e = .returned (.string r) ∧ Wd w W' [] [] ) := by
  refine sxstart (n := 29) (l := [(0, .int .u32 a0), (1, .int .i64 a1), (2, .int .i64 a2), (3, .int .i64 a3)]) Tryd.func45 rfl rfl (Nat.le_of_ble_eq_true KR) (subsA_cons rfl (subsA_cons rfl (subsA_cons rfl (subsA_cons rfl (subsA_nil _))))) ?_
  intro a ha
  have HW := Wd.refl w
  unfold nresv_header.f at h
  refine wp_seq_k (fun K432 hK433 => ?_)
  refine wp_region_lit ?_
  refine stepp ha 8 (.string (⟨#[]⟩ : ByteArray)) KR KR ?_; clear ha a; intro a ha
  refine endl ?_
  refine thenN (hK433 _ _ ?_); clear hK433
  refine wp_seq_k (fun K434 hK435 => ?_)
  obtain ⟨t436, ht437, h_⟩ := bind_some' h; clear h; have h := h_; clear h_
  obtain ⟨hA446, h_⟩ := asrt_some h; clear h; have h := h_; clear h_
  obtain ⟨t447, ht448, h_⟩ := bind_some' h; clear h; have h := h_; clear h_
  obtain ⟨hA451, h_⟩ := asrt_some h; clear h; have h := h_; clear h_
  obtain ⟨hA458, h_⟩ := asrt_some h; clear h; have h := h_; clear h_
  obtain ⟨hA465, h_⟩ := asrt_some h; clear h; have h := h_; clear h_
  refine regionG 20 KR KR ha HW [.fix (.int .u32 a0), .fix (.int .u64 (IntKind.wrap .u64 a0)), .fix (.string t436), .fix (.int .i64 a1), .fix (.int .u8 (IntKind.wrap .u8 a1)), .rd 1 ([IntKind.wrap .u8 a1] : List Int).length (encs (encI .u8) ([IntKind.wrap .u8 a1] : List Int)), .fix (.string (strOfNums ([IntKind.wrap .u8 a1] : List Int))), .fix (.string (t436 ++ (strOfNums ([IntKind.wrap .u8 a1] : List Int)))), .fix (.int .i64 a2), .fix (.int .u64 (IntKind.wrap .u64 a2)), .fix (.string t447), .fix (.string ((t436 ++ (strOfNums ([IntKind.wrap .u8 a1] : List Int))) ++ t447)), .fix (.int .i64 a3), .fix (.int .u8 (IntKind.wrap .u8 a3)), .rd 1 ([0, 0, IntKind.wrap .u8 a3] : List Int).length (encs (encI .u8) ([0, 0, IntKind.wrap .u8 a3] : List Int)), .fix (.string (strOfNums ([0, 0, IntKind.wrap .u8 a3] : List Int))), .fix (.string (((t436 ++ (strOfNums ([IntKind.wrap .u8 a1] : List Int))) ++ t447) ++ (strOfNums ([0, 0, IntKind.wrap .u8 a3] : List Int)))), .rd 1 (List.replicate (14 : Int).toNat (0 : Int)).length (encs (encI .u8) (List.replicate (14 : Int).toNat (0 : Int))), .fix (.string (strOfNums (List.replicate (14 : Int).toNat (0 : Int)))), .fix (.string ((((t436 ++ (strOfNums ([IntKind.wrap .u8 a1] : List Int))) ++ t447) ++ (strOfNums ([0, 0, IntKind.wrap .u8 a3] : List Int))) ++ (strOfNums (List.replicate (14 : Int).toNat (0 : Int)))))] ?_ ?_
  · skip
    refine ⟨?_, ?_, ?_, ?_, ?_, ?_, ?_, ?_, ?_, ?_, ?_, ?_, ?_, ?_, ?_, ?_, ?_, ?_, ?_, ?_, trivial⟩
    · skip
      intro a wr hn hd HW hs; have ha := hasNil hn hd
      have ha := ha.add (seeE hs 0 (.int .u32 a0) KR KR)
      refine yStep ha 9 KR ?_; intro l_ ha HK
      refine stepp ha 9 (.int .u32 a0) KR KR ?_; intro ax hax; exact HK _ _ _ hax rfl (Below.refl _ _)
    · skip
      intro a wr hn hd HW hs; have ha := hasNil hn hd
      have ha := ha.add (seeF hs 9 0 (.int .u32 a0) KR KR)
      refine yStep ha 10 KR ?_; intro l_ ha HK
      refine stepp ha 10 (.int .u64 (IntKind.wrap .u64 a0)) KR KR ?_; intro ax hax; exact HK _ _ _ hax rfl (Below.refl _ _)
    · skip
      intro a wr hn hd HW hs; have ha := hasNil hn hd
      have ha := ha.add (seeF hs 10 1 (.int .u64 (IntKind.wrap .u64 a0)) KR KR)
      refine yStep ha 11 KR ?_; intro l_ ha HK
      refine stepc ha 11 KR KR (fields_PutLittle.calls K (IntKind.wrap .u64 a0) 4 t436 _ ht437) ?_; rintro e W438 ⟨rfl, HX439⟩
      refine ⟨_, rfl, ?_⟩; intro ax hax; exact HK _ _ _ hax rfl HX439.below
    · skip
      intro a wr hn hd HW hs; have ha := hasNil hn hd
      have ha := ha.add (seeE hs 1 (.int .i64 a1) KR KR)
      refine yStep ha 12 KR ?_; intro l_ ha HK
      refine stepp ha 12 (.int .i64 a1) KR KR ?_; intro ax hax; exact HK _ _ _ hax rfl (Below.refl _ _)
    · skip
      intro a wr hn hd HW hs; have ha := hasNil hn hd
      have ha := ha.add (seeF hs 12 3 (.int .i64 a1) KR KR)
      refine yStep ha 13 KR ?_; intro l_ ha HK
      refine stepp ha 13 (.int .u8 (IntKind.wrap .u8 a1)) KR KR ?_; intro ax hax; exact HK _ _ _ hax rfl (Below.refl _ _)
    · skip
      intro a wr hn hd HW hs; have ha := hasNil hn hd
      have ha := ha.add (seeF hs 13 4 (.int .u8 (IntKind.wrap .u8 a1)) KR KR)
      refine yStep ha 14 KR ?_; intro l_ ha HK
      refine stepbs ha (Wd.refl wr) 14 5 1 1 #[.int .u8 (IntKind.wrap .u8 a1)] [.int .u8 (IntKind.wrap .u8 a1)] (by decide) KR KR KR KR ?_; intro b440 ax W441 HV hax
      exact HK _ _ _ hax (show Rd 1 _ _ ([IntKind.wrap .u8 a1] : List Int).length (encs (encI .u8) ([IntKind.wrap .u8 a1] : List Int)) from HV.rdo (i := 0) (q := ⟨5, 1, .slice (some ⟨b440, 0, none⟩) 1 1, 1, [.int .u8 (IntKind.wrap .u8 a1)]⟩) KR) HV.below
    · skip
      intro a wr hn hd HW hs; have ha := hasNil hn hd
      obtain ⟨A443, c444, he_, hR445⟩ := seeR hs 14 5 1 ([IntKind.wrap .u8 a1] : List Int).length (encs (encI .u8) ([IntKind.wrap .u8 a1] : List Int)) KR KR; have ha := ha.add he_
      refine yStep ha 15 KR ?_; intro l_ ha HK
      refine stepbt ha 15 97 9 5 (.tmp 14) (v := .slice A443 ([IntKind.wrap .u8 a1] : List Int).length c444) (xs := ([IntKind.wrap .u8 a1] : List Int)) hR445 rfl KR KR KR KR KR ?_; intro ax hax; exact HK _ _ _ hax rfl (Below.refl _ _)
    · skip
      intro a wr hn hd HW hs; have ha := hasNil hn hd
      have ha := ha.add (seeF hs 11 2 (.string t436) KR KR)
      have ha := ha.add (seeF hs 15 6 (.string (strOfNums ([IntKind.wrap .u8 a1] : List Int))) KR KR)
      refine yStep ha 16 KR ?_; intro l_ ha HK
      refine stepsa ha 16 9 9 (.tmp 11) (.tmp 15) t436 (strOfNums ([IntKind.wrap .u8 a1] : List Int)) rfl KR KR (show (t436).size + (strOfNums ([IntKind.wrap .u8 a1] : List Int)).size ≤ 9223372036854775807 from hA446) KR ?_; intro ax hax; exact HK _ _ _ hax rfl (Below.refl _ _)
    · skip
      intro a wr hn hd HW hs; have ha := hasNil hn hd
      have ha := ha.add (seeE hs 2 (.int .i64 a2) KR KR)
      refine yStep ha 17 KR ?_; intro l_ ha HK
      refine stepp ha 17 (.int .i64 a2) KR KR ?_; intro ax hax; exact HK _ _ _ hax rfl (Below.refl _ _)
    · skip
      intro a wr hn hd HW hs; have ha := hasNil hn hd
      have ha := ha.add (seeF hs 17 8 (.int .i64 a2) KR KR)
      refine yStep ha 18 KR ?_; intro l_ ha HK
      refine stepp ha 18 (.int .u64 (IntKind.wrap .u64 a2)) KR KR ?_; intro ax hax; exact HK _ _ _ hax rfl (Below.refl _ _)
    · skip
      intro a wr hn hd HW hs; have ha := hasNil hn hd
      have ha := ha.add (seeF hs 18 9 (.int .u64 (IntKind.wrap .u64 a2)) KR KR)
      refine yStep ha 19 KR ?_; intro l_ ha HK
      refine stepc ha 19 KR KR (fields_PutLittle.calls K (IntKind.wrap .u64 a2) 2 t447 _ ht448) ?_; rintro e W449 ⟨rfl, HX450⟩
      refine ⟨_, rfl, ?_⟩; intro ax hax; exact HK _ _ _ hax rfl HX450.below
    · skip
      intro a wr hn hd HW hs; have ha := hasNil hn hd
      have ha := ha.add (seeF hs 16 7 (.string (t436 ++ (strOfNums ([IntKind.wrap .u8 a1] : List Int)))) KR KR)
      have ha := ha.add (seeF hs 19 10 (.string t447) KR KR)
      refine yStep ha 20 KR ?_; intro l_ ha HK
      refine stepsa ha 20 9 9 (.tmp 16) (.tmp 19) (t436 ++ (strOfNums ([IntKind.wrap .u8 a1] : List Int))) t447 rfl KR KR (show (t436 ++ (strOfNums ([IntKind.wrap .u8 a1] : List Int))).size + (t447).size ≤ 9223372036854775807 from hA451) KR ?_; intro ax hax; exact HK _ _ _ hax rfl (Below.refl _ _)
    · skip
      intro a wr hn hd HW hs; have ha := hasNil hn hd
      have ha := ha.add (seeE hs 3 (.int .i64 a3) KR KR)
      refine yStep ha 21 KR ?_; intro l_ ha HK
      refine stepp ha 21 (.int .i64 a3) KR KR ?_; intro ax hax; exact HK _ _ _ hax rfl (Below.refl _ _)
    · skip
      intro a wr hn hd HW hs; have ha := hasNil hn hd
      have ha := ha.add (seeF hs 21 12 (.int .i64 a3) KR KR)
      refine yStep ha 22 KR ?_; intro l_ ha HK
      refine stepp ha 22 (.int .u8 (IntKind.wrap .u8 a3)) KR KR ?_; intro ax hax; exact HK _ _ _ hax rfl (Below.refl _ _)
    · skip
      intro a wr hn hd HW hs; have ha := hasNil hn hd
      have ha := ha.add (seeF hs 22 13 (.int .u8 (IntKind.wrap .u8 a3)) KR KR)
      refine yStep ha 23 KR ?_; intro l_ ha HK
      refine stepbs ha (Wd.refl wr) 23 5 1 3 #[.int .u8 0, .int .u8 0, .int .u8 (IntKind.wrap .u8 a3)] [.int .u8 0, .int .u8 0, .int .u8 (IntKind.wrap .u8 a3)] (by decide) KR KR KR KR ?_; intro b452 ax W453 HV hax
      exact HK _ _ _ hax (show Rd 1 _ _ ([0, 0, IntKind.wrap .u8 a3] : List Int).length (encs (encI .u8) ([0, 0, IntKind.wrap .u8 a3] : List Int)) from HV.rdo (i := 0) (q := ⟨5, 1, .slice (some ⟨b452, 0, none⟩) 3 3, 3, [.int .u8 0, .int .u8 0, .int .u8 (IntKind.wrap .u8 a3)]⟩) KR) HV.below
    · skip
      intro a wr hn hd HW hs; have ha := hasNil hn hd
      obtain ⟨A455, c456, he_, hR457⟩ := seeR hs 23 14 1 ([0, 0, IntKind.wrap .u8 a3] : List Int).length (encs (encI .u8) ([0, 0, IntKind.wrap .u8 a3] : List Int)) KR KR; have ha := ha.add he_
      refine yStep ha 24 KR ?_; intro l_ ha HK
      refine stepbt ha 24 97 9 5 (.tmp 23) (v := .slice A455 ([0, 0, IntKind.wrap .u8 a3] : List Int).length c456) (xs := ([0, 0, IntKind.wrap .u8 a3] : List Int)) hR457 rfl KR KR KR KR KR ?_; intro ax hax; exact HK _ _ _ hax rfl (Below.refl _ _)
    · skip
      intro a wr hn hd HW hs; have ha := hasNil hn hd
      have ha := ha.add (seeF hs 20 11 (.string ((t436 ++ (strOfNums ([IntKind.wrap .u8 a1] : List Int))) ++ t447)) KR KR)
      have ha := ha.add (seeF hs 24 15 (.string (strOfNums ([0, 0, IntKind.wrap .u8 a3] : List Int))) KR KR)
      refine yStep ha 25 KR ?_; intro l_ ha HK
      refine stepsa ha 25 9 9 (.tmp 20) (.tmp 24) ((t436 ++ (strOfNums ([IntKind.wrap .u8 a1] : List Int))) ++ t447) (strOfNums ([0, 0, IntKind.wrap .u8 a3] : List Int)) rfl KR KR (show ((t436 ++ (strOfNums ([IntKind.wrap .u8 a1] : List Int))) ++ t447).size + (strOfNums ([0, 0, IntKind.wrap .u8 a3] : List Int)).size ≤ 9223372036854775807 from hA458) KR ?_; intro ax hax; exact HK _ _ _ hax rfl (Below.refl _ _)
    · skip
      intro a wr hn hd HW hs; have ha := hasNil hn hd
      refine yStep ha 26 KR ?_; intro l_ ha HK
      refine stepmk (encI .u8) (0 : Int) ha (Wd.refl wr) 26 97 5 (.const (.int .i64 14)) (.const (.int .i64 14)) .i64 .i64 14 (.int .u8 0) 1 rfl KR KR KR KR rfl rfl (by decide) (by have := (show (14 : Int) ≤ 281474976710656 by decide); omega) (by have := (show (14 : Int) ≤ 281474976710656 by decide); omega) KR ?_; intro b459 ax W460 HV hax
      exact HK _ _ _ hax (show Rd 1 _ _ (List.replicate (14 : Int).toNat (0 : Int)).length (encs (encI .u8) (List.replicate (14 : Int).toNat (0 : Int))) from HV.rdo (i := 0) (q := ⟨5, 1, .slice (some ⟨b459, 0, none⟩) (List.replicate (14 : Int).toNat (0 : Int)).length ((14 : Int).toNat), (List.replicate (14 : Int).toNat (0 : Int)).length, encs (encI .u8) (List.replicate (14 : Int).toNat (0 : Int))⟩) KR) HV.below
    · skip
      intro a wr hn hd HW hs; have ha := hasNil hn hd
      obtain ⟨A462, c463, he_, hR464⟩ := seeR hs 26 17 1 (List.replicate (14 : Int).toNat (0 : Int)).length (encs (encI .u8) (List.replicate (14 : Int).toNat (0 : Int))) KR KR; have ha := ha.add he_
      refine yStep ha 27 KR ?_; intro l_ ha HK
      refine stepbt ha 27 97 9 5 (.tmp 26) (v := .slice A462 (List.replicate (14 : Int).toNat (0 : Int)).length c463) (xs := List.replicate (14 : Int).toNat (0 : Int)) hR464 rfl KR KR KR KR KR ?_; intro ax hax; exact HK _ _ _ hax rfl (Below.refl _ _)
    · skip
      intro a wr hn hd HW hs; have ha := hasNil hn hd
      have ha := ha.add (seeF hs 25 16 (.string (((t436 ++ (strOfNums ([IntKind.wrap .u8 a1] : List Int))) ++ t447) ++ (strOfNums ([0, 0, IntKind.wrap .u8 a3] : List Int)))) KR KR)
      have ha := ha.add (seeF hs 27 18 (.string (strOfNums (List.replicate (14 : Int).toNat (0 : Int)))) KR KR)
      refine yStep ha 28 KR ?_; intro l_ ha HK
      refine stepsa ha 28 9 9 (.tmp 25) (.tmp 27) (((t436 ++ (strOfNums ([IntKind.wrap .u8 a1] : List Int))) ++ t447) ++ (strOfNums ([0, 0, IntKind.wrap .u8 a3] : List Int))) (strOfNums (List.replicate (14 : Int).toNat (0 : Int))) rfl KR KR (show (((t436 ++ (strOfNums ([IntKind.wrap .u8 a1] : List Int))) ++ t447) ++ (strOfNums ([0, 0, IntKind.wrap .u8 a3] : List Int))).size + (strOfNums (List.replicate (14 : Int).toNat (0 : Int))).size ≤ 9223372036854775807 from hA465) KR ?_; intro ax hax; exact HK _ _ _ hax rfl (Below.refl _ _)
  · skip
    intro a W466 ha HW he hf
    replace ha := ha.add (gotF (m := 20) (j := 19) (d := 28) (v := .string ((((t436 ++ (strOfNums ([IntKind.wrap .u8 a1] : List Int))) ++ t447) ++ (strOfNums ([0, 0, IntKind.wrap .u8 a3] : List Int))) ++ (strOfNums (List.replicate (14 : Int).toNat (0 : Int))))) hf KR KR KR)
    clear he hf
    refine stepp ha 8 (.string ((((t436 ++ (strOfNums ([IntKind.wrap .u8 a1] : List Int))) ++ t447) ++ (strOfNums ([0, 0, IntKind.wrap .u8 a3] : List Int))) ++ (strOfNums (List.replicate (14 : Int).toNat (0 : Int))))) KR KR ?_; clear ha a; intro a ha
    refine endl ?_
    refine thenN (hK435 _ _ ?_); clear hK435
    refine wp_ret ?_
    obtain rfl := Option.some.inj h
    exact finv ha _ _ rfl (.tmp (v := .string ((((t436 ++ (strOfNums ([IntKind.wrap .u8 a1] : List Int))) ++ t447) ++ (strOfNums ([0, 0, IntKind.wrap .u8 a3] : List Int))) ++ (strOfNums (List.replicate (14 : Int).toNat (0 : Int))))) KR .nil) (.string ((((t436 ++ (strOfNums ([IntKind.wrap .u8 a1] : List Int))) ++ t447) ++ (strOfNums ([0, 0, IntKind.wrap .u8 a3] : List Int))) ++ (strOfNums (List.replicate (14 : Int).toNat (0 : Int))))) rfl ⟨rfl, HW.pick [] [] (by decide) (by decide) rfl KR⟩
/-! ### headgate/nresv.entry: function 46 -/
def nresv_entry.f (K : Nat) (a0 : Int) (a1 : Int) (a2 : Int) : Option ByteArray :=
  (fields_PutLittle.f K (IntKind.wrap .u64 a0) 2).bind fun t471 => (asrt (t471.size + (strOfNums ([IntKind.wrap .u8 a1] : List Int)).size ≤ 9223372036854775807) (asrt ((t471 ++ (strOfNums ([IntKind.wrap .u8 a1] : List Int))).size + (strOfNums (List.replicate (13 : Int).toNat (0 : Int))).size ≤ 9223372036854775807) ((fields_PutLittle.f K a2 8).bind fun t489 => (asrt (((t471 ++ (strOfNums ([IntKind.wrap .u8 a1] : List Int))) ++ (strOfNums (List.replicate (13 : Int).toNat (0 : Int)))).size + t489.size ≤ 9223372036854775807) (some (((t471 ++ (strOfNums ([IntKind.wrap .u8 a1] : List Int))) ++ (strOfNums (List.replicate (13 : Int).toNat (0 : Int)))) ++ t489))))))
set_option maxRecDepth 100000 in
set_option maxHeartbeats 4000000 in
theorem nresv_entry.calls (K : Nat) (a0 : Int) (a1 : Int) (a2 : Int)  (r : ByteArray) (w : World)  (h : nresv_entry.f K a0 a1 a2 = some r) :
    Calls Tryd.prog 46 #[.int .i64 a0, .int .i64 a1, .int .u64 a2] w (fun e W' => e = .returned (.string r) ∧ Wd w W' [] [] ) := by
  refine sxstart (n := 21) (l := [(0, .int .i64 a0), (1, .int .i64 a1), (2, .int .u64 a2)]) Tryd.func46 rfl rfl (Nat.le_of_ble_eq_true KR) (subsA_cons rfl (subsA_cons rfl (subsA_cons rfl (subsA_nil _)))) ?_
  intro a ha
  have HW := Wd.refl w
  unfold nresv_entry.f at h
  refine wp_seq_k (fun K467 hK468 => ?_)
  refine wp_region_lit ?_
  refine stepp ha 6 (.string (⟨#[]⟩ : ByteArray)) KR KR ?_; clear ha a; intro a ha
  refine endl ?_
  refine thenN (hK468 _ _ ?_); clear hK468
  refine wp_seq_k (fun K469 hK470 => ?_)
  obtain ⟨t471, ht472, h_⟩ := bind_some' h; clear h; have h := h_; clear h_
  obtain ⟨hA481, h_⟩ := asrt_some h; clear h; have h := h_; clear h_
  obtain ⟨hA488, h_⟩ := asrt_some h; clear h; have h := h_; clear h_
  obtain ⟨t489, ht490, h_⟩ := bind_some' h; clear h; have h := h_; clear h_
  obtain ⟨hA493, h_⟩ := asrt_some h; clear h; have h := h_; clear h_
  refine regionG 14 KR KR ha HW [.fix (.int .i64 a0), .fix (.int .u64 (IntKind.wrap .u64 a0)), .fix (.string t471), .fix (.int .i64 a1), .fix (.int .u8 (IntKind.wrap .u8 a1)), .rd 1 ([IntKind.wrap .u8 a1] : List Int).length (encs (encI .u8) ([IntKind.wrap .u8 a1] : List Int)), .fix (.string (strOfNums ([IntKind.wrap .u8 a1] : List Int))), .fix (.string (t471 ++ (strOfNums ([IntKind.wrap .u8 a1] : List Int)))), .rd 1 (List.replicate (13 : Int).toNat (0 : Int)).length (encs (encI .u8) (List.replicate (13 : Int).toNat (0 : Int))), .fix (.string (strOfNums (List.replicate (13 : Int).toNat (0 : Int)))), .fix (.string ((t471 ++ (strOfNums ([IntKind.wrap .u8 a1] : List Int))) ++ (strOfNums (List.replicate (13 : Int).toNat (0 : Int))))), .fix (.int .u64 a2), .fix (.string t489), .fix (.string (((t471 ++ (strOfNums ([IntKind.wrap .u8 a1] : List Int))) ++ (strOfNums (List.replicate (13 : Int).toNat (0 : Int)))) ++ t489))] ?_ ?_
  · skip
    refine ⟨?_, ?_, ?_, ?_, ?_, ?_, ?_, ?_, ?_, ?_, ?_, ?_, ?_, ?_, trivial⟩
    · skip
      intro a wr hn hd HW hs; have ha := hasNil hn hd
      have ha := ha.add (seeE hs 0 (.int .i64 a0) KR KR)
      refine yStep ha 7 KR ?_; intro l_ ha HK
      refine stepp ha 7 (.int .i64 a0) KR KR ?_; intro ax hax; exact HK _ _ _ hax rfl (Below.refl _ _)
    · skip
      intro a wr hn hd HW hs; have ha := hasNil hn hd
      have ha := ha.add (seeF hs 7 0 (.int .i64 a0) KR KR)
      refine yStep ha 8 KR ?_; intro l_ ha HK
      refine stepp ha 8 (.int .u64 (IntKind.wrap .u64 a0)) KR KR ?_; intro ax hax; exact HK _ _ _ hax rfl (Below.refl _ _)
    · skip
      intro a wr hn hd HW hs; have ha := hasNil hn hd
      have ha := ha.add (seeF hs 8 1 (.int .u64 (IntKind.wrap .u64 a0)) KR KR)
      refine yStep ha 9 KR ?_; intro l_ ha HK
      refine stepc ha 9 KR KR (fields_PutLittle.calls K (IntKind.wrap .u64 a0) 2 t471 _ ht472) ?_; rintro e W473 ⟨rfl, HX474⟩
      refine ⟨_, rfl, ?_⟩; intro ax hax; exact HK _ _ _ hax rfl HX474.below
    · skip
      intro a wr hn hd HW hs; have ha := hasNil hn hd
      have ha := ha.add (seeE hs 1 (.int .i64 a1) KR KR)
      refine yStep ha 10 KR ?_; intro l_ ha HK
      refine stepp ha 10 (.int .i64 a1) KR KR ?_; intro ax hax; exact HK _ _ _ hax rfl (Below.refl _ _)
    · skip
      intro a wr hn hd HW hs; have ha := hasNil hn hd
      have ha := ha.add (seeF hs 10 3 (.int .i64 a1) KR KR)
      refine yStep ha 11 KR ?_; intro l_ ha HK
      refine stepp ha 11 (.int .u8 (IntKind.wrap .u8 a1)) KR KR ?_; intro ax hax; exact HK _ _ _ hax rfl (Below.refl _ _)
    · skip
      intro a wr hn hd HW hs; have ha := hasNil hn hd
      have ha := ha.add (seeF hs 11 4 (.int .u8 (IntKind.wrap .u8 a1)) KR KR)
      refine yStep ha 12 KR ?_; intro l_ ha HK
      refine stepbs ha (Wd.refl wr) 12 5 1 1 #[.int .u8 (IntKind.wrap .u8 a1)] [.int .u8 (IntKind.wrap .u8 a1)] (by decide) KR KR KR KR ?_; intro b475 ax W476 HV hax
      exact HK _ _ _ hax (show Rd 1 _ _ ([IntKind.wrap .u8 a1] : List Int).length (encs (encI .u8) ([IntKind.wrap .u8 a1] : List Int)) from HV.rdo (i := 0) (q := ⟨5, 1, .slice (some ⟨b475, 0, none⟩) 1 1, 1, [.int .u8 (IntKind.wrap .u8 a1)]⟩) KR) HV.below
    · skip
      intro a wr hn hd HW hs; have ha := hasNil hn hd
      obtain ⟨A478, c479, he_, hR480⟩ := seeR hs 12 5 1 ([IntKind.wrap .u8 a1] : List Int).length (encs (encI .u8) ([IntKind.wrap .u8 a1] : List Int)) KR KR; have ha := ha.add he_
      refine yStep ha 13 KR ?_; intro l_ ha HK
      refine stepbt ha 13 97 9 5 (.tmp 12) (v := .slice A478 ([IntKind.wrap .u8 a1] : List Int).length c479) (xs := ([IntKind.wrap .u8 a1] : List Int)) hR480 rfl KR KR KR KR KR ?_; intro ax hax; exact HK _ _ _ hax rfl (Below.refl _ _)
    · skip
      intro a wr hn hd HW hs; have ha := hasNil hn hd
      have ha := ha.add (seeF hs 9 2 (.string t471) KR KR)
      have ha := ha.add (seeF hs 13 6 (.string (strOfNums ([IntKind.wrap .u8 a1] : List Int))) KR KR)
      refine yStep ha 14 KR ?_; intro l_ ha HK
      refine stepsa ha 14 9 9 (.tmp 9) (.tmp 13) t471 (strOfNums ([IntKind.wrap .u8 a1] : List Int)) rfl KR KR (show (t471).size + (strOfNums ([IntKind.wrap .u8 a1] : List Int)).size ≤ 9223372036854775807 from hA481) KR ?_; intro ax hax; exact HK _ _ _ hax rfl (Below.refl _ _)
    · skip
      intro a wr hn hd HW hs; have ha := hasNil hn hd
      refine yStep ha 15 KR ?_; intro l_ ha HK
      refine stepmk (encI .u8) (0 : Int) ha (Wd.refl wr) 15 97 5 (.const (.int .i64 13)) (.const (.int .i64 13)) .i64 .i64 13 (.int .u8 0) 1 rfl KR KR KR KR rfl rfl (by decide) (by have := (show (13 : Int) ≤ 281474976710656 by decide); omega) (by have := (show (13 : Int) ≤ 281474976710656 by decide); omega) KR ?_; intro b482 ax W483 HV hax
      exact HK _ _ _ hax (show Rd 1 _ _ (List.replicate (13 : Int).toNat (0 : Int)).length (encs (encI .u8) (List.replicate (13 : Int).toNat (0 : Int))) from HV.rdo (i := 0) (q := ⟨5, 1, .slice (some ⟨b482, 0, none⟩) (List.replicate (13 : Int).toNat (0 : Int)).length ((13 : Int).toNat), (List.replicate (13 : Int).toNat (0 : Int)).length, encs (encI .u8) (List.replicate (13 : Int).toNat (0 : Int))⟩) KR) HV.below
    · skip
      intro a wr hn hd HW hs; have ha := hasNil hn hd
      obtain ⟨A485, c486, he_, hR487⟩ := seeR hs 15 8 1 (List.replicate (13 : Int).toNat (0 : Int)).length (encs (encI .u8) (List.replicate (13 : Int).toNat (0 : Int))) KR KR; have ha := ha.add he_
      refine yStep ha 16 KR ?_; intro l_ ha HK
      refine stepbt ha 16 97 9 5 (.tmp 15) (v := .slice A485 (List.replicate (13 : Int).toNat (0 : Int)).length c486) (xs := List.replicate (13 : Int).toNat (0 : Int)) hR487 rfl KR KR KR KR KR ?_; intro ax hax; exact HK _ _ _ hax rfl (Below.refl _ _)
    · skip
      intro a wr hn hd HW hs; have ha := hasNil hn hd
      have ha := ha.add (seeF hs 14 7 (.string (t471 ++ (strOfNums ([IntKind.wrap .u8 a1] : List Int)))) KR KR)
      have ha := ha.add (seeF hs 16 9 (.string (strOfNums (List.replicate (13 : Int).toNat (0 : Int)))) KR KR)
      refine yStep ha 17 KR ?_; intro l_ ha HK
      refine stepsa ha 17 9 9 (.tmp 14) (.tmp 16) (t471 ++ (strOfNums ([IntKind.wrap .u8 a1] : List Int))) (strOfNums (List.replicate (13 : Int).toNat (0 : Int))) rfl KR KR (show (t471 ++ (strOfNums ([IntKind.wrap .u8 a1] : List Int))).size + (strOfNums (List.replicate (13 : Int).toNat (0 : Int))).size ≤ 9223372036854775807 from hA488) KR ?_; intro ax hax; exact HK _ _ _ hax rfl (Below.refl _ _)
    · skip
      intro a wr hn hd HW hs; have ha := hasNil hn hd
      have ha := ha.add (seeE hs 2 (.int .u64 a2) KR KR)
      refine yStep ha 18 KR ?_; intro l_ ha HK
      refine stepp ha 18 (.int .u64 a2) KR KR ?_; intro ax hax; exact HK _ _ _ hax rfl (Below.refl _ _)
    · skip
      intro a wr hn hd HW hs; have ha := hasNil hn hd
      have ha := ha.add (seeF hs 18 11 (.int .u64 a2) KR KR)
      refine yStep ha 19 KR ?_; intro l_ ha HK
      refine stepc ha 19 KR KR (fields_PutLittle.calls K a2 8 t489 _ ht490) ?_; rintro e W491 ⟨rfl, HX492⟩
      refine ⟨_, rfl, ?_⟩; intro ax hax; exact HK _ _ _ hax rfl HX492.below
    · skip
      intro a wr hn hd HW hs; have ha := hasNil hn hd
      have ha := ha.add (seeF hs 17 10 (.string ((t471 ++ (strOfNums ([IntKind.wrap .u8 a1] : List Int))) ++ (strOfNums (List.replicate (13 : Int).toNat (0 : Int))))) KR KR)
      have ha := ha.add (seeF hs 19 12 (.string t489) KR KR)
      refine yStep ha 20 KR ?_; intro l_ ha HK
      refine stepsa ha 20 9 9 (.tmp 17) (.tmp 19) ((t471 ++ (strOfNums ([IntKind.wrap .u8 a1] : List Int))) ++ (strOfNums (List.replicate (13 : Int).toNat (0 : Int)))) t489 rfl KR KR (show ((t471 ++ (strOfNums ([IntKind.wrap .u8 a1] : List Int))) ++ (strOfNums (List.replicate (13 : Int).toNat (0 : Int)))).size + (t489).size ≤ 9223372036854775807 from hA493) KR ?_; intro ax hax; exact HK _ _ _ hax rfl (Below.refl _ _)
  · skip
    intro a W494 ha HW he hf
    replace ha := ha.add (gotF (m := 14) (j := 13) (d := 20) (v := .string (((t471 ++ (strOfNums ([IntKind.wrap .u8 a1] : List Int))) ++ (strOfNums (List.replicate (13 : Int).toNat (0 : Int)))) ++ t489)) hf KR KR KR)
    clear he hf
    refine stepp ha 6 (.string (((t471 ++ (strOfNums ([IntKind.wrap .u8 a1] : List Int))) ++ (strOfNums (List.replicate (13 : Int).toNat (0 : Int)))) ++ t489)) KR KR ?_; clear ha a; intro a ha
    refine endl ?_
    refine thenN (hK470 _ _ ?_); clear hK470
    refine wp_ret ?_
    obtain rfl := Option.some.inj h
    exact finv ha _ _ rfl (.tmp (v := .string (((t471 ++ (strOfNums ([IntKind.wrap .u8 a1] : List Int))) ++ (strOfNums (List.replicate (13 : Int).toNat (0 : Int)))) ++ t489)) KR .nil) (.string (((t471 ++ (strOfNums ([IntKind.wrap .u8 a1] : List Int))) ++ (strOfNums (List.replicate (13 : Int).toNat (0 : Int)))) ++ t489)) rfl ⟨rfl, HW.pick [] [] (by decide) (by decide) rfl KR⟩
/-! ### headgate/nresv.bit: function 49 -/
def nresv_bit.f (a0 : Bool) : Option Int :=
  if a0 = true then (some 1) else (some 0)
set_option maxRecDepth 100000 in
set_option maxHeartbeats 4000000 in
theorem nresv_bit.calls (a0 : Bool)  (r : Int) (w : World)  (h : nresv_bit.f a0 = some r) :
    Calls Tryd.prog 49 #[.bool a0] w (fun e W' => e = .returned (.int .i64 r) ∧ Wd w W' [] [] ) := by
  refine sxstart (n := 4) (l := [(0, .bool a0)]) Tryd.func49 rfl rfl (Nat.le_of_ble_eq_true KR) (subsA_cons rfl (subsA_nil _)) ?_
  intro a ha
  have HW := Wd.refl w
  unfold nresv_bit.f at h
  refine wp_seq_k (fun K495 hK496 => ?_)
  refine wp_region_lit ?_
  refine stepp ha 2 (.int .i64 0) KR KR ?_; clear ha a; intro a ha
  refine endl ?_
  refine thenN (hK496 _ _ ?_); clear hK496
  refine wp_seq_k (fun K497 hK498 => ?_)
  refine wp_seq_k (fun K499 hK500 => ?_)
  refine wp_region_lit ?_
  refine stepp ha 3 (.bool a0) KR KR ?_; clear ha a; intro a ha
  refine endl ?_
  refine thenN (hK500 _ _ ?_); clear hK500
  by_cases hp501 : a0 = true
  · skip
    replace h := ite_pos' h hp501
    refine condT ha KR KR (t := a0) (hp501) ?_
    refine wp_seq_k (fun K502 hK503 => ?_)
    refine wp_region_lit ?_
    refine stepp ha 2 (.int .i64 1) KR KR ?_; clear ha a; intro a ha
    refine endl ?_
    refine thenN (hK503 _ _ ?_); clear hK503
    refine wp_ret ?_
    refine thenR ?_
    obtain rfl := Option.some.inj h
    exact finv ha _ _ rfl (.tmp (v := .int .i64 1) KR .nil) (.int .i64 1) rfl ⟨rfl, HW.pick [] [] (by decide) (by decide) rfl KR⟩
  · skip
    replace h := ite_neg' h hp501
    refine condF ha KR KR (t := a0) (bool_f hp501) ?_
    refine wp_skip ?_
    refine thenN (hK498 _ _ ?_); clear hK498
    refine wp_seq_k (fun K504 hK505 => ?_)
    refine wp_region_lit ?_
    refine stepp ha 2 (.int .i64 0) KR KR ?_; clear ha a; intro a ha
    refine endl ?_
    refine thenN (hK505 _ _ ?_); clear hK505
    refine wp_ret ?_
    obtain rfl := Option.some.inj h
    exact finv ha _ _ rfl (.tmp (v := .int .i64 0) KR .nil) (.int .i64 0) rfl ⟨rfl, HW.pick [] [] (by decide) (by decide) rfl KR⟩
/-! ### headgate/nresv.Report: function 17 -/
def nresv_Report.b0 (K : Nat) (a0 : T_api_Table) (again609 : ByteArray → Int → Option ByteArray) (x610 : ByteArray) (x611 : Int) : Option ByteArray :=
  if x611 < ((a0.f0.take (mn (a0.f0.length : Int) 16 : Int).toNat).length : Int) then (asrt (0 ≤ x611) ((access_Holds.f K (⟨a0.f0, (⟨a0.f1.f0, a0.f1.f1⟩ : T_api_Hold), a0.f2, a0.f3⟩ : T_api_Table) ((rdL T_api_Reg.z (a0.f0.take (mn (a0.f0.length : Int) 16 : Int).toNat) x611).f0)).bind fun t631 => ((nresv_bit.f t631).bind fun t635 => ((nresv_entry.f K (IntKind.wrap .i64 (x611 + 1)) t635 ((rdL T_api_Reg.z (a0.f0.take (mn (a0.f0.length : Int) 16 : Int).toNat) x611).f1)).bind fun t639 => (asrt (x610.size + t639.size ≤ 9223372036854775807) (again609 (x610 ++ t639) (IntKind.wrap .i64 (x611 + 1)))))))) else (some x610)
def nresv_Report.l0 (K : Nat) (a0 : T_api_Table) : Nat → ByteArray → Int → Option ByteArray
  | 0, _, _ => none
  | k_ + 1, x610, x611 => nresv_Report.b0 K a0 (nresv_Report.l0 K a0 k_) x610 x611
def nresv_Report.j0 (K : Nat) (a0 : T_api_Table) (x528 : Int) : Option ByteArray :=
  (nresv_bit.f a0.f3).bind fun t532 => ((nresv_header.f K a0.f2 x528 ((a0.f0.take (mn (a0.f0.length : Int) 16 : Int).toNat).length : Int) t532).bind fun t536 => (nresv_Report.l0 K a0 K t536 0))
def nresv_Report.f (K : Nat) (a0 : T_api_Table) : Option ByteArray :=
  asrt (0 ≤ (mn (a0.f0.length : Int) 16)) (asrt ((mn (a0.f0.length : Int) 16) ≤ (a0.f0.length : Int)) ((access_Type.f a0.f1.f0).bind fun t523 => (if t523 = true then (nresv_Report.j0 K a0 a0.f1.f0) else (nresv_Report.j0 K a0 0))))
set_option maxRecDepth 100000 in
set_option maxHeartbeats 4000000 in
theorem nresv_Report.calls (K : Nat) (a0 : T_api_Table) (A0_0 : Option Addr) (c0_0 : Nat) (r : ByteArray) (w : World) (hG0 : CA w 0 0 (encs (encI .i64) G_access_lets).toArray) (hr0_0 : Rd 2 w (.slice A0_0 a0.f0.length c0_0) a0.f0.length (encs T_api_Reg.enc a0.f0)) (h : nresv_Report.f K a0 = some r) :
    Calls Tryd.prog 17 #[.agg #[.slice A0_0 a0.f0.length c0_0, .int .i64 a0.f1.f0, .string a0.f1.f1, .int .u32 a0.f2, .bool a0.f3]] w (fun e W' => e = .returned (.string r) ∧ Wd w W' [] [] ) := by
  refine sxstart (n := 51) (l := [(0, .agg #[.slice A0_0 a0.f0.length c0_0, .int .i64 a0.f1.f0, .string a0.f1.f1, .int .u32 a0.f2, .bool a0.f3])]) Tryd.func17 rfl rfl (Nat.le_of_ble_eq_true KR) (subsA_cons rfl (subsA_nil _)) ?_
  intro a ha
  have HW := Wd.refl w
  unfold nresv_Report.f at h
  refine wp_seq_k (fun K506 hK507 => ?_)
  refine wp_region_lit ?_
  refine stepnew ha HW 1 #[.slice A0_0 a0.f0.length c0_0, .int .i64 a0.f1.f0, .string a0.f1.f1, .int .u32 a0.f2, .bool a0.f3] 27 KR KR ?_; clear ha HW a; intro b508 a W509 HW ha
  refine stepp ha 2 (.string (⟨#[]⟩ : ByteArray)) KR KR ?_; clear ha a; intro a ha
  refine endl ?_
  refine thenN (hK507 _ _ ?_); clear hK507
  refine wp_seq_k (fun K510 hK511 => ?_)
  refine wp_region_lit ?_
  refine stepp ha 8 (.pointer (some ⟨b508, 0, none⟩)) KR KR ?_; clear ha a; intro a ha
  refine stepl ha 9 (HW.ca (i := 0) (b := b508) (C := #[.slice A0_0 a0.f0.length c0_0, .int .i64 a0.f1.f0, .string a0.f1.f1, .int .u32 a0.f2, .bool a0.f3]) (T := 27) (fr := (0, 0)) KR) 22 0 (.tmp 8) (.slice A0_0 a0.f0.length c0_0) rfl KR KR KR ?_; clear ha a; intro a ha
  refine stepp ha 10 (.pointer (some ⟨b508, 0, none⟩)) KR KR ?_; clear ha a; intro a ha
  refine stepl ha 11 (HW.ca (i := 0) (b := b508) (C := #[.slice A0_0 a0.f0.length c0_0, .int .i64 a0.f1.f0, .string a0.f1.f1, .int .u32 a0.f2, .bool a0.f3]) (T := 27) (fr := (0, 0)) KR) 22 0 (.tmp 10) (.slice A0_0 a0.f0.length c0_0) rfl KR KR KR ?_; clear ha a; intro a ha
  refine stepp ha 12 (.int .i64 (a0.f0.length : Int)) KR KR ?_; clear ha a; intro a ha
  refine stepmn ha 13 #[3, 3] (.tmp 12) (.const (.int .i64 16)) .i64 (a0.f0.length : Int) 16 rfl KR KR KR ?_; clear ha a; intro a ha
  obtain ⟨hA512, h_⟩ := asrt_some h; clear h; have h := h_; clear h_
  obtain ⟨hA513, h_⟩ := asrt_some h; clear h; have h := h_; clear h_
  refine stepslt T_api_Reg.enc ha 14 22 44 2 (fun _ => rfl) (.tmp 9) (.tmp 13) .i64 (mn (a0.f0.length : Int) 16) (A := A0_0) (c := c0_0) a0.f0 rfl KR KR KR KR (Rd.cap ((HW.rd0 hr0_0))) hA512 (show (mn (a0.f0.length : Int) 16 : Int) ≤ ((a0.f0).length : Int) from hA513) KR ?_; clear ha a; intro A514 c515 a hT516 ha
  refine stepp ha 3 (.slice A514 (a0.f0.take (mn (a0.f0.length : Int) 16 : Int).toNat).length c515) KR KR ?_; clear ha a; intro a ha
  refine endl ?_
  refine thenN (hK511 _ _ ?_); clear hK511
  refine wp_seq_k (fun K517 hK518 => ?_)
  refine wp_region_lit ?_
  refine stepp ha 15 (.pointer (some ⟨b508, 1, none⟩)) KR KR ?_; clear ha a; intro a ha
  refine stepp ha 16 (.pointer (some ⟨b508, 1, none⟩)) KR KR ?_; clear ha a; intro a ha
  refine stepl ha 17 (HW.ca (i := 0) (b := b508) (C := #[.slice A0_0 a0.f0.length c0_0, .int .i64 a0.f1.f0, .string a0.f1.f1, .int .u32 a0.f2, .bool a0.f3]) (T := 27) (fr := (0, 0)) KR) 3 1 (.tmp 16) (.int .i64 a0.f1.f0) rfl KR KR KR ?_; clear ha a; intro a ha
  refine stepp ha 4 (.int .i64 a0.f1.f0) KR KR ?_; clear ha a; intro a ha
  refine endl ?_
  refine thenN (hK518 _ _ ?_); clear hK518
  refine wp_seq_k (fun K519 hK520 => ?_)
  refine cutn (fun a W529 => ∃ (x528 : Int), nresv_Report.j0 K a0 x528 = some r ∧ Has 51 [(1, .pointer (some ⟨b508, 0, none⟩)), (3, .slice A514 (a0.f0.take (mn (a0.f0.length : Int) 16 : Int).toNat).length c515), (4, .int .i64 x528)] a ∧ Wd w W529 [(b508, .cells #[.slice A0_0 a0.f0.length c0_0, .int .i64 a0.f1.f0, .string a0.f1.f1, .int .u32 a0.f2, .bool a0.f3] 27 (0, 0))] []) ?_ ?_
  · skip
    refine wp_seq_k (fun K521 hK522 => ?_)
    refine wp_region_lit ?_
    refine stepp ha 18 (.int .i64 a0.f1.f0) KR KR ?_; clear ha a; intro a ha
    obtain ⟨t523, ht524, h_⟩ := bind_some' h; clear h; have h := h_; clear h_
    refine stepc ha 19 KR KR (access_Type.calls a0.f1.f0 t523 _ ht524) ?_; clear ha a; rintro e W525 ⟨rfl, HX526⟩
    refine ⟨_, rfl, ?_⟩; intro a ha; replace HW := HW.callw HX526; clear HX526
    refine stepp ha 20 (.bool (!t523)) KR KR ?_; clear ha a; intro a ha
    refine endl ?_
    refine thenN (hK522 _ _ ?_); clear hK522
    by_cases hp527 : t523 = true
    · skip
      replace h := ite_pos' h hp527
      refine condF ha KR KR (t := (!t523)) (not_f (hp527)) ?_
      refine wp_skip ?_
      exact thenN ⟨a0.f1.f0, h, ha.sub (subs_cons KR (subs_cons KR (subs_cons KR (subs_nil _)))), HW.pick [0] [] (by decide) (by decide) KR KR⟩
    · skip
      replace h := ite_neg' h hp527
      refine condT ha KR KR (t := (!t523)) (not_t (bool_f hp527)) ?_
      refine wp_region_lit ?_
      refine stepp ha 4 (.int .i64 0) KR KR ?_; clear ha a; intro a ha
      refine endl ?_
      exact thenN ⟨0, h, ha.sub (subs_cons KR (subs_cons KR (subs_cons KR (subs_nil _)))), HW.pick [0] [] (by decide) (by decide) KR KR⟩
  · skip
    intro a W529 hJ
    obtain ⟨x528, h, ha, HW⟩ := hJ
    replace h : nresv_Report.j0 K a0 x528 = some r := h
    unfold nresv_Report.j0 at h
    refine hK520 _ _ ?_; clear hK520
    refine wp_seq_k (fun K530 hK531 => ?_)
    obtain ⟨t532, ht533, h_⟩ := bind_some' h; clear h; have h := h_; clear h_
    obtain ⟨t536, ht537, h_⟩ := bind_some' h; clear h; have h := h_; clear h_
    refine regionG 9 KR KR ha HW [.fix (.pointer (some ⟨b508, 3, none⟩)), .fix (.int .u32 a0.f2), .fix (.int .i64 x528), .fix (.slice A514 (a0.f0.take (mn (a0.f0.length : Int) 16 : Int).toNat).length c515), .fix (.int .i64 ((a0.f0.take (mn (a0.f0.length : Int) 16 : Int).toNat).length : Int)), .fix (.pointer (some ⟨b508, 4, none⟩)), .fix (.bool a0.f3), .fix (.int .i64 t532), .fix (.string t536)] ?_ ?_
    · skip
      refine ⟨?_, ?_, ?_, ?_, ?_, ?_, ?_, ?_, ?_, trivial⟩
      · skip
        intro a wr hn hd HW hs; have ha := hasNil hn hd
        have ha := ha.add (seeE hs 1 (.pointer (some ⟨b508, 0, none⟩)) KR KR)
        refine yStep ha 21 KR ?_; intro l_ ha HK
        refine stepp ha 21 (.pointer (some ⟨b508, 3, none⟩)) KR KR ?_; intro ax hax; exact HK _ _ _ hax rfl (Below.refl _ _)
      · skip
        intro a wr hn hd HW hs; have ha := hasNil hn hd
        have ha := ha.add (seeF hs 21 0 (.pointer (some ⟨b508, 3, none⟩)) KR KR)
        refine yStep ha 22 KR ?_; intro l_ ha HK
        refine stepl ha 22 (HW.ca (i := 0) (b := b508) (C := #[.slice A0_0 a0.f0.length c0_0, .int .i64 a0.f1.f0, .string a0.f1.f1, .int .u32 a0.f2, .bool a0.f3]) (T := 27) (fr := (0, 0)) KR) 25 3 (.tmp 21) (.int .u32 a0.f2) rfl KR KR KR ?_; intro ax hax; exact HK _ _ _ hax rfl (Below.refl _ _)
      · skip
        intro a wr hn hd HW hs; have ha := hasNil hn hd
        have ha := ha.add (seeE hs 4 (.int .i64 x528) KR KR)
        refine yStep ha 23 KR ?_; intro l_ ha HK
        refine stepp ha 23 (.int .i64 x528) KR KR ?_; intro ax hax; exact HK _ _ _ hax rfl (Below.refl _ _)
      · skip
        intro a wr hn hd HW hs; have ha := hasNil hn hd
        have ha := ha.add (seeE hs 3 (.slice A514 (a0.f0.take (mn (a0.f0.length : Int) 16 : Int).toNat).length c515) KR KR)
        refine yStep ha 24 KR ?_; intro l_ ha HK
        refine stepp ha 24 (.slice A514 (a0.f0.take (mn (a0.f0.length : Int) 16 : Int).toNat).length c515) KR KR ?_; intro ax hax; exact HK _ _ _ hax rfl (Below.refl _ _)
      · skip
        intro a wr hn hd HW hs; have ha := hasNil hn hd
        have ha := ha.add (seeF hs 24 3 (.slice A514 (a0.f0.take (mn (a0.f0.length : Int) 16 : Int).toNat).length c515) KR KR)
        refine yStep ha 25 KR ?_; intro l_ ha HK
        refine stepp ha 25 (.int .i64 ((a0.f0.take (mn (a0.f0.length : Int) 16 : Int).toNat).length : Int)) KR KR ?_; intro ax hax; exact HK _ _ _ hax rfl (Below.refl _ _)
      · skip
        intro a wr hn hd HW hs; have ha := hasNil hn hd
        have ha := ha.add (seeE hs 1 (.pointer (some ⟨b508, 0, none⟩)) KR KR)
        refine yStep ha 26 KR ?_; intro l_ ha HK
        refine stepp ha 26 (.pointer (some ⟨b508, 4, none⟩)) KR KR ?_; intro ax hax; exact HK _ _ _ hax rfl (Below.refl _ _)
      · skip
        intro a wr hn hd HW hs; have ha := hasNil hn hd
        have ha := ha.add (seeF hs 26 5 (.pointer (some ⟨b508, 4, none⟩)) KR KR)
        refine yStep ha 27 KR ?_; intro l_ ha HK
        refine stepl ha 27 (HW.ca (i := 0) (b := b508) (C := #[.slice A0_0 a0.f0.length c0_0, .int .i64 a0.f1.f0, .string a0.f1.f1, .int .u32 a0.f2, .bool a0.f3]) (T := 27) (fr := (0, 0)) KR) 4 4 (.tmp 26) (.bool a0.f3) rfl KR KR KR ?_; intro ax hax; exact HK _ _ _ hax rfl (Below.refl _ _)
      · skip
        intro a wr hn hd HW hs; have ha := hasNil hn hd
        have ha := ha.add (seeF hs 27 6 (.bool a0.f3) KR KR)
        refine yStep ha 28 KR ?_; intro l_ ha HK
        refine stepc ha 28 KR KR (nresv_bit.calls a0.f3 t532 _ ht533) ?_; rintro e W534 ⟨rfl, HX535⟩
        refine ⟨_, rfl, ?_⟩; intro ax hax; exact HK _ _ _ hax rfl HX535.below
      · skip
        intro a wr hn hd HW hs; have ha := hasNil hn hd
        have ha := ha.add (seeF hs 22 1 (.int .u32 a0.f2) KR KR)
        have ha := ha.add (seeF hs 23 2 (.int .i64 x528) KR KR)
        have ha := ha.add (seeF hs 25 4 (.int .i64 ((a0.f0.take (mn (a0.f0.length : Int) 16 : Int).toNat).length : Int)) KR KR)
        have ha := ha.add (seeF hs 28 7 (.int .i64 t532) KR KR)
        refine yStep ha 29 KR ?_; intro l_ ha HK
        refine stepc ha 29 KR KR (nresv_header.calls K a0.f2 x528 ((a0.f0.take (mn (a0.f0.length : Int) 16 : Int).toNat).length : Int) t532 t536 _ ht537) ?_; rintro e W538 ⟨rfl, HX539⟩
        refine ⟨_, rfl, ?_⟩; intro ax hax; exact HK _ _ _ hax rfl HX539.below
    · skip
      intro a W540 ha HW he hf
      replace ha := ha.add (he 1 (.pointer (some ⟨b508, 0, none⟩)) KR KR)
      replace ha := ha.add (he 3 (.slice A514 (a0.f0.take (mn (a0.f0.length : Int) 16 : Int).toNat).length c515) KR KR)
      replace ha := ha.add (gotF (m := 9) (j := 8) (d := 29) (v := .string t536) hf KR KR KR)
      clear he hf
      refine stepp ha 5 (.string t536) KR KR ?_; clear ha a; intro a ha
      refine endl ?_
      refine thenN (hK531 _ _ ?_); clear hK531
      refine wp_seq_k (fun K541 hK542 => ?_)
      refine wp_seq_k (fun K543 hK544 => ?_)
      refine wp_region_lit ?_
      refine stepp ha 30 (.slice A514 (a0.f0.take (mn (a0.f0.length : Int) 16 : Int).toNat).length c515) KR KR ?_; clear ha a; intro a ha
      refine stepp ha 31 (.int .i64 ((a0.f0.take (mn (a0.f0.length : Int) 16 : Int).toNat).length : Int)) KR KR ?_; clear ha a; intro a ha
      refine stepp ha 32 (.int .i64 0) KR KR ?_; clear ha a; intro a ha
      refine endl ?_
      refine thenN (hK544 _ _ ?_); clear hK544
      refine wp_block ?_
      refine loopk (fun k => fun a W612 => ∃ (x610 : ByteArray), ∃ (x611 : Int), nresv_Report.l0 K a0 k x610 x611 = some r ∧ Has 51 [(1, .pointer (some ⟨b508, 0, none⟩)), (5, .string x610), (30, .slice A514 (a0.f0.take (mn (a0.f0.length : Int) 16 : Int).toNat).length c515), (31, .int .i64 ((a0.f0.take (mn (a0.f0.length : Int) 16 : Int).toNat).length : Int)), (32, .int .i64 x611)] a ∧ Wd w W612 [(b508, .cells #[.slice A0_0 a0.f0.length c0_0, .int .i64 a0.f1.f0, .string a0.f1.f1, .int .u32 a0.f2, .bool a0.f3] 27 (0, 0))] []) K ?_ ?_
      · skip
        exact ⟨t536, 0, h, ha.sub (subs_cons KR (subs_cons KR (subs_cons KR (subs_cons KR (subs_cons KR (subs_nil _)))))), HW.pick [0] [] (by decide) (by decide) KR KR⟩
      · skip
        intro k a W612 hI
        obtain ⟨x610, x611, h, ha, HW⟩ := hI
        cases k with
        | zero => exact (none_some (show none = some r from h)).elim
        | succ k613 =>
          replace h : nresv_Report.b0 K a0 (nresv_Report.l0 K a0 k613) x610 x611 = some r := h
          obtain ⟨again609, hag614⟩ : ∃ g_, g_ = nresv_Report.l0 K a0 k613 := ⟨_, rfl⟩
          rw [← hag614] at h
          unfold nresv_Report.b0 at h
          refine wp_seq_k (fun K615 hK616 => ?_)
          refine wp_region_lit ?_
          refine stepp ha 33 (.bool (decide (x611 < ((a0.f0.take (mn (a0.f0.length : Int) 16 : Int).toNat).length : Int)))) KR KR ?_; clear ha a; intro a ha
          refine endl ?_
          refine thenN (hK616 _ _ ?_); clear hK616
          refine wp_seq_k (fun K617 hK618 => ?_)
          by_cases hp619 : x611 < ((a0.f0.take (mn (a0.f0.length : Int) 16 : Int).toNat).length : Int)
          · skip
            replace h := ite_pos' h hp619
            refine condT ha KR KR (t := decide (x611 < ((a0.f0.take (mn (a0.f0.length : Int) 16 : Int).toNat).length : Int))) (decide_eq_true hp619) ?_
            refine wp_skip ?_
            refine thenN (hK618 _ _ ?_); clear hK618
            refine wp_seq_k (fun K620 hK621 => ?_)
            refine wp_block ?_
            refine wp_seq_k (fun K622 hK623 => ?_)
            refine wp_region_lit ?_
            refine stepp ha 34 (.int .i64 x611) KR KR ?_; clear ha a; intro a ha
            obtain ⟨hA624, h_⟩ := asrt_some h; clear h; have h := h_; clear h_
            refine stepie T_api_Reg.enc T_api_Reg.z ha 35 (fun _ => rfl) (v := .slice A514 (a0.f0.take (mn (a0.f0.length : Int) 16 : Int).toNat).length c515) (xs := a0.f0.take (mn (a0.f0.length : Int) 16 : Int).toNat) (hT516 _ (HW.rd0 hr0_0)) 22 44 (.tmp 30) (.tmp 32) .i64 x611 rfl KR KR KR KR hA624 (show (x611 : Int) < ((a0.f0.take (mn (a0.f0.length : Int) 16 : Int).toNat).length : Int) from hp619) KR ?_; clear ha a; intro b625 off626 a hC627 ha
            refine stepl ha 36 hC627 44 0 (.tmp 35) (.agg #[.string ((rdL T_api_Reg.z (a0.f0.take (mn (a0.f0.length : Int) 16 : Int).toNat) x611).f0), .int .u64 ((rdL T_api_Reg.z (a0.f0.take (mn (a0.f0.length : Int) 16 : Int).toNat) x611).f1)]) rfl KR KR KR ?_; clear ha a; intro a ha
            refine stepnew ha HW 7 #[.string (⟨#[]⟩ : ByteArray), .int .u64 0] 44 KR KR ?_; clear ha HW a; intro b628 a W629 HW ha
            refine stepp ha 6 (.int .i64 x611) KR KR ?_; clear ha a; intro a ha
            refine stepst ha HW 0 (b := b628) (C := #[.string (⟨#[]⟩ : ByteArray), .int .u64 0]) (T := 44) KR 44 0 (.tmp 7) (.tmp 36) (.agg #[.string ((rdL T_api_Reg.z (a0.f0.take (mn (a0.f0.length : Int) 16 : Int).toNat) x611).f0), .int .u64 ((rdL T_api_Reg.z (a0.f0.take (mn (a0.f0.length : Int) 16 : Int).toNat) x611).f1)]) #[.string ((rdL T_api_Reg.z (a0.f0.take (mn (a0.f0.length : Int) 16 : Int).toNat) x611).f0), .int .u64 ((rdL T_api_Reg.z (a0.f0.take (mn (a0.f0.length : Int) 16 : Int).toNat) x611).f1)] rfl KR KR KR KR KR KR KR ?_; clear ha HW a; intro a W630 HW ha
            refine endl ?_
            refine thenN (hK623 _ _ ?_); clear hK623
            obtain ⟨t631, ht632, h_⟩ := bind_some' h; clear h; have h := h_; clear h_
            obtain ⟨t635, ht636, h_⟩ := bind_some' h; clear h; have h := h_; clear h_
            obtain ⟨t639, ht640, h_⟩ := bind_some' h; clear h; have h := h_; clear h_
            obtain ⟨hA643, h_⟩ := asrt_some h; clear h; have h := h_; clear h_
            refine regionG 12 KR KR ha HW [.fix (.string x610), .fix (.int .i64 x611), .fix (.int .i64 (IntKind.wrap .i64 (x611 + 1))), .fix (.agg #[.slice A0_0 a0.f0.length c0_0, .int .i64 a0.f1.f0, .string a0.f1.f1, .int .u32 a0.f2, .bool a0.f3]), .fix (.pointer (some ⟨b628, 0, none⟩)), .fix (.string ((rdL T_api_Reg.z (a0.f0.take (mn (a0.f0.length : Int) 16 : Int).toNat) x611).f0)), .fix (.bool t631), .fix (.int .i64 t635), .fix (.pointer (some ⟨b628, 1, none⟩)), .fix (.int .u64 ((rdL T_api_Reg.z (a0.f0.take (mn (a0.f0.length : Int) 16 : Int).toNat) x611).f1)), .fix (.string t639), .fix (.string (x610 ++ t639))] ?_ ?_
            · skip
              refine ⟨?_, ?_, ?_, ?_, ?_, ?_, ?_, ?_, ?_, ?_, ?_, ?_, trivial⟩
              · skip
                intro a wr hn hd HW hs; have ha := hasNil hn hd
                have ha := ha.add (seeE hs 5 (.string x610) KR KR)
                refine yStep ha 37 KR ?_; intro l_ ha HK
                refine stepp ha 37 (.string x610) KR KR ?_; intro ax hax; exact HK _ _ _ hax rfl (Below.refl _ _)
              · skip
                intro a wr hn hd HW hs; have ha := hasNil hn hd
                have ha := ha.add (seeE hs 6 (.int .i64 x611) KR KR)
                refine yStep ha 38 KR ?_; intro l_ ha HK
                refine stepp ha 38 (.int .i64 x611) KR KR ?_; intro ax hax; exact HK _ _ _ hax rfl (Below.refl _ _)
              · skip
                intro a wr hn hd HW hs; have ha := hasNil hn hd
                have ha := ha.add (seeF hs 38 1 (.int .i64 x611) KR KR)
                refine yStep ha 39 KR ?_; intro l_ ha HK
                refine stepp ha 39 (.int .i64 (IntKind.wrap .i64 (x611 + 1))) KR KR ?_; intro ax hax; exact HK _ _ _ hax rfl (Below.refl _ _)
              · skip
                intro a wr hn hd HW hs; have ha := hasNil hn hd
                have ha := ha.add (seeE hs 1 (.pointer (some ⟨b508, 0, none⟩)) KR KR)
                refine yStep ha 40 KR ?_; intro l_ ha HK
                refine stepl ha 40 (HW.ca (i := 1) (b := b508) (C := #[.slice A0_0 a0.f0.length c0_0, .int .i64 a0.f1.f0, .string a0.f1.f1, .int .u32 a0.f2, .bool a0.f3]) (T := 27) (fr := (0, 0)) KR) 27 0 (.tmp 1) (.agg #[.slice A0_0 a0.f0.length c0_0, .int .i64 a0.f1.f0, .string a0.f1.f1, .int .u32 a0.f2, .bool a0.f3]) rfl KR KR KR ?_; intro ax hax; exact HK _ _ _ hax rfl (Below.refl _ _)
              · skip
                intro a wr hn hd HW hs; have ha := hasNil hn hd
                have ha := ha.add (seeE hs 7 (.pointer (some ⟨b628, 0, none⟩)) KR KR)
                refine yStep ha 41 KR ?_; intro l_ ha HK
                refine stepp ha 41 (.pointer (some ⟨b628, 0, none⟩)) KR KR ?_; intro ax hax; exact HK _ _ _ hax rfl (Below.refl _ _)
              · skip
                intro a wr hn hd HW hs; have ha := hasNil hn hd
                have ha := ha.add (seeF hs 41 4 (.pointer (some ⟨b628, 0, none⟩)) KR KR)
                refine yStep ha 42 KR ?_; intro l_ ha HK
                refine stepl ha 42 (HW.ca (i := 0) (b := b628) (C := #[.string ((rdL T_api_Reg.z (a0.f0.take (mn (a0.f0.length : Int) 16 : Int).toNat) x611).f0), .int .u64 ((rdL T_api_Reg.z (a0.f0.take (mn (a0.f0.length : Int) 16 : Int).toNat) x611).f1)]) (T := 44) (fr := (0, 0)) KR) 9 0 (.tmp 41) (.string ((rdL T_api_Reg.z (a0.f0.take (mn (a0.f0.length : Int) 16 : Int).toNat) x611).f0)) rfl KR KR KR ?_; intro ax hax; exact HK _ _ _ hax rfl (Below.refl _ _)
              · skip
                intro a wr hn hd HW hs; have ha := hasNil hn hd
                have ha := ha.add (seeF hs 40 3 (.agg #[.slice A0_0 a0.f0.length c0_0, .int .i64 a0.f1.f0, .string a0.f1.f1, .int .u32 a0.f2, .bool a0.f3]) KR KR)
                have ha := ha.add (seeF hs 42 5 (.string ((rdL T_api_Reg.z (a0.f0.take (mn (a0.f0.length : Int) 16 : Int).toNat) x611).f0)) KR KR)
                refine yStep ha 43 KR ?_; intro l_ ha HK
                refine stepc ha 43 KR KR (access_Holds.calls K (⟨a0.f0, (⟨a0.f1.f0, a0.f1.f1⟩ : T_api_Hold), a0.f2, a0.f3⟩ : T_api_Table) ((rdL T_api_Reg.z (a0.f0.take (mn (a0.f0.length : Int) 16 : Int).toNat) x611).f0) A0_0 c0_0 t631 _ (HW.ca0 hG0) ((HW.rd0 hr0_0)) ht632) ?_; rintro e W633 ⟨rfl, HX634⟩
                refine ⟨_, rfl, ?_⟩; intro ax hax; exact HK _ _ _ hax rfl HX634.below
              · skip
                intro a wr hn hd HW hs; have ha := hasNil hn hd
                have ha := ha.add (seeF hs 43 6 (.bool t631) KR KR)
                refine yStep ha 44 KR ?_; intro l_ ha HK
                refine stepc ha 44 KR KR (nresv_bit.calls t631 t635 _ ht636) ?_; rintro e W637 ⟨rfl, HX638⟩
                refine ⟨_, rfl, ?_⟩; intro ax hax; exact HK _ _ _ hax rfl HX638.below
              · skip
                intro a wr hn hd HW hs; have ha := hasNil hn hd
                have ha := ha.add (seeE hs 7 (.pointer (some ⟨b628, 0, none⟩)) KR KR)
                refine yStep ha 45 KR ?_; intro l_ ha HK
                refine stepp ha 45 (.pointer (some ⟨b628, 1, none⟩)) KR KR ?_; intro ax hax; exact HK _ _ _ hax rfl (Below.refl _ _)
              · skip
                intro a wr hn hd HW hs; have ha := hasNil hn hd
                have ha := ha.add (seeF hs 45 8 (.pointer (some ⟨b628, 1, none⟩)) KR KR)
                refine yStep ha 46 KR ?_; intro l_ ha HK
                refine stepl ha 46 (HW.ca (i := 0) (b := b628) (C := #[.string ((rdL T_api_Reg.z (a0.f0.take (mn (a0.f0.length : Int) 16 : Int).toNat) x611).f0), .int .u64 ((rdL T_api_Reg.z (a0.f0.take (mn (a0.f0.length : Int) 16 : Int).toNat) x611).f1)]) (T := 44) (fr := (0, 0)) KR) 42 1 (.tmp 45) (.int .u64 ((rdL T_api_Reg.z (a0.f0.take (mn (a0.f0.length : Int) 16 : Int).toNat) x611).f1)) rfl KR KR KR ?_; intro ax hax; exact HK _ _ _ hax rfl (Below.refl _ _)
              · skip
                intro a wr hn hd HW hs; have ha := hasNil hn hd
                have ha := ha.add (seeF hs 39 2 (.int .i64 (IntKind.wrap .i64 (x611 + 1))) KR KR)
                have ha := ha.add (seeF hs 44 7 (.int .i64 t635) KR KR)
                have ha := ha.add (seeF hs 46 9 (.int .u64 ((rdL T_api_Reg.z (a0.f0.take (mn (a0.f0.length : Int) 16 : Int).toNat) x611).f1)) KR KR)
                refine yStep ha 47 KR ?_; intro l_ ha HK
                refine stepc ha 47 KR KR (nresv_entry.calls K (IntKind.wrap .i64 (x611 + 1)) t635 ((rdL T_api_Reg.z (a0.f0.take (mn (a0.f0.length : Int) 16 : Int).toNat) x611).f1) t639 _ ht640) ?_; rintro e W641 ⟨rfl, HX642⟩
                refine ⟨_, rfl, ?_⟩; intro ax hax; exact HK _ _ _ hax rfl HX642.below
              · skip
                intro a wr hn hd HW hs; have ha := hasNil hn hd
                have ha := ha.add (seeF hs 37 0 (.string x610) KR KR)
                have ha := ha.add (seeF hs 47 10 (.string t639) KR KR)
                refine yStep ha 48 KR ?_; intro l_ ha HK
                refine stepsa ha 48 9 9 (.tmp 37) (.tmp 47) x610 t639 rfl KR KR (show (x610).size + (t639).size ≤ 9223372036854775807 from hA643) KR ?_; intro ax hax; exact HK _ _ _ hax rfl (Below.refl _ _)
            · skip
              intro a W644 ha HW he hf
              replace ha := ha.add (he 1 (.pointer (some ⟨b508, 0, none⟩)) KR KR)
              replace ha := ha.add (he 30 (.slice A514 (a0.f0.take (mn (a0.f0.length : Int) 16 : Int).toNat).length c515) KR KR)
              replace ha := ha.add (he 31 (.int .i64 ((a0.f0.take (mn (a0.f0.length : Int) 16 : Int).toNat).length : Int)) KR KR)
              replace ha := ha.add (he 32 (.int .i64 x611) KR KR)
              replace ha := ha.add (gotF (m := 12) (j := 11) (d := 48) (v := .string (x610 ++ t639)) hf KR KR KR)
              clear he hf
              refine stepp ha 5 (.string (x610 ++ t639)) KR KR ?_; clear ha a; intro a ha
              refine endl ?_
              refine blkN ?_
              refine thenN (hK621 _ _ ?_); clear hK621
              refine wp_region_lit ?_
              refine stepp ha 49 (.int .i64 (IntKind.wrap .i64 (x611 + 1))) KR KR ?_; clear ha a; intro a ha
              refine stepp ha 32 (.int .i64 (IntKind.wrap .i64 (x611 + 1))) KR KR ?_; clear ha a; intro a ha
              refine endl ?_
              exact thenN ⟨k613, Nat.lt_succ_self k613, x610 ++ t639, IntKind.wrap .i64 (x611 + 1), (by rw [← hag614]; exact h), ha.sub (subs_cons KR (subs_cons KR (subs_cons KR (subs_cons KR (subs_cons KR (subs_nil _)))))), HW.pick [1] [] (by decide) (by decide) KR KR⟩
          · skip
            replace h := ite_neg' h hp619
            refine condF ha KR KR (t := decide (x611 < ((a0.f0.take (mn (a0.f0.length : Int) 16 : Int).toNat).length : Int))) (decide_eq_false hp619) ?_
            refine wp_exit ?_
            refine thenE ?_
            refine thenE ?_
            refine inBlk ?_
            refine thenN (hK542 _ _ ?_); clear hK542
            refine wp_seq_k (fun K645 hK646 => ?_)
            refine wp_region_lit ?_
            refine stepp ha 50 (.string x610) KR KR ?_; clear ha a; intro a ha
            refine stepp ha 2 (.string x610) KR KR ?_; clear ha a; intro a ha
            refine endl ?_
            refine thenN (hK646 _ _ ?_); clear hK646
            refine wp_ret ?_
            obtain rfl := Option.some.inj h
            exact finv ha _ _ rfl (.tmp (v := .string x610) KR .nil) (.string x610) rfl ⟨rfl, HW.pick [] [] (by decide) (by decide) rfl KR⟩
/-! ### headgate/nresv.Size: function 29 -/
def nresv_Size.f (a0 : Int) : Option Int :=
  if a0 = 13 then (some 16) else (if a0 = 17 then (some 16) else (if a0 = 21 then (some 8) else (some 0)))
set_option maxRecDepth 100000 in
set_option maxHeartbeats 4000000 in
theorem nresv_Size.calls (a0 : Int)  (r : Int) (w : World)  (h : nresv_Size.f a0 = some r) :
    Calls Tryd.prog 29 #[.int .i64 a0] w (fun e W' => e = .returned (.int .i64 r) ∧ Wd w W' [] [] ) := by
  refine sxstart (n := 9) (l := [(0, .int .i64 a0)]) Tryd.func29 rfl rfl (Nat.le_of_ble_eq_true KR) (subsA_cons rfl (subsA_nil _)) ?_
  intro a ha
  have HW := Wd.refl w
  unfold nresv_Size.f at h
  refine wp_seq_k (fun K647 hK648 => ?_)
  refine wp_region_lit ?_
  refine stepp ha 2 (.int .i64 0) KR KR ?_; clear ha a; intro a ha
  refine endl ?_
  refine thenN (hK648 _ _ ?_); clear hK648
  refine wp_seq_k (fun K649 hK650 => ?_)
  refine wp_seq_k (fun K651 hK652 => ?_)
  refine wp_region_lit ?_
  refine stepp ha 3 (.int .i64 a0) KR KR ?_; clear ha a; intro a ha
  refine endl ?_
  refine thenN (hK652 _ _ ?_); clear hK652
  refine wp_block ?_
  refine wp_seq_k (fun K653 hK654 => ?_)
  refine wp_seq_k (fun K655 hK656 => ?_)
  refine wp_region_lit ?_
  refine stepp ha 5 (.bool (a0 == 13)) KR KR ?_; clear ha a; intro a ha
  refine stepp ha 4 (.bool (a0 == 13)) KR KR ?_; clear ha a; intro a ha
  refine endl ?_
  refine thenN (hK656 _ _ ?_); clear hK656
  by_cases hp657 : a0 = 13
  · skip
    replace h := ite_pos' h hp657
    refine condT ha KR KR (t := (a0 == 13)) (ieq_t hp657) ?_
    refine wp_skip ?_
    refine thenN (hK654 _ _ ?_); clear hK654
    refine condT ha KR KR (t := (a0 == 13)) (ieq_t hp657) ?_
    refine wp_seq_k (fun K658 hK659 => ?_)
    refine wp_region_lit ?_
    refine stepp ha 2 (.int .i64 16) KR KR ?_; clear ha a; intro a ha
    refine endl ?_
    refine thenN (hK659 _ _ ?_); clear hK659
    refine wp_ret ?_
    refine blkR ?_
    refine thenR ?_
    obtain rfl := Option.some.inj h
    exact finv ha _ _ rfl (.tmp (v := .int .i64 16) KR .nil) (.int .i64 16) rfl ⟨rfl, HW.pick [] [] (by decide) (by decide) rfl KR⟩
  · skip
    replace h := ite_neg' h hp657
    refine condF ha KR KR (t := (a0 == 13)) (ieq_f hp657) ?_
    refine wp_region_lit ?_
    refine stepp ha 6 (.bool (a0 == 17)) KR KR ?_; clear ha a; intro a ha
    refine stepp ha 4 (.bool (a0 == 17)) KR KR ?_; clear ha a; intro a ha
    refine endl ?_
    refine thenN (hK654 _ _ ?_); clear hK654
    by_cases hp660 : a0 = 17
    · skip
      replace h := ite_pos' h hp660
      refine condT ha KR KR (t := (a0 == 17)) (ieq_t hp660) ?_
      refine wp_seq_k (fun K661 hK662 => ?_)
      refine wp_region_lit ?_
      refine stepp ha 2 (.int .i64 16) KR KR ?_; clear ha a; intro a ha
      refine endl ?_
      refine thenN (hK662 _ _ ?_); clear hK662
      refine wp_ret ?_
      refine blkR ?_
      refine thenR ?_
      obtain rfl := Option.some.inj h
      exact finv ha _ _ rfl (.tmp (v := .int .i64 16) KR .nil) (.int .i64 16) rfl ⟨rfl, HW.pick [] [] (by decide) (by decide) rfl KR⟩
    · skip
      replace h := ite_neg' h hp660
      refine condF ha KR KR (t := (a0 == 17)) (ieq_f hp660) ?_
      refine wp_seq_k (fun K663 hK664 => ?_)
      refine wp_region_lit ?_
      refine stepp ha 8 (.bool (a0 == 21)) KR KR ?_; clear ha a; intro a ha
      refine stepp ha 7 (.bool (a0 == 21)) KR KR ?_; clear ha a; intro a ha
      refine endl ?_
      refine thenN (hK664 _ _ ?_); clear hK664
      by_cases hp665 : a0 = 21
      · skip
        replace h := ite_pos' h hp665
        refine condT ha KR KR (t := (a0 == 21)) (ieq_t hp665) ?_
        refine wp_seq_k (fun K666 hK667 => ?_)
        refine wp_region_lit ?_
        refine stepp ha 2 (.int .i64 8) KR KR ?_; clear ha a; intro a ha
        refine endl ?_
        refine thenN (hK667 _ _ ?_); clear hK667
        refine wp_ret ?_
        refine blkR ?_
        refine thenR ?_
        obtain rfl := Option.some.inj h
        exact finv ha _ _ rfl (.tmp (v := .int .i64 8) KR .nil) (.int .i64 8) rfl ⟨rfl, HW.pick [] [] (by decide) (by decide) rfl KR⟩
      · skip
        replace h := ite_neg' h hp665
        refine condF ha KR KR (t := (a0 == 21)) (ieq_f hp665) ?_
        refine wp_skip ?_
        refine blkN ?_
        refine thenN (hK650 _ _ ?_); clear hK650
        refine wp_seq_k (fun K668 hK669 => ?_)
        refine wp_region_lit ?_
        refine stepp ha 2 (.int .i64 0) KR KR ?_; clear ha a; intro a ha
        refine endl ?_
        refine thenN (hK669 _ _ ?_); clear hK669
        refine wp_ret ?_
        obtain rfl := Option.some.inj h
        exact finv ha _ _ rfl (.tmp (v := .int .i64 0) KR .nil) (.int .i64 0) rfl ⟨rfl, HW.pick [] [] (by decide) (by decide) rfl KR⟩
end Go.Proofs.YthjjbkgifelooaaDoor.F
