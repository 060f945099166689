/- headgate/sqe.get: a plain function, and that the call comes to what it says. No condition. -/
import Derived.Test.YtceagilmillgfaaDoorFT
import Derived.Test.YtceagilmillgfaaDoorF66
namespace Go.Proofs.YtceagilmillgfaaDoor.F
open Go Go.RowKit Go.Proofs.YtceagilmillgfaaDoor.X
set_option linter.unusedVariables false
set_option linter.unusedSimpArgs false
/-! ### headgate/sqe.get: function 53 -/
def sqe_get.b0 (K : Nat) (a0 : ByteArray) (a1 : List T_sqe_field) (again1235 : (List Int) → Int → Option (List Int)) (x1236 : List Int) (x1240 : Int) : Option (List Int) :=
  if x1240 < (a1.length : Int) then (asrt (0 ≤ x1240) ((fields_Little.f K a0 ((rdL T_sqe_field.z a1 x1240).f0) ((rdL T_sqe_field.z a1 x1240).f1)).bind fun t1262 => (asrt (x1236.length + ([t1262.1] : List Int).length ≤ 17592186044416) (again1235 (x1236 ++ ([t1262.1] : List Int)) (IntKind.wrap .i64 (x1240 + 1)))))) else (some x1236)
def sqe_get.l0 (K : Nat) (a0 : ByteArray) (a1 : List T_sqe_field) : Nat → (List Int) → Int → Option (List Int)
  | 0, _, _ => none
  | k_ + 1, x1236, x1240 => sqe_get.b0 K a0 a1 (sqe_get.l0 K a0 a1 k_) x1236 x1240
def sqe_get.f (K : Nat) (a0 : ByteArray) (a1 : List T_sqe_field) : Option (List Int) :=
  sqe_get.l0 K a0 a1 K ([] : List Int) 0
set_option maxRecDepth 100000 in
set_option maxHeartbeats 4000000 in
theorem sqe_get.calls (K : Nat) (a0 : ByteArray) (a1 : List T_sqe_field) (A1_0 : Option Addr) (c1_0 : Nat) (r : List Int) (w : World) (hr1_0 : Rd 3 w (.slice A1_0 a1.length c1_0) a1.length (encs T_sqe_field.enc a1)) (h : sqe_get.f K a0 a1 = some r) :
    Calls Tryd.prog 53 #[.string a0, .slice A1_0 a1.length c1_0] w (fun e W' => ∃ A_0 c_0, e = .returned (.slice A_0 r.length c_0) ∧ Wd w W' [] [⟨45, 1, .slice A_0 r.length c_0, r.length, encs (encI .u64) r⟩] ) := by
  refine sxstart (n := 31) (l := [(0, .string a0), (1, .slice A1_0 a1.length c1_0)]) Tryd.func53 rfl rfl (Nat.le_of_ble_eq_true (by kernel_rfl)) (subsA_cons rfl (subsA_cons rfl (subsA_nil _))) ?_
  intro a ha
  have HW := Wd.refl w
  unfold sqe_get.f at h
  refine wp_seq_k (fun K1157 hK1158 => ?_)
  refine wp_region_lit ?_
  refine stepp ha 4 (.slice none 0 0) (by kernel_rfl) (by kernel_rfl) ?_; clear ha a; intro a ha
  refine endl ?_
  refine thenN (hK1158 _ _ ?_); clear hK1158
  refine wp_seq_k (fun K1159 hK1160 => ?_)
  refine wp_region_lit ?_
  refine stepp ha 5 (.slice none 0 0) (by kernel_rfl) (by kernel_rfl) ?_; clear ha a; intro a ha
  refine endl ?_
  refine thenN (hK1160 _ _ ?_); clear hK1160
  refine wp_seq_k (fun K1161 hK1162 => ?_)
  refine wp_seq_k (fun K1163 hK1164 => ?_)
  refine wp_region_lit ?_
  refine stepp ha 10 (.slice A1_0 a1.length c1_0) (by kernel_rfl) (by kernel_rfl) ?_; clear ha a; intro a ha
  refine stepp ha 11 (.int .i64 (a1.length : Int)) (by kernel_rfl) (by kernel_rfl) ?_; clear ha a; intro a ha
  refine stepp ha 12 (.int .i64 0) (by kernel_rfl) (by kernel_rfl) ?_; clear ha a; intro a ha
  refine endl ?_
  refine thenN (hK1164 _ _ ?_); clear hK1164
  refine wp_block ?_
  refine loopk (fun k => fun a W1241 => ∃ (x1236 : List Int), ∃ A1237, ∃ c1238, ∃ (x1240 : Int), sqe_get.l0 K a0 a1 k x1236 x1240 = some r ∧ Has 31 [(0, .string a0), (5, .slice A1237 x1236.length c1238), (10, .slice A1_0 a1.length c1_0), (11, .int .i64 (a1.length : Int)), (12, .int .i64 x1240)] a ∧ Wd w W1241 [] [⟨45, 1, .slice A1237 x1236.length c1238, x1236.length, encs (encI .u64) x1236⟩]) K ?_ ?_
  · skip
    replace HW := HW.nilo 45 1
    exact ⟨([] : List Int), none, 0, 0, h, ha.sub (subs_cons (by kernel_rfl) (subs_cons (by kernel_rfl) (subs_cons (by kernel_rfl) (subs_cons (by kernel_rfl) (subs_cons (by kernel_rfl) (subs_nil _)))))), HW.pick [] [0] (by decide) (by decide) (by kernel_rfl) (by kernel_rfl)⟩
  · skip
    intro k a W1241 hI
    obtain ⟨x1236, A1237, c1238, x1240, h, ha, HW⟩ := hI
    cases k with
    | zero => exact (none_some (show none = some r from h)).elim
    | succ k1242 =>
      replace h : sqe_get.b0 K a0 a1 (sqe_get.l0 K a0 a1 k1242) x1236 x1240 = some r := h
      obtain ⟨again1235, hag1243⟩ : ∃ g_, g_ = sqe_get.l0 K a0 a1 k1242 := ⟨_, rfl⟩
      rw [← hag1243] at h
      unfold sqe_get.b0 at h
      refine wp_seq_k (fun K1244 hK1245 => ?_)
      refine wp_region_lit ?_
      refine stepp ha 13 (.bool (decide (x1240 < (a1.length : Int)))) (by kernel_rfl) (by kernel_rfl) ?_; clear ha a; intro a ha
      refine endl ?_
      refine thenN (hK1245 _ _ ?_); clear hK1245
      refine wp_seq_k (fun K1246 hK1247 => ?_)
      by_cases hp1248 : x1240 < (a1.length : Int)
      · skip
        replace h := ite_pos' h hp1248
        refine condT ha (by kernel_rfl) (by kernel_rfl) (t := decide (x1240 < (a1.length : Int))) (decide_eq_true hp1248) ?_
        refine wp_skip ?_
        refine thenN (hK1247 _ _ ?_); clear hK1247
        refine wp_seq_k (fun K1249 hK1250 => ?_)
        refine wp_block ?_
        refine wp_seq_k (fun K1251 hK1252 => ?_)
        refine wp_region_lit ?_
        obtain ⟨hA1253, h_⟩ := asrt_some h; clear h; have h := h_; clear h_
        refine stepie T_sqe_field.enc T_sqe_field.z ha 14 (fun _ => rfl) (v := .slice A1_0 a1.length c1_0) (xs := a1) ((HW.rd0 hr1_0)) 86 118 (.tmp 10) (.tmp 12) .i64 x1240 rfl (by kernel_rfl) (by kernel_rfl) (by kernel_rfl) (by kernel_rfl) hA1253 (show (x1240 : Int) < ((a1).length : Int) from hp1248) (by kernel_rfl) ?_; clear ha a; intro b1254 off1255 a hC1256 ha
        refine stepl ha 15 hC1256 118 0 (.tmp 14) (.agg #[.int .i64 ((rdL T_sqe_field.z a1 x1240).f0), .int .i64 ((rdL T_sqe_field.z a1 x1240).f1), .int .u64 ((rdL T_sqe_field.z a1 x1240).f2)]) rfl (by kernel_rfl) (by kernel_rfl) (by kernel_rfl) ?_; clear ha a; intro a ha
        refine stepnew ha HW 7 #[.int .i64 0, .int .i64 0, .int .u64 0] 118 (by kernel_rfl) (by kernel_rfl) ?_; clear ha HW a; intro b1257 a W1258 HW ha
        refine stepst ha HW 0 (b := b1257) (C := #[.int .i64 0, .int .i64 0, .int .u64 0]) (T := 118) (by kernel_rfl) 118 0 (.tmp 7) (.tmp 15) (.agg #[.int .i64 ((rdL T_sqe_field.z a1 x1240).f0), .int .i64 ((rdL T_sqe_field.z a1 x1240).f1), .int .u64 ((rdL T_sqe_field.z a1 x1240).f2)]) #[.int .i64 ((rdL T_sqe_field.z a1 x1240).f0), .int .i64 ((rdL T_sqe_field.z a1 x1240).f1), .int .u64 ((rdL T_sqe_field.z a1 x1240).f2)] rfl (by kernel_rfl) (by kernel_rfl) (by kernel_rfl) (by kernel_rfl) (by kernel_rfl) (by kernel_rfl) (by kernel_rfl) ?_; clear ha HW a; intro a W1259 HW ha
        refine endl ?_
        refine thenN (hK1252 _ _ ?_); clear hK1252
        refine wp_seq_k (fun K1260 hK1261 => ?_)
        refine wp_region_lit ?_
        refine stepp ha 17 (.string a0) (by kernel_rfl) (by kernel_rfl) ?_; clear ha a; intro a ha
        refine stepp ha 18 (.pointer (some ⟨b1257, 0, none⟩)) (by kernel_rfl) (by kernel_rfl) ?_; clear ha a; intro a ha
        refine stepl ha 19 (HW.ca (i := 0) (b := b1257) (C := #[.int .i64 ((rdL T_sqe_field.z a1 x1240).f0), .int .i64 ((rdL T_sqe_field.z a1 x1240).f1), .int .u64 ((rdL T_sqe_field.z a1 x1240).f2)]) (T := 118) (fr := (0, 0)) (by kernel_rfl)) 3 0 (.tmp 18) (.int .i64 ((rdL T_sqe_field.z a1 x1240).f0)) rfl (by kernel_rfl) (by kernel_rfl) (by kernel_rfl) ?_; clear ha a; intro a ha
        refine stepp ha 20 (.pointer (some ⟨b1257, 1, none⟩)) (by kernel_rfl) (by kernel_rfl) ?_; clear ha a; intro a ha
        refine stepl ha 21 (HW.ca (i := 0) (b := b1257) (C := #[.int .i64 ((rdL T_sqe_field.z a1 x1240).f0), .int .i64 ((rdL T_sqe_field.z a1 x1240).f1), .int .u64 ((rdL T_sqe_field.z a1 x1240).f2)]) (T := 118) (fr := (0, 0)) (by kernel_rfl)) 3 1 (.tmp 20) (.int .i64 ((rdL T_sqe_field.z a1 x1240).f1)) rfl (by kernel_rfl) (by kernel_rfl) (by kernel_rfl) ?_; clear ha a; intro a ha
        obtain ⟨t1262, ht1263, h_⟩ := bind_some' h; clear h; have h := h_; clear h_
        refine stepc ha 22 (by kernel_rfl) (by kernel_rfl) (fields_Little.calls K a0 ((rdL T_sqe_field.z a1 x1240).f0) ((rdL T_sqe_field.z a1 x1240).f1) t1262 _ ht1263) ?_; clear ha a; rintro e W1264 ⟨rfl, HX1265⟩
        refine ⟨_, rfl, ?_⟩; intro a ha; replace HW := HW.callw HX1265; clear HX1265
        refine stepp ha 16 (.tuple #[.int .u64 t1262.1, .bool t1262.2]) (by kernel_rfl) (by kernel_rfl) ?_; clear ha a; intro a ha
        refine stepp ha 23 (.int .u64 t1262.1) (by kernel_rfl) (by kernel_rfl) ?_; clear ha a; intro a ha
        refine stepp ha 24 (.bool t1262.2) (by kernel_rfl) (by kernel_rfl) ?_; clear ha a; intro a ha
        refine stepp ha 8 (.int .u64 t1262.1) (by kernel_rfl) (by kernel_rfl) ?_; clear ha a; intro a ha
        refine stepp ha 9 (.bool t1262.2) (by kernel_rfl) (by kernel_rfl) ?_; clear ha a; intro a ha
        refine endl ?_
        refine thenN (hK1261 _ _ ?_); clear hK1261
        refine wp_region_lit ?_
        refine stepp ha 25 (.slice A1237 x1236.length c1238) (by kernel_rfl) (by kernel_rfl) ?_; clear ha a; intro a ha
        refine stepp ha 26 (.int .u64 t1262.1) (by kernel_rfl) (by kernel_rfl) ?_; clear ha a; intro a ha
        refine stepbs ha HW 27 45 1 1 #[.int .u64 t1262.1] [.int .u64 t1262.1] (by decide) (by kernel_rfl) (by kernel_rfl) (by kernel_rfl) (by kernel_rfl) ?_; clear ha HW a; intro b1266 a W1267 HW ha
        replace HW : Wd w W1267 [(b1257, .cells #[.int .i64 ((rdL T_sqe_field.z a1 x1240).f0), .int .i64 ((rdL T_sqe_field.z a1 x1240).f1), .int .u64 ((rdL T_sqe_field.z a1 x1240).f2)] 118 (0, 0))] [⟨45, 1, .slice (some ⟨b1266, 0, none⟩) ([t1262.1] : List Int).length 1, ([t1262.1] : List Int).length, encs (encI .u64) ([t1262.1] : List Int)⟩, ⟨45, 1, .slice A1237 x1236.length c1238, x1236.length, encs (encI .u64) x1236⟩] := HW
        replace ha := ha.turn 27 (v := .slice (some ⟨b1266, 0, none⟩) ([t1262.1] : List Int).length 1) (by kernel_rfl) rfl
        obtain ⟨hA1269, h_⟩ := asrt_some h; clear h; have h := h_; clear h_
        refine stepape (encI .u64) ha HW 28 1 83 45 (.tmp 25) (.tmp 27) (.int .u64 0) 1 8 (.slice A1237 x1236.length c1238) x1236 (.slice (some ⟨b1266, 0, none⟩) ([t1262.1] : List Int).length 1) ([t1262.1] : List Int) (by kernel_rfl) rfl (by kernel_rfl) (by kernel_rfl) (HW.rdo (i := 0) (q := ⟨45, 1, .slice (some ⟨b1266, 0, none⟩) ([t1262.1] : List Int).length 1, ([t1262.1] : List Int).length, encs (encI .u64) ([t1262.1] : List Int)⟩) (by kernel_rfl)) (fun _ => rfl) (by kernel_rfl) (by kernel_rfl) (by kernel_rfl) (by decide) (by have := hA1269; unfold maxLen; omega) (by have := hA1269; omega) (by kernel_rfl) ?_; clear ha HW a; intro A1270 c1271 a W1272 HW ha
        refine stepp ha 5 (.slice A1270 (x1236 ++ ([t1262.1] : List Int)).length c1271) (by kernel_rfl) (by kernel_rfl) ?_; clear ha a; intro a ha
        refine endl ?_
        refine blkN ?_
        refine thenN (hK1250 _ _ ?_); clear hK1250
        refine wp_region_lit ?_
        refine stepp ha 29 (.int .i64 (IntKind.wrap .i64 (x1240 + 1))) (by kernel_rfl) (by kernel_rfl) ?_; clear ha a; intro a ha
        refine stepp ha 12 (.int .i64 (IntKind.wrap .i64 (x1240 + 1))) (by kernel_rfl) (by kernel_rfl) ?_; clear ha a; intro a ha
        refine endl ?_
        exact thenN ⟨k1242, Nat.lt_succ_self k1242, x1236 ++ ([t1262.1] : List Int), A1270, c1271, IntKind.wrap .i64 (x1240 + 1), (by rw [← hag1243]; exact h), ha.sub (subs_cons (by kernel_rfl) (subs_cons (by kernel_rfl) (subs_cons (by kernel_rfl) (subs_cons (by kernel_rfl) (subs_cons (by kernel_rfl) (subs_nil _)))))), HW.pick [] [1] (by decide) (by decide) (by kernel_rfl) (by kernel_rfl)⟩
      · skip
        replace h := ite_neg' h hp1248
        refine condF ha (by kernel_rfl) (by kernel_rfl) (t := decide (x1240 < (a1.length : Int))) (decide_eq_false hp1248) ?_
        refine wp_exit ?_
        refine thenE ?_
        refine thenE ?_
        refine inBlk ?_
        refine thenN (hK1162 _ _ ?_); clear hK1162
        refine wp_seq_k (fun K1275 hK1276 => ?_)
        refine wp_region_lit ?_
        refine stepp ha 30 (.slice A1237 x1236.length c1238) (by kernel_rfl) (by kernel_rfl) ?_; clear ha a; intro a ha
        refine stepp ha 4 (.slice A1237 x1236.length c1238) (by kernel_rfl) (by kernel_rfl) ?_; clear ha a; intro a ha
        refine endl ?_
        refine thenN (hK1276 _ _ ?_); clear hK1276
        refine wp_ret ?_
        obtain rfl := Option.some.inj h
        exact finv ha _ _ rfl (.tmp (v := .slice A1237 x1236.length c1238) (by kernel_rfl) .nil) (.slice A1237 x1236.length c1238) rfl ⟨A1237, c1238, rfl, HW.pick [] [0] (by decide) (by decide) rfl (by kernel_rfl)⟩
end Go.Proofs.YtceagilmillgfaaDoor.F
