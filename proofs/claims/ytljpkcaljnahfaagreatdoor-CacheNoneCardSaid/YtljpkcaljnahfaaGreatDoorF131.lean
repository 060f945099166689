/- headgate/extents.Parse, headgate/store.head, (headgate/cache.change).blocks, headgate/headgatekeep.Block, headgate/headgatelaw08.Fill, (headgate/headgateref09.change).has, headgate/headgatekeep.CopyRanges, headgate/crc.Right, strings.trimLeftByte, strings.trimRightByte: plain functions, and that the calls come to what they say. No condition. -/
import Derived.Test.YtljpkcaljnahfaaGreatDoorFT
import Derived.Test.YtljpkcaljnahfaaGreatDoorF31
import Derived.Test.YtljpkcaljnahfaaGreatDoorF146
namespace Go.Proofs.YtljpkcaljnahfaaGreatDoor.F
open Go Go.RowKit Go.Proofs.YtljpkcaljnahfaaGreatDoor.X
set_option linter.unusedVariables false
set_option linter.unusedSimpArgs false
/-! ### headgate/extents.Parse: function 131 -/
def extents_Parse.b1 (K : Nat) (a0 : ByteArray) (again1254 : (List T_api_Extent) → Int → Option ((List T_api_Extent) × Int)) (x1255 : List T_api_Extent) (x1259 : Int) (again1338 : Int → Int → Int → Int → Option ((List T_api_Extent) × Int)) (x1339 : Int) (x1340 : Int) (x1341 : Int) (x1342 : Int) : Option ((List T_api_Extent) × Int) :=
  if x1339 < 3 then ((fields_Big.f K a0 (IntKind.wrap .i64 ((IntKind.wrap .i64 (4 + (IntKind.wrap .i64 (12 * x1259)))) + (IntKind.wrap .i64 (4 * x1339)))) 4).bind fun t1357 => (asrt (0 ≤ x1339) (again1338 (IntKind.wrap .i64 (x1339 + 1)) (rdL 0 (([x1340, x1341, x1342] : List Int).set (x1339 : Int).toNat (IntKind.wrap .i64 t1357.1)) 0) (rdL 0 (([x1340, x1341, x1342] : List Int).set (x1339 : Int).toNat (IntKind.wrap .i64 t1357.1)) 1) (rdL 0 (([x1340, x1341, x1342] : List Int).set (x1339 : Int).toNat (IntKind.wrap .i64 t1357.1)) 2)))) else (asrt (x1255.length + ([(⟨x1340, x1341, x1342⟩ : T_api_Extent)] : List T_api_Extent).length ≤ 5864062014805) (again1254 (x1255 ++ ([(⟨x1340, x1341, x1342⟩ : T_api_Extent)] : List T_api_Extent)) (IntKind.wrap .i64 (x1259 + 1))))
def extents_Parse.l1 (K : Nat) (a0 : ByteArray) (again1254 : (List T_api_Extent) → Int → Option ((List T_api_Extent) × Int)) (x1255 : List T_api_Extent) (x1259 : Int) : Nat → Int → Int → Int → Int → Option ((List T_api_Extent) × Int)
  | 0, _, _, _, _ => none
  | k_ + 1, x1339, x1340, x1341, x1342 => extents_Parse.b1 K a0 again1254 x1255 x1259 (extents_Parse.l1 K a0 again1254 x1255 x1259 k_) x1339 x1340 x1341 x1342
def extents_Parse.b0 (K : Nat) (a0 : ByteArray) (t1002 : Int × Bool) (again1254 : (List T_api_Extent) → Int → Option ((List T_api_Extent) × Int)) (x1255 : List T_api_Extent) (x1259 : Int) : Option ((List T_api_Extent) × Int) :=
  if x1259 < (IntKind.wrap .i64 t1002.1) then (extents_Parse.l1 K a0 again1254 x1255 x1259 K 0 0 0 0) else ((extents_Good.f K x1255).bind fun t1376 => (if t1376 = true then (some (x1255, 0)) else (some (([] : List T_api_Extent), 70))))
def extents_Parse.l0 (K : Nat) (a0 : ByteArray) (t1002 : Int × Bool) : Nat → (List T_api_Extent) → Int → Option ((List T_api_Extent) × Int)
  | 0, _, _ => none
  | k_ + 1, x1255, x1259 => extents_Parse.b0 K a0 t1002 (extents_Parse.l0 K a0 t1002 k_) x1255 x1259
def extents_Parse.f (K : Nat) (a0 : ByteArray) : Option ((List T_api_Extent) × Int) :=
  (fields_Big.f K a0 0 4).bind fun t1002 => (if t1002.2 = true then (if t1002.1 > 4096 then (some (([] : List T_api_Extent), 70)) else (if (a0.size : Int) = (IntKind.wrap .i64 (4 + (IntKind.wrap .i64 (12 * (IntKind.wrap .i64 t1002.1))))) then (extents_Parse.l0 K a0 t1002 K ([] : List T_api_Extent) 0) else (some (([] : List T_api_Extent), 70)))) else (some (([] : List T_api_Extent), 70)))
set_option maxRecDepth 100000 in
set_option maxHeartbeats 4000000 in
theorem extents_Parse.calls (K : Nat) (a0 : ByteArray)  (r : (List T_api_Extent) × Int) (w : World)  (h : extents_Parse.f K a0 = some r) :
    Calls Tryz.prog 131 #[.string a0] w (fun e W' => ∃ A_0 c_0, e = .returned (.tuple #[.slice A_0 r.1.length c_0, .int .i64 r.2]) ∧ Wd w W' [] [⟨164, 3, .slice A_0 r.1.length c_0, r.1.length, encs T_api_Extent.enc r.1⟩] ) := by
  refine sxstart (n := 71) (l := [(0, .string a0)]) Tryz.func131 rfl rfl (Nat.le_of_ble_eq_true KR) (subsA_cons rfl (subsA_nil _)) ?_
  intro a ha
  have HW := Wd.refl w
  unfold extents_Parse.f at h
  refine wp_seq_k (fun K998 hK999 => ?_)
  refine wp_region_lit ?_
  refine stepp ha 2 (.slice none 0 0) KR KR ?_; clear ha a; intro a ha
  refine stepp ha 3 (.int .i64 0) KR KR ?_; clear ha a; intro a ha
  refine endl ?_
  refine thenN (hK999 _ _ ?_); clear hK999
  refine wp_seq_k (fun K1000 hK1001 => ?_)
  refine wp_region_lit ?_
  refine stepp ha 13 (.string a0) KR KR ?_; clear ha a; intro a ha
  obtain ⟨t1002, ht1003, h_⟩ := bind_some' h; clear h; have h := h_; clear h_
  refine stepc ha 14 KR KR (fields_Big.calls K a0 0 4 t1002 _ ht1003) ?_; clear ha a; rintro e W1004 ⟨rfl, HX1005⟩
  refine ⟨_, rfl, ?_⟩; intro a ha; replace HW := HW.callw HX1005; clear HX1005
  refine stepp ha 12 (.tuple #[.int .u64 t1002.1, .bool t1002.2]) KR KR ?_; clear ha a; intro a ha
  refine stepp ha 15 (.int .u64 t1002.1) KR KR ?_; clear ha a; intro a ha
  refine stepp ha 16 (.bool t1002.2) KR KR ?_; clear ha a; intro a ha
  refine stepp ha 4 (.int .u64 t1002.1) KR KR ?_; clear ha a; intro a ha
  refine stepp ha 5 (.bool t1002.2) KR KR ?_; clear ha a; intro a ha
  refine endl ?_
  refine thenN (hK1001 _ _ ?_); clear hK1001
  refine wp_seq_k (fun K1006 hK1007 => ?_)
  refine wp_seq_k (fun K1008 hK1009 => ?_)
  refine wp_region_lit ?_
  refine stepp ha 17 (.bool t1002.2) KR KR ?_; clear ha a; intro a ha
  refine stepp ha 18 (.bool (!t1002.2)) KR KR ?_; clear ha a; intro a ha
  refine stepp ha 19 (.bool (!t1002.2)) KR KR ?_; clear ha a; intro a ha
  by_cases hp1010 : t1002.2 = true
  · skip
    replace h := ite_pos' h hp1010
    replace ha := ha.bool 19 KR (not_f (hp1010))
    refine stepp ha 20 (.int .u64 t1002.1) KR KR ?_; clear ha a; intro a ha
    refine stepp ha 21 (.bool (decide (t1002.1 > 4096))) KR KR ?_; clear ha a; intro a ha
    refine stepp ha 22 (.bool (decide (t1002.1 > 4096))) KR KR ?_; clear ha a; intro a ha
    refine stepp ha 23 (.bool (decide (t1002.1 > 4096))) KR KR ?_; clear ha a; intro a ha
    by_cases hp1011 : t1002.1 > 4096
    · skip
      replace h := ite_pos' h hp1011
      replace ha := ha.bool 23 KR (decide_eq_true hp1011)
      refine stepo ha 24 KR ?_; clear ha a; intro a ha
      refine stepo ha 25 KR ?_; clear ha a; intro a ha
      refine stepo ha 26 KR ?_; clear ha a; intro a ha
      refine stepo ha 27 KR ?_; clear ha a; intro a ha
      refine stepo ha 28 KR ?_; clear ha a; intro a ha
      refine stepo ha 29 KR ?_; clear ha a; intro a ha
      refine stepo ha 30 KR ?_; clear ha a; intro a ha
      refine stepp ha 31 (.bool true) KR KR ?_; clear ha a; intro a ha
      refine endl ?_
      refine thenN (hK1009 _ _ ?_); clear hK1009
      refine condT ha KR KR (t := true) (rfl) ?_
      refine wp_seq_k (fun K1012 hK1013 => ?_)
      refine wp_region_lit ?_
      refine stepp ha 2 (.slice none 0 0) KR KR ?_; clear ha a; intro a ha
      refine stepp ha 3 (.int .i64 70) KR KR ?_; clear ha a; intro a ha
      refine endl ?_
      refine thenN (hK1013 _ _ ?_); clear hK1013
      refine wp_ret ?_
      refine thenR ?_
      obtain rfl := Option.some.inj h
      replace HW := HW.nilo 164 3
      exact finv ha _ _ rfl (.tmp (v := .slice none 0 0) KR (.tmp (v := .int .i64 70) KR .nil)) (.tuple #[.slice none 0 0, .int .i64 70]) rfl ⟨none, 0, rfl, HW.pick [] [0] (by decide) (by decide) rfl KR⟩
    · skip
      replace h := ite_neg' h hp1011
      replace ha := ha.bool 23 KR (decide_eq_false hp1011)
      refine stepp ha 24 (.string a0) KR KR ?_; clear ha a; intro a ha
      refine stepp ha 25 (.int .i64 (a0.size : Int)) KR KR ?_; clear ha a; intro a ha
      refine stepp ha 26 (.int .u64 t1002.1) KR KR ?_; clear ha a; intro a ha
      refine stepp ha 27 (.int .i64 (IntKind.wrap .i64 t1002.1)) KR KR ?_; clear ha a; intro a ha
      refine stepp ha 28 (.int .i64 (IntKind.wrap .i64 (12 * (IntKind.wrap .i64 t1002.1)))) KR KR ?_; clear ha a; intro a ha
      refine stepp ha 29 (.int .i64 (IntKind.wrap .i64 (4 + (IntKind.wrap .i64 (12 * (IntKind.wrap .i64 t1002.1)))))) KR KR ?_; clear ha a; intro a ha
      refine stepp ha 30 (.bool ((a0.size : Int) != (IntKind.wrap .i64 (4 + (IntKind.wrap .i64 (12 * (IntKind.wrap .i64 t1002.1))))))) KR KR ?_; clear ha a; intro a ha
      refine stepp ha 31 (.bool ((a0.size : Int) != (IntKind.wrap .i64 (4 + (IntKind.wrap .i64 (12 * (IntKind.wrap .i64 t1002.1))))))) KR KR ?_; clear ha a; intro a ha
      refine endl ?_
      refine thenN (hK1009 _ _ ?_); clear hK1009
      by_cases hp1015 : (a0.size : Int) = (IntKind.wrap .i64 (4 + (IntKind.wrap .i64 (12 * (IntKind.wrap .i64 t1002.1)))))
      · skip
        replace h := ite_pos' h hp1015
        refine condF ha KR KR (t := ((a0.size : Int) != (IntKind.wrap .i64 (4 + (IntKind.wrap .i64 (12 * (IntKind.wrap .i64 t1002.1))))))) (ineq_f hp1015) ?_
        refine wp_skip ?_
        refine thenN (hK1007 _ _ ?_); clear hK1007
        refine wp_seq_k (fun K1022 hK1023 => ?_)
        refine wp_region_lit ?_
        refine stepp ha 6 (.slice none 0 0) KR KR ?_; clear ha a; intro a ha
        refine endl ?_
        refine thenN (hK1023 _ _ ?_); clear hK1023
        refine wp_seq_k (fun K1024 hK1025 => ?_)
        refine wp_seq_k (fun K1026 hK1027 => ?_)
        refine wp_region_lit ?_
        refine stepp ha 32 (.int .u64 t1002.1) KR KR ?_; clear ha a; intro a ha
        refine stepp ha 33 (.int .i64 (IntKind.wrap .i64 t1002.1)) KR KR ?_; clear ha a; intro a ha
        refine stepp ha 34 (.int .i64 0) KR KR ?_; clear ha a; intro a ha
        refine endl ?_
        refine thenN (hK1027 _ _ ?_); clear hK1027
        refine wp_block ?_
        refine loopk (fun k => fun a W1260 => ∃ (x1255 : List T_api_Extent), ∃ A1256, ∃ c1257, ∃ (x1259 : Int), extents_Parse.l0 K a0 t1002 k x1255 x1259 = some r ∧ Has 71 [(0, .string a0), (6, .slice A1256 x1255.length c1257), (33, .int .i64 (IntKind.wrap .i64 t1002.1)), (34, .int .i64 x1259)] a ∧ Wd w W1260 [] [⟨164, 3, .slice A1256 x1255.length c1257, x1255.length, encs T_api_Extent.enc x1255⟩]) K ?_ ?_
        · skip
          replace HW := HW.nilo 164 3
          exact ⟨([] : List T_api_Extent), none, 0, 0, h, ha.sub (subs_cons KR (subs_cons KR (subs_cons KR (subs_cons KR (subs_nil _))))), HW.pick [] [0] (by decide) (by decide) KR KR⟩
        · skip
          intro k a W1260 hI
          obtain ⟨x1255, A1256, c1257, x1259, h, ha, HW⟩ := hI
          cases k with
          | zero => exact (none_some (show none = some r from h)).elim
          | succ k1261 =>
            replace h : extents_Parse.b0 K a0 t1002 (extents_Parse.l0 K a0 t1002 k1261) x1255 x1259 = some r := h
            obtain ⟨again1254, hag1262⟩ : ∃ g_, g_ = extents_Parse.l0 K a0 t1002 k1261 := ⟨_, rfl⟩
            rw [← hag1262] at h
            unfold extents_Parse.b0 at h
            refine wp_seq_k (fun K1263 hK1264 => ?_)
            refine wp_region_lit ?_
            refine stepp ha 35 (.bool (decide (x1259 < (IntKind.wrap .i64 t1002.1)))) KR KR ?_; clear ha a; intro a ha
            refine endl ?_
            refine thenN (hK1264 _ _ ?_); clear hK1264
            refine wp_seq_k (fun K1265 hK1266 => ?_)
            by_cases hp1267 : x1259 < (IntKind.wrap .i64 t1002.1)
            · skip
              replace h := ite_pos' h hp1267
              refine condT ha KR KR (t := decide (x1259 < (IntKind.wrap .i64 t1002.1))) (decide_eq_true hp1267) ?_
              refine wp_skip ?_
              refine thenN (hK1266 _ _ ?_); clear hK1266
              refine wp_seq_k (fun K1268 hK1269 => ?_)
              refine wp_block ?_
              refine wp_seq_k (fun K1270 hK1271 => ?_)
              refine wp_region_lit ?_
              refine stepp ha 36 (.int .i64 x1259) KR KR ?_; clear ha a; intro a ha
              refine stepp ha 7 (.int .i64 x1259) KR KR ?_; clear ha a; intro a ha
              refine endl ?_
              refine thenN (hK1271 _ _ ?_); clear hK1271
              refine wp_seq_k (fun K1272 hK1273 => ?_)
              refine wp_region_lit ?_
              refine stepnew ha HW 8 #[.int .i64 0, .int .i64 0, .int .i64 0] 233 KR KR ?_; clear ha HW a; intro b1274 a W1275 HW ha
              refine endl ?_
              refine thenN (hK1273 _ _ ?_); clear hK1273
              refine wp_seq_k (fun K1276 hK1277 => ?_)
              refine wp_seq_k (fun K1278 hK1279 => ?_)
              refine wp_region_lit ?_
              refine stepp ha 37 (.int .i64 0) KR KR ?_; clear ha a; intro a ha
              refine endl ?_
              refine thenN (hK1279 _ _ ?_); clear hK1279
              refine wp_block ?_
              refine loopk (fun k => fun a W1343 => ∃ (x1339 : Int), ∃ (x1340 : Int), ∃ (x1341 : Int), ∃ (x1342 : Int), extents_Parse.l1 K a0 again1254 x1255 x1259 k x1339 x1340 x1341 x1342 = some r ∧ Has 71 [(0, .string a0), (6, .slice A1256 x1255.length c1257), (7, .int .i64 x1259), (8, .pointer (some ⟨b1274, 0, none⟩)), (33, .int .i64 (IntKind.wrap .i64 t1002.1)), (34, .int .i64 x1259), (37, .int .i64 x1339)] a ∧ Wd w W1343 [(b1274, .cells #[.int .i64 x1340, .int .i64 x1341, .int .i64 x1342] 233 (0, 0))] [⟨164, 3, .slice A1256 x1255.length c1257, x1255.length, encs T_api_Extent.enc x1255⟩]) K ?_ ?_
              · skip
                exact ⟨0, 0, 0, 0, h, ha.sub (subs_cons KR (subs_cons KR (subs_cons KR (subs_cons KR (subs_cons KR (subs_cons KR (subs_cons KR (subs_nil _)))))))), HW.pick [0] [0] (by decide) (by decide) KR KR⟩
              · skip
                intro k a W1343 hI
                obtain ⟨x1339, x1340, x1341, x1342, h, ha, HW⟩ := hI
                cases k with
                | zero => exact (none_some (show none = some r from h)).elim
                | succ k1344 =>
                  replace h : extents_Parse.b1 K a0 again1254 x1255 x1259 (extents_Parse.l1 K a0 again1254 x1255 x1259 k1344) x1339 x1340 x1341 x1342 = some r := h
                  obtain ⟨again1338, hag1345⟩ : ∃ g_, g_ = extents_Parse.l1 K a0 again1254 x1255 x1259 k1344 := ⟨_, rfl⟩
                  rw [← hag1345] at h
                  unfold extents_Parse.b1 at h
                  refine wp_seq_k (fun K1346 hK1347 => ?_)
                  refine wp_region_lit ?_
                  refine stepp ha 38 (.bool (decide (x1339 < 3))) KR KR ?_; clear ha a; intro a ha
                  refine endl ?_
                  refine thenN (hK1347 _ _ ?_); clear hK1347
                  refine wp_seq_k (fun K1348 hK1349 => ?_)
                  by_cases hp1350 : x1339 < 3
                  · skip
                    replace h := ite_pos' h hp1350
                    refine condT ha KR KR (t := decide (x1339 < 3)) (decide_eq_true hp1350) ?_
                    refine wp_skip ?_
                    refine thenN (hK1349 _ _ ?_); clear hK1349
                    refine wp_seq_k (fun K1351 hK1352 => ?_)
                    refine wp_block ?_
                    refine wp_seq_k (fun K1353 hK1354 => ?_)
                    refine wp_region_lit ?_
                    refine stepp ha 39 (.int .i64 x1339) KR KR ?_; clear ha a; intro a ha
                    refine stepp ha 9 (.int .i64 x1339) KR KR ?_; clear ha a; intro a ha
                    refine endl ?_
                    refine thenN (hK1354 _ _ ?_); clear hK1354
                    refine wp_seq_k (fun K1355 hK1356 => ?_)
                    refine wp_region_lit ?_
                    refine stepp ha 41 (.string a0) KR KR ?_; clear ha a; intro a ha
                    refine stepp ha 42 (.int .i64 x1259) KR KR ?_; clear ha a; intro a ha
                    refine stepp ha 43 (.int .i64 (IntKind.wrap .i64 (12 * x1259))) KR KR ?_; clear ha a; intro a ha
                    refine stepp ha 44 (.int .i64 (IntKind.wrap .i64 (4 + (IntKind.wrap .i64 (12 * x1259))))) KR KR ?_; clear ha a; intro a ha
                    refine stepp ha 45 (.int .i64 x1339) KR KR ?_; clear ha a; intro a ha
                    refine stepp ha 46 (.int .i64 (IntKind.wrap .i64 (4 * x1339))) KR KR ?_; clear ha a; intro a ha
                    refine stepp ha 47 (.int .i64 (IntKind.wrap .i64 ((IntKind.wrap .i64 (4 + (IntKind.wrap .i64 (12 * x1259)))) + (IntKind.wrap .i64 (4 * x1339))))) KR KR ?_; clear ha a; intro a ha
                    obtain ⟨t1357, ht1358, h_⟩ := bind_some' h; clear h; have h := h_; clear h_
                    refine stepc ha 48 KR KR (fields_Big.calls K a0 (IntKind.wrap .i64 ((IntKind.wrap .i64 (4 + (IntKind.wrap .i64 (12 * x1259)))) + (IntKind.wrap .i64 (4 * x1339)))) 4 t1357 _ ht1358) ?_; clear ha a; rintro e W1359 ⟨rfl, HX1360⟩
                    refine ⟨_, rfl, ?_⟩; intro a ha; replace HW := HW.callw HX1360; clear HX1360
                    refine stepp ha 40 (.tuple #[.int .u64 t1357.1, .bool t1357.2]) KR KR ?_; clear ha a; intro a ha
                    refine stepp ha 49 (.int .u64 t1357.1) KR KR ?_; clear ha a; intro a ha
                    refine stepp ha 50 (.bool t1357.2) KR KR ?_; clear ha a; intro a ha
                    refine stepp ha 10 (.int .u64 t1357.1) KR KR ?_; clear ha a; intro a ha
                    refine stepp ha 11 (.bool t1357.2) KR KR ?_; clear ha a; intro a ha
                    refine endl ?_
                    refine thenN (hK1356 _ _ ?_); clear hK1356
                    refine wp_region_lit ?_
                    refine stepp ha 51 (.int .i64 x1339) KR KR ?_; clear ha a; intro a ha
                    refine stepp ha 52 (.int .u64 t1357.1) KR KR ?_; clear ha a; intro a ha
                    refine stepp ha 53 (.int .i64 (IntKind.wrap .i64 t1357.1)) KR KR ?_; clear ha a; intro a ha
                    obtain ⟨hA1361, h_⟩ := asrt_some h; clear h; have h := h_; clear h_
                    refine stepiw ha 54 (sz := 1) b1274 0 233 3 3 (.tmp 8) (.tmp 51) .i64 x1339 rfl KR KR KR KR hA1361 hp1350 KR ?_; clear ha a; intro a ha
                    refine stepsn ha HW 0 (b := b1274) (C := #[.int .i64 x1340, .int .i64 x1341, .int .i64 x1342]) (T := 233) KR 3 0 3 (.tmp 54) (.tmp 53) .i64 x1339 (IntKind.wrap .i64 t1357.1) ([x1340, x1341, x1342] : List Int) #[.int .i64 (rdL 0 (([x1340, x1341, x1342] : List Int).set (x1339 : Int).toNat (IntKind.wrap .i64 t1357.1)) 0), .int .i64 (rdL 0 (([x1340, x1341, x1342] : List Int).set (x1339 : Int).toNat (IntKind.wrap .i64 t1357.1)) 1), .int .i64 (rdL 0 (([x1340, x1341, x1342] : List Int).set (x1339 : Int).toNat (IntKind.wrap .i64 t1357.1)) 2)] rfl KR KR KR rfl hA1361 hp1350 KR KR KR KR ?_; clear ha HW a; intro a W1362 HW ha
                    refine endl ?_
                    refine blkN ?_
                    refine thenN (hK1352 _ _ ?_); clear hK1352
                    refine wp_region_lit ?_
                    refine stepp ha 55 (.int .i64 (IntKind.wrap .i64 (x1339 + 1))) KR KR ?_; clear ha a; intro a ha
                    refine stepp ha 37 (.int .i64 (IntKind.wrap .i64 (x1339 + 1))) KR KR ?_; clear ha a; intro a ha
                    refine endl ?_
                    exact thenN ⟨k1344, Nat.lt_succ_self k1344, IntKind.wrap .i64 (x1339 + 1), rdL 0 (([x1340, x1341, x1342] : List Int).set (x1339 : Int).toNat (IntKind.wrap .i64 t1357.1)) 0, rdL 0 (([x1340, x1341, x1342] : List Int).set (x1339 : Int).toNat (IntKind.wrap .i64 t1357.1)) 1, rdL 0 (([x1340, x1341, x1342] : List Int).set (x1339 : Int).toNat (IntKind.wrap .i64 t1357.1)) 2, (by rw [← hag1345]; exact h), ha.sub (subs_cons KR (subs_cons KR (subs_cons KR (subs_cons KR (subs_cons KR (subs_cons KR (subs_cons KR (subs_nil _)))))))), HW.pick [0] [0] (by decide) (by decide) KR KR⟩
                  · skip
                    replace h := ite_neg' h hp1350
                    refine condF ha KR KR (t := decide (x1339 < 3)) (decide_eq_false hp1350) ?_
                    refine wp_exit ?_
                    refine thenE ?_
                    refine thenE ?_
                    refine inBlk ?_
                    refine thenN (hK1277 _ _ ?_); clear hK1277
                    refine wp_region_lit ?_
                    refine stepp ha 56 (.slice A1256 x1255.length c1257) KR KR ?_; clear ha a; intro a ha
                    refine stepp ha 57 (.pointer (some ⟨b1274, 0, none⟩)) KR KR ?_; clear ha a; intro a ha
                    refine stepl ha 58 (HW.ca (i := 0) (b := b1274) (C := #[.int .i64 x1340, .int .i64 x1341, .int .i64 x1342]) (T := 233) (fr := (0, 0)) KR) 3 0 (.tmp 57) (.int .i64 x1340) rfl KR KR KR ?_; clear ha a; intro a ha
                    refine stepp ha 59 (.pointer (some ⟨b1274, 1, none⟩)) KR KR ?_; clear ha a; intro a ha
                    refine stepl ha 60 (HW.ca (i := 0) (b := b1274) (C := #[.int .i64 x1340, .int .i64 x1341, .int .i64 x1342]) (T := 233) (fr := (0, 0)) KR) 3 1 (.tmp 59) (.int .i64 x1341) rfl KR KR KR ?_; clear ha a; intro a ha
                    refine stepp ha 61 (.pointer (some ⟨b1274, 2, none⟩)) KR KR ?_; clear ha a; intro a ha
                    refine stepl ha 62 (HW.ca (i := 0) (b := b1274) (C := #[.int .i64 x1340, .int .i64 x1341, .int .i64 x1342]) (T := 233) (fr := (0, 0)) KR) 3 2 (.tmp 61) (.int .i64 x1342) rfl KR KR KR ?_; clear ha a; intro a ha
                    refine stepp ha 63 (.agg #[.int .i64 x1340, .int .i64 x1341, .int .i64 x1342]) KR KR ?_; clear ha a; intro a ha
                    refine stepbs ha HW 64 164 3 1 #[.int .i64 x1340, .int .i64 x1341, .int .i64 x1342] [.int .i64 x1340, .int .i64 x1341, .int .i64 x1342] (by decide) KR KR KR KR ?_; clear ha HW a; intro b1363 a W1364 HW ha
                    replace HW : Wd w W1364 [(b1274, .cells #[.int .i64 x1340, .int .i64 x1341, .int .i64 x1342] 233 (0, 0))] [⟨164, 3, .slice (some ⟨b1363, 0, none⟩) ([(⟨x1340, x1341, x1342⟩ : T_api_Extent)] : List T_api_Extent).length 1, ([(⟨x1340, x1341, x1342⟩ : T_api_Extent)] : List T_api_Extent).length, encs T_api_Extent.enc ([(⟨x1340, x1341, x1342⟩ : T_api_Extent)] : List T_api_Extent)⟩, ⟨164, 3, .slice A1256 x1255.length c1257, x1255.length, encs T_api_Extent.enc x1255⟩] := HW
                    replace ha := ha.turn 64 (v := .slice (some ⟨b1363, 0, none⟩) ([(⟨x1340, x1341, x1342⟩ : T_api_Extent)] : List T_api_Extent).length 1) KR rfl
                    obtain ⟨hA1366, h_⟩ := asrt_some h; clear h; have h := h_; clear h_
                    refine stepape T_api_Extent.enc ha HW 65 1 156 164 (.tmp 56) (.tmp 64) (.agg #[.int .i64 0, .int .i64 0, .int .i64 0]) 3 24 (.slice A1256 x1255.length c1257) x1255 (.slice (some ⟨b1363, 0, none⟩) ([(⟨x1340, x1341, x1342⟩ : T_api_Extent)] : List T_api_Extent).length 1) ([(⟨x1340, x1341, x1342⟩ : T_api_Extent)] : List T_api_Extent) KR rfl KR KR (HW.rdo (i := 0) (q := ⟨164, 3, .slice (some ⟨b1363, 0, none⟩) ([(⟨x1340, x1341, x1342⟩ : T_api_Extent)] : List T_api_Extent).length 1, ([(⟨x1340, x1341, x1342⟩ : T_api_Extent)] : List T_api_Extent).length, encs T_api_Extent.enc ([(⟨x1340, x1341, x1342⟩ : T_api_Extent)] : List T_api_Extent)⟩) KR) (fun _ => rfl) KR KR KR (by decide) (by have := hA1366; unfold maxLen; omega) (by have := hA1366; omega) KR ?_; clear ha HW a; intro A1367 c1368 a W1369 HW ha
                    refine stepp ha 6 (.slice A1367 (x1255 ++ ([(⟨x1340, x1341, x1342⟩ : T_api_Extent)] : List T_api_Extent)).length c1368) KR KR ?_; clear ha a; intro a ha
                    refine endl ?_
                    refine blkN ?_
                    refine thenN (hK1269 _ _ ?_); clear hK1269
                    refine wp_region_lit ?_
                    refine stepp ha 66 (.int .i64 (IntKind.wrap .i64 (x1259 + 1))) KR KR ?_; clear ha a; intro a ha
                    refine stepp ha 34 (.int .i64 (IntKind.wrap .i64 (x1259 + 1))) KR KR ?_; clear ha a; intro a ha
                    refine endl ?_
                    exact thenN ⟨k1261, Nat.lt_succ_self k1261, x1255 ++ ([(⟨x1340, x1341, x1342⟩ : T_api_Extent)] : List T_api_Extent), A1367, c1368, IntKind.wrap .i64 (x1259 + 1), (by rw [← hag1262]; exact h), ha.sub (subs_cons KR (subs_cons KR (subs_cons KR (subs_cons KR (subs_nil _))))), HW.pick [] [1] (by decide) (by decide) KR KR⟩
            · skip
              replace h := ite_neg' h hp1267
              refine condF ha KR KR (t := decide (x1259 < (IntKind.wrap .i64 t1002.1))) (decide_eq_false hp1267) ?_
              refine wp_exit ?_
              refine thenE ?_
              refine thenE ?_
              refine inBlk ?_
              refine thenN (hK1025 _ _ ?_); clear hK1025
              refine wp_seq_k (fun K1372 hK1373 => ?_)
              refine wp_seq_k (fun K1374 hK1375 => ?_)
              refine wp_region_lit ?_
              refine stepp ha 67 (.slice A1256 x1255.length c1257) KR KR ?_; clear ha a; intro a ha
              obtain ⟨t1376, ht1377, h_⟩ := bind_some' h; clear h; have h := h_; clear h_
              refine stepc ha 68 KR KR (extents_Good.calls K x1255 A1256 c1257 t1376 _ (HW.rdo (i := 0) (q := ⟨164, 3, .slice A1256 x1255.length c1257, x1255.length, encs T_api_Extent.enc x1255⟩) KR) ht1377) ?_; clear ha a; rintro e W1378 ⟨rfl, HX1379⟩
              refine ⟨_, rfl, ?_⟩; intro a ha; replace HW := HW.callw HX1379; clear HX1379
              refine stepp ha 69 (.bool (!t1376)) KR KR ?_; clear ha a; intro a ha
              refine endl ?_
              refine thenN (hK1375 _ _ ?_); clear hK1375
              by_cases hp1380 : t1376 = true
              · skip
                replace h := ite_pos' h hp1380
                refine condF ha KR KR (t := (!t1376)) (not_f (hp1380)) ?_
                refine wp_skip ?_
                refine thenN (hK1373 _ _ ?_); clear hK1373
                refine wp_seq_k (fun K1384 hK1385 => ?_)
                refine wp_region_lit ?_
                refine stepp ha 70 (.slice A1256 x1255.length c1257) KR KR ?_; clear ha a; intro a ha
                refine stepp ha 2 (.slice A1256 x1255.length c1257) KR KR ?_; clear ha a; intro a ha
                refine stepp ha 3 (.int .i64 0) KR KR ?_; clear ha a; intro a ha
                refine endl ?_
                refine thenN (hK1385 _ _ ?_); clear hK1385
                refine wp_ret ?_
                obtain rfl := Option.some.inj h
                exact finv ha _ _ rfl (.tmp (v := .slice A1256 x1255.length c1257) KR (.tmp (v := .int .i64 0) KR .nil)) (.tuple #[.slice A1256 x1255.length c1257, .int .i64 0]) rfl ⟨A1256, c1257, rfl, HW.pick [] [0] (by decide) (by decide) rfl KR⟩
              · skip
                replace h := ite_neg' h hp1380
                refine condT ha KR KR (t := (!t1376)) (not_t (bool_f hp1380)) ?_
                refine wp_seq_k (fun K1381 hK1382 => ?_)
                refine wp_region_lit ?_
                refine stepp ha 2 (.slice none 0 0) KR KR ?_; clear ha a; intro a ha
                refine stepp ha 3 (.int .i64 70) KR KR ?_; clear ha a; intro a ha
                refine endl ?_
                refine thenN (hK1382 _ _ ?_); clear hK1382
                refine wp_ret ?_
                refine thenR ?_
                obtain rfl := Option.some.inj h
                replace HW := HW.nilo 164 3
                exact finv ha _ _ rfl (.tmp (v := .slice none 0 0) KR (.tmp (v := .int .i64 70) KR .nil)) (.tuple #[.slice none 0 0, .int .i64 70]) rfl ⟨none, 0, rfl, HW.pick [] [0] (by decide) (by decide) rfl KR⟩
      · skip
        replace h := ite_neg' h hp1015
        refine condT ha KR KR (t := ((a0.size : Int) != (IntKind.wrap .i64 (4 + (IntKind.wrap .i64 (12 * (IntKind.wrap .i64 t1002.1))))))) (ineq_t hp1015) ?_
        refine wp_seq_k (fun K1016 hK1017 => ?_)
        refine wp_region_lit ?_
        refine stepp ha 2 (.slice none 0 0) KR KR ?_; clear ha a; intro a ha
        refine stepp ha 3 (.int .i64 70) KR KR ?_; clear ha a; intro a ha
        refine endl ?_
        refine thenN (hK1017 _ _ ?_); clear hK1017
        refine wp_ret ?_
        refine thenR ?_
        obtain rfl := Option.some.inj h
        replace HW := HW.nilo 164 3
        exact finv ha _ _ rfl (.tmp (v := .slice none 0 0) KR (.tmp (v := .int .i64 70) KR .nil)) (.tuple #[.slice none 0 0, .int .i64 70]) rfl ⟨none, 0, rfl, HW.pick [] [0] (by decide) (by decide) rfl KR⟩
  · skip
    replace h := ite_neg' h hp1010
    replace ha := ha.bool 19 KR (not_t (bool_f hp1010))
    refine stepo ha 20 KR ?_; clear ha a; intro a ha
    refine stepo ha 21 KR ?_; clear ha a; intro a ha
    refine stepp ha 22 (.bool true) KR KR ?_; clear ha a; intro a ha
    refine stepp ha 23 (.bool true) KR KR ?_; clear ha a; intro a ha
    refine stepo ha 24 KR ?_; clear ha a; intro a ha
    refine stepo ha 25 KR ?_; clear ha a; intro a ha
    refine stepo ha 26 KR ?_; clear ha a; intro a ha
    refine stepo ha 27 KR ?_; clear ha a; intro a ha
    refine stepo ha 28 KR ?_; clear ha a; intro a ha
    refine stepo ha 29 KR ?_; clear ha a; intro a ha
    refine stepo ha 30 KR ?_; clear ha a; intro a ha
    refine stepp ha 31 (.bool true) KR KR ?_; clear ha a; intro a ha
    refine endl ?_
    refine thenN (hK1009 _ _ ?_); clear hK1009
    refine condT ha KR KR (t := true) (rfl) ?_
    refine wp_seq_k (fun K1019 hK1020 => ?_)
    refine wp_region_lit ?_
    refine stepp ha 2 (.slice none 0 0) KR KR ?_; clear ha a; intro a ha
    refine stepp ha 3 (.int .i64 70) KR KR ?_; clear ha a; intro a ha
    refine endl ?_
    refine thenN (hK1020 _ _ ?_); clear hK1020
    refine wp_ret ?_
    refine thenR ?_
    obtain rfl := Option.some.inj h
    replace HW := HW.nilo 164 3
    exact finv ha _ _ rfl (.tmp (v := .slice none 0 0) KR (.tmp (v := .int .i64 70) KR .nil)) (.tuple #[.slice none 0 0, .int .i64 70]) rfl ⟨none, 0, rfl, HW.pick [] [0] (by decide) (by decide) rfl KR⟩
/-! ### headgate/store.head: function 84 -/
def store_head.f (a0 : Int) (a1 : Int) : Option ByteArray :=
  some (strOfNums ([a0, IntKind.wrap .u8 a1] : List Int))
set_option maxRecDepth 100000 in
set_option maxHeartbeats 4000000 in
theorem store_head.calls (a0 : Int) (a1 : Int)  (r : ByteArray) (w : World)  (h : store_head.f a0 a1 = some r) :
    Calls Tryz.prog 84 #[.int .u8 a0, .int .i64 a1] w (fun e W' => e = .returned (.string r) ∧ Wd w W' [] [] ) := by
  refine sxstart (n := 10) (l := [(0, .int .u8 a0), (1, .int .i64 a1)]) Tryz.func84 rfl rfl (Nat.le_of_ble_eq_true KR) (subsA_cons rfl (subsA_cons rfl (subsA_nil _))) ?_
  intro a ha
  have HW := Wd.refl w
  unfold store_head.f at h
  refine wp_seq_k (fun K1386 hK1387 => ?_)
  refine wp_region_lit ?_
  refine stepp ha 4 (.string (⟨#[]⟩ : ByteArray)) KR KR ?_; clear ha a; intro a ha
  refine endl ?_
  refine thenN (hK1387 _ _ ?_); clear hK1387
  refine wp_seq_k (fun K1388 hK1389 => ?_)
  refine wp_region_lit ?_
  refine stepp ha 5 (.int .u8 a0) KR KR ?_; clear ha a; intro a ha
  refine stepp ha 6 (.int .i64 a1) KR KR ?_; clear ha a; intro a ha
  refine stepp ha 7 (.int .u8 (IntKind.wrap .u8 a1)) KR KR ?_; clear ha a; intro a ha
  refine stepbs ha HW 8 5 1 2 #[.int .u8 a0, .int .u8 (IntKind.wrap .u8 a1)] [.int .u8 a0, .int .u8 (IntKind.wrap .u8 a1)] (by decide) KR KR KR KR ?_; clear ha HW a; intro b1390 a W1391 HW ha
  replace HW : Wd w W1391 [] [⟨5, 1, .slice (some ⟨b1390, 0, none⟩) ([a0, IntKind.wrap .u8 a1] : List Int).length 2, ([a0, IntKind.wrap .u8 a1] : List Int).length, encs (encI .u8) ([a0, IntKind.wrap .u8 a1] : List Int)⟩] := HW
  replace ha := ha.turn 8 (v := .slice (some ⟨b1390, 0, none⟩) ([a0, IntKind.wrap .u8 a1] : List Int).length 2) KR rfl
  refine stepbt ha 9 105 9 5 (.tmp 8) (v := .slice (some ⟨b1390, 0, none⟩) ([a0, IntKind.wrap .u8 a1] : List Int).length 2) (xs := ([a0, IntKind.wrap .u8 a1] : List Int)) (HW.rdo (i := 0) (q := ⟨5, 1, .slice (some ⟨b1390, 0, none⟩) ([a0, IntKind.wrap .u8 a1] : List Int).length 2, ([a0, IntKind.wrap .u8 a1] : List Int).length, encs (encI .u8) ([a0, IntKind.wrap .u8 a1] : List Int)⟩) KR) rfl KR KR KR KR KR ?_; clear ha a; intro a ha
  refine stepp ha 4 (.string (strOfNums ([a0, IntKind.wrap .u8 a1] : List Int))) KR KR ?_; clear ha a; intro a ha
  refine endl ?_
  refine thenN (hK1389 _ _ ?_); clear hK1389
  refine wp_ret ?_
  obtain rfl := Option.some.inj h
  exact finv ha _ _ rfl (.tmp (v := .string (strOfNums ([a0, IntKind.wrap .u8 a1] : List Int))) KR .nil) (.string (strOfNums ([a0, IntKind.wrap .u8 a1] : List Int))) rfl ⟨rfl, HW.pick [] [] (by decide) (by decide) rfl KR⟩
/-! ### (headgate/cache.change).blocks: function 107 -/
def cache_change_blocks.b0 (K : Nat) (a0 : T_cache_change) (again1439 : Int → Int → Option Int) (x1440 : Int) (x1441 : Int) : Option Int :=
  if x1441 < (a0.f3.length : Int) then (asrt (0 ≤ x1441) (again1439 (IntKind.wrap .i64 (x1440 + ((rdL T_api_Range.z a0.f3 x1441).f1))) (IntKind.wrap .i64 (x1441 + 1)))) else (some x1440)
def cache_change_blocks.l0 (K : Nat) (a0 : T_cache_change) : Nat → Int → Int → Option Int
  | 0, _, _ => none
  | k_ + 1, x1440, x1441 => cache_change_blocks.b0 K a0 (cache_change_blocks.l0 K a0 k_) x1440 x1441
def cache_change_blocks.f (K : Nat) (a0 : T_cache_change) : Option Int :=
  cache_change_blocks.l0 K a0 K (IntKind.wrap .i64 (Int.tdiv (a0.f2.size : Int) 512)) 0
set_option maxRecDepth 100000 in
set_option maxHeartbeats 4000000 in
theorem cache_change_blocks.calls (K : Nat) (a0 : T_cache_change) (A0_0 : Option Addr) (c0_0 : Nat) (r : Int) (w : World) (hr0_0 : Rd 2 w (.slice A0_0 a0.f3.length c0_0) a0.f3.length (encs T_api_Range.enc a0.f3)) (h : cache_change_blocks.f K a0 = some r) :
    Calls Tryz.prog 107 #[.agg #[.int .i64 a0.f0, .int .i64 a0.f1, .string a0.f2, .slice A0_0 a0.f3.length c0_0]] w (fun e W' => e = .returned (.int .i64 r) ∧ Wd w W' [] [] ) := by
  refine sxstart (n := 23) (l := [(0, .agg #[.int .i64 a0.f0, .int .i64 a0.f1, .string a0.f2, .slice A0_0 a0.f3.length c0_0])]) Tryz.func107 rfl rfl (Nat.le_of_ble_eq_true KR) (subsA_cons rfl (subsA_nil _)) ?_
  intro a ha
  have HW := Wd.refl w
  unfold cache_change_blocks.f at h
  refine wp_seq_k (fun K1393 hK1394 => ?_)
  refine wp_region_lit ?_
  refine stepnew ha HW 1 #[.int .i64 a0.f0, .int .i64 a0.f1, .string a0.f2, .slice A0_0 a0.f3.length c0_0] 128 KR KR ?_; clear ha HW a; intro b1395 a W1396 HW ha
  refine stepp ha 2 (.int .i64 0) KR KR ?_; clear ha a; intro a ha
  refine endl ?_
  refine thenN (hK1394 _ _ ?_); clear hK1394
  refine wp_seq_k (fun K1397 hK1398 => ?_)
  refine wp_region_lit ?_
  refine stepp ha 6 (.pointer (some ⟨b1395, 2, none⟩)) KR KR ?_; clear ha a; intro a ha
  refine stepl ha 7 (HW.ca (i := 0) (b := b1395) (C := #[.int .i64 a0.f0, .int .i64 a0.f1, .string a0.f2, .slice A0_0 a0.f3.length c0_0]) (T := 128) (fr := (0, 0)) KR) 9 2 (.tmp 6) (.string a0.f2) rfl KR KR KR ?_; clear ha a; intro a ha
  refine stepp ha 8 (.int .i64 (a0.f2.size : Int)) KR KR ?_; clear ha a; intro a ha
  refine stepp ha 9 (.int .i64 (IntKind.wrap .i64 (Int.tdiv (a0.f2.size : Int) 512))) KR KR ?_; clear ha a; intro a ha
  refine stepp ha 3 (.int .i64 (IntKind.wrap .i64 (Int.tdiv (a0.f2.size : Int) 512))) KR KR ?_; clear ha a; intro a ha
  refine endl ?_
  refine thenN (hK1398 _ _ ?_); clear hK1398
  refine wp_seq_k (fun K1399 hK1400 => ?_)
  refine wp_seq_k (fun K1401 hK1402 => ?_)
  refine wp_region_lit ?_
  refine stepp ha 10 (.pointer (some ⟨b1395, 3, none⟩)) KR KR ?_; clear ha a; intro a ha
  refine stepl ha 11 (HW.ca (i := 0) (b := b1395) (C := #[.int .i64 a0.f0, .int .i64 a0.f1, .string a0.f2, .slice A0_0 a0.f3.length c0_0]) (T := 128) (fr := (0, 0)) KR) 33 3 (.tmp 10) (.slice A0_0 a0.f3.length c0_0) rfl KR KR KR ?_; clear ha a; intro a ha
  refine stepp ha 12 (.int .i64 (a0.f3.length : Int)) KR KR ?_; clear ha a; intro a ha
  refine stepp ha 13 (.int .i64 0) KR KR ?_; clear ha a; intro a ha
  refine endl ?_
  refine thenN (hK1402 _ _ ?_); clear hK1402
  refine wp_block ?_
  refine loopk (fun k => fun a W1442 => ∃ (x1440 : Int), ∃ (x1441 : Int), cache_change_blocks.l0 K a0 k x1440 x1441 = some r ∧ Has 23 [(3, .int .i64 x1440), (11, .slice A0_0 a0.f3.length c0_0), (12, .int .i64 (a0.f3.length : Int)), (13, .int .i64 x1441)] a ∧ Wd w W1442 [] []) K ?_ ?_
  · skip
    exact ⟨IntKind.wrap .i64 (Int.tdiv (a0.f2.size : Int) 512), 0, h, ha.sub (subs_cons KR (subs_cons KR (subs_cons KR (subs_cons KR (subs_nil _))))), HW.pick [] [] (by decide) (by decide) KR KR⟩
  · skip
    intro k a W1442 hI
    obtain ⟨x1440, x1441, h, ha, HW⟩ := hI
    cases k with
    | zero => exact (none_some (show none = some r from h)).elim
    | succ k1443 =>
      replace h : cache_change_blocks.b0 K a0 (cache_change_blocks.l0 K a0 k1443) x1440 x1441 = some r := h
      obtain ⟨again1439, hag1444⟩ : ∃ g_, g_ = cache_change_blocks.l0 K a0 k1443 := ⟨_, rfl⟩
      rw [← hag1444] at h
      unfold cache_change_blocks.b0 at h
      refine wp_seq_k (fun K1445 hK1446 => ?_)
      refine wp_region_lit ?_
      refine stepp ha 14 (.bool (decide (x1441 < (a0.f3.length : Int)))) KR KR ?_; clear ha a; intro a ha
      refine endl ?_
      refine thenN (hK1446 _ _ ?_); clear hK1446
      refine wp_seq_k (fun K1447 hK1448 => ?_)
      by_cases hp1449 : x1441 < (a0.f3.length : Int)
      · skip
        replace h := ite_pos' h hp1449
        refine condT ha KR KR (t := decide (x1441 < (a0.f3.length : Int))) (decide_eq_true hp1449) ?_
        refine wp_skip ?_
        refine thenN (hK1448 _ _ ?_); clear hK1448
        refine wp_seq_k (fun K1450 hK1451 => ?_)
        refine wp_block ?_
        refine wp_seq_k (fun K1452 hK1453 => ?_)
        refine wp_region_lit ?_
        obtain ⟨hA1454, h_⟩ := asrt_some h; clear h; have h := h_; clear h_
        refine stepie T_api_Range.enc T_api_Range.z ha 15 (fun _ => rfl) (v := .slice A0_0 a0.f3.length c0_0) (xs := a0.f3) ((HW.rd0 hr0_0)) 33 72 (.tmp 11) (.tmp 13) .i64 x1441 rfl KR KR KR KR hA1454 (show (x1441 : Int) < ((a0.f3).length : Int) from hp1449) KR ?_; clear ha a; intro b1455 off1456 a hC1457 ha
        refine stepl ha 16 hC1457 72 0 (.tmp 15) (.agg #[.int .i64 ((rdL T_api_Range.z a0.f3 x1441).f0), .int .i64 ((rdL T_api_Range.z a0.f3 x1441).f1)]) rfl KR KR KR ?_; clear ha a; intro a ha
        refine stepnew ha HW 5 #[.int .i64 0, .int .i64 0] 72 KR KR ?_; clear ha HW a; intro b1458 a W1459 HW ha
        refine stepst ha HW 0 (b := b1458) (C := #[.int .i64 0, .int .i64 0]) (T := 72) KR 72 0 (.tmp 5) (.tmp 16) (.agg #[.int .i64 ((rdL T_api_Range.z a0.f3 x1441).f0), .int .i64 ((rdL T_api_Range.z a0.f3 x1441).f1)]) #[.int .i64 ((rdL T_api_Range.z a0.f3 x1441).f0), .int .i64 ((rdL T_api_Range.z a0.f3 x1441).f1)] rfl KR KR KR KR KR KR KR ?_; clear ha HW a; intro a W1460 HW ha
        refine endl ?_
        refine thenN (hK1453 _ _ ?_); clear hK1453
        refine wp_region_lit ?_
        refine stepp ha 17 (.int .i64 x1440) KR KR ?_; clear ha a; intro a ha
        refine stepp ha 18 (.pointer (some ⟨b1458, 1, none⟩)) KR KR ?_; clear ha a; intro a ha
        refine stepl ha 19 (HW.ca (i := 0) (b := b1458) (C := #[.int .i64 ((rdL T_api_Range.z a0.f3 x1441).f0), .int .i64 ((rdL T_api_Range.z a0.f3 x1441).f1)]) (T := 72) (fr := (0, 0)) KR) 3 1 (.tmp 18) (.int .i64 ((rdL T_api_Range.z a0.f3 x1441).f1)) rfl KR KR KR ?_; clear ha a; intro a ha
        refine stepp ha 20 (.int .i64 (IntKind.wrap .i64 (x1440 + ((rdL T_api_Range.z a0.f3 x1441).f1)))) KR KR ?_; clear ha a; intro a ha
        refine stepp ha 3 (.int .i64 (IntKind.wrap .i64 (x1440 + ((rdL T_api_Range.z a0.f3 x1441).f1)))) KR KR ?_; clear ha a; intro a ha
        refine endl ?_
        refine blkN ?_
        refine thenN (hK1451 _ _ ?_); clear hK1451
        refine wp_region_lit ?_
        refine stepp ha 21 (.int .i64 (IntKind.wrap .i64 (x1441 + 1))) KR KR ?_; clear ha a; intro a ha
        refine stepp ha 13 (.int .i64 (IntKind.wrap .i64 (x1441 + 1))) KR KR ?_; clear ha a; intro a ha
        refine endl ?_
        exact thenN ⟨k1443, Nat.lt_succ_self k1443, IntKind.wrap .i64 (x1440 + ((rdL T_api_Range.z a0.f3 x1441).f1)), IntKind.wrap .i64 (x1441 + 1), (by rw [← hag1444]; exact h), ha.sub (subs_cons KR (subs_cons KR (subs_cons KR (subs_cons KR (subs_nil _))))), HW.pick [] [] (by decide) (by decide) KR KR⟩
      · skip
        replace h := ite_neg' h hp1449
        refine condF ha KR KR (t := decide (x1441 < (a0.f3.length : Int))) (decide_eq_false hp1449) ?_
        refine wp_exit ?_
        refine thenE ?_
        refine thenE ?_
        refine inBlk ?_
        refine thenN (hK1400 _ _ ?_); clear hK1400
        refine wp_seq_k (fun K1461 hK1462 => ?_)
        refine wp_region_lit ?_
        refine stepp ha 22 (.int .i64 x1440) KR KR ?_; clear ha a; intro a ha
        refine stepp ha 2 (.int .i64 x1440) KR KR ?_; clear ha a; intro a ha
        refine endl ?_
        refine thenN (hK1462 _ _ ?_); clear hK1462
        refine wp_ret ?_
        obtain rfl := Option.some.inj h
        exact finv ha _ _ rfl (.tmp (v := .int .i64 x1440) KR .nil) (.int .i64 x1440) rfl ⟨rfl, HW.pick [] [] (by decide) (by decide) rfl KR⟩
/-! ### headgate/headgatekeep.Block: function 40 -/
def headgatekeep_Block.b0 (K : Nat) (a0 : Int) (again1503 : (List Int) → Int → Option ByteArray) (x1504 : List Int) (x1508 : Int) : Option ByteArray :=
  if x1508 < (x1504.length : Int) then (asrt (0 ≤ x1508) (again1503 (x1504.set (x1508 : Int).toNat a0) (IntKind.wrap .i64 (x1508 + 1)))) else (some (strOfNums x1504))
def headgatekeep_Block.l0 (K : Nat) (a0 : Int) : Nat → (List Int) → Int → Option ByteArray
  | 0, _, _ => none
  | k_ + 1, x1504, x1508 => headgatekeep_Block.b0 K a0 (headgatekeep_Block.l0 K a0 k_) x1504 x1508
def headgatekeep_Block.f (K : Nat) (a0 : Int) : Option ByteArray :=
  headgatekeep_Block.l0 K a0 K (List.replicate (512 : Int).toNat (0 : Int)) 0
set_option maxRecDepth 100000 in
set_option maxHeartbeats 4000000 in
theorem headgatekeep_Block.calls (K : Nat) (a0 : Int)  (r : ByteArray) (w : World)  (h : headgatekeep_Block.f K a0 = some r) :
    Calls Tryz.prog 40 #[.int .u8 a0] w (fun e W' => e = .returned (.string r) ∧ Wd w W' [] [] ) := by
  refine sxstart (n := 18) (l := [(0, .int .u8 a0)]) Tryz.func40 rfl rfl (Nat.le_of_ble_eq_true KR) (subsA_cons rfl (subsA_nil _)) ?_
  intro a ha
  have HW := Wd.refl w
  unfold headgatekeep_Block.f at h
  refine wp_seq_k (fun K1463 hK1464 => ?_)
  refine wp_region_lit ?_
  refine stepp ha 2 (.string (⟨#[]⟩ : ByteArray)) KR KR ?_; clear ha a; intro a ha
  refine endl ?_
  refine thenN (hK1464 _ _ ?_); clear hK1464
  refine wp_seq_k (fun K1465 hK1466 => ?_)
  refine wp_region_lit ?_
  refine stepmk (encI .u8) (0 : Int) ha HW 5 105 5 (.const (.int .i64 512)) (.const (.int .i64 512)) .i64 .i64 512 (.int .u8 0) 1 rfl KR KR KR KR rfl rfl (by decide) (by have := (show (512 : Int) ≤ 281474976710656 by decide); omega) (by have := (show (512 : Int) ≤ 281474976710656 by decide); omega) KR ?_; clear ha HW a; intro b1467 a W1468 HW ha
  refine stepp ha 3 (.slice (some ⟨b1467, 0, none⟩) (List.replicate (512 : Int).toNat (0 : Int)).length ((512 : Int).toNat)) KR KR ?_; clear ha a; intro a ha
  refine endl ?_
  refine thenN (hK1466 _ _ ?_); clear hK1466
  refine wp_seq_k (fun K1470 hK1471 => ?_)
  refine wp_seq_k (fun K1472 hK1473 => ?_)
  refine wp_region_lit ?_
  refine stepp ha 4 (.int .i64 0) KR KR ?_; clear ha a; intro a ha
  refine endl ?_
  refine thenN (hK1473 _ _ ?_); clear hK1473
  refine wp_block ?_
  refine loopk (fun k => fun a W1509 => ∃ (x1504 : List Int), ∃ A1505, ∃ c1506, ∃ (x1508 : Int), headgatekeep_Block.l0 K a0 k x1504 x1508 = some r ∧ Has 18 [(0, .int .u8 a0), (3, .slice A1505 x1504.length c1506), (4, .int .i64 x1508)] a ∧ Wd w W1509 [] [⟨5, 1, .slice A1505 x1504.length c1506, x1504.length, encs (encI .u8) x1504⟩]) K ?_ ?_
  · skip
    exact ⟨List.replicate (512 : Int).toNat (0 : Int), some ⟨b1467, 0, none⟩, (512 : Int).toNat, 0, h, ha.sub (subs_cons KR (subs_cons KR (subs_cons KR (subs_nil _)))), HW.pick [] [0] (by decide) (by decide) KR KR⟩
  · skip
    intro k a W1509 hI
    obtain ⟨x1504, A1505, c1506, x1508, h, ha, HW⟩ := hI
    cases k with
    | zero => exact (none_some (show none = some r from h)).elim
    | succ k1510 =>
      replace h : headgatekeep_Block.b0 K a0 (headgatekeep_Block.l0 K a0 k1510) x1504 x1508 = some r := h
      obtain ⟨again1503, hag1511⟩ : ∃ g_, g_ = headgatekeep_Block.l0 K a0 k1510 := ⟨_, rfl⟩
      rw [← hag1511] at h
      unfold headgatekeep_Block.b0 at h
      refine wp_seq_k (fun K1512 hK1513 => ?_)
      refine wp_seq_k (fun K1514 hK1515 => ?_)
      refine wp_region_lit ?_
      refine stepp ha 6 (.int .i64 x1508) KR KR ?_; clear ha a; intro a ha
      refine stepp ha 7 (.slice A1505 x1504.length c1506) KR KR ?_; clear ha a; intro a ha
      refine stepp ha 8 (.int .i64 (x1504.length : Int)) KR KR ?_; clear ha a; intro a ha
      refine stepp ha 9 (.bool (decide (x1508 < (x1504.length : Int)))) KR KR ?_; clear ha a; intro a ha
      refine endl ?_
      refine thenN (hK1515 _ _ ?_); clear hK1515
      by_cases hp1516 : x1508 < (x1504.length : Int)
      · skip
        replace h := ite_pos' h hp1516
        refine condT ha KR KR (t := decide (x1508 < (x1504.length : Int))) (decide_eq_true hp1516) ?_
        refine wp_skip ?_
        refine thenN (hK1513 _ _ ?_); clear hK1513
        refine wp_seq_k (fun K1517 hK1518 => ?_)
        refine wp_block ?_
        refine wp_region_lit ?_
        refine stepp ha 12 (.slice A1505 x1504.length c1506) KR KR ?_; clear ha a; intro a ha
        refine stepp ha 13 (.int .i64 x1508) KR KR ?_; clear ha a; intro a ha
        refine stepp ha 14 (.int .u8 a0) KR KR ?_; clear ha a; intro a ha
        obtain ⟨hA1519, h_⟩ := asrt_some h; clear h; have h := h_; clear h_
        refine stepio (encI .u8) ha HW 15 0 (sz := 1) (e := 5) (v := .slice A1505 x1504.length c1506) (xs := x1504) KR 105 (.tmp 12) (.tmp 13) .i64 x1508 rfl KR KR KR KR hA1519 (show (x1508 : Int) < ((x1504).length : Int) from hp1516) KR ?_; clear ha a; intro b1520 a hb1521 ha
        refine stepos (encI .u8) (0 : Int) ha HW 0 (sz := 1) (e := 5) (fun _ => rfl) (v := .slice A1505 x1504.length c1506) (xs := x1504) KR hb1521 x1508 hA1519 (show (x1508 : Int) < ((x1504).length : Int) from hp1516) 5 0 (.tmp 15) (.tmp 14) (.int .u8 a0) a0 rfl KR KR KR KR KR KR KR (.slice A1505 (x1504.set (x1508 : Int).toNat a0).length c1506) (by rw [List.length_set]) ?_; clear ha HW a; intro a W1522 HW ha
        replace ha := ha.turn 3 (v := .slice A1505 (x1504.set (x1508 : Int).toNat a0).length c1506) KR (by rw [List.length_set])
        replace ha := ha.turn 7 (v := .slice A1505 (x1504.set (x1508 : Int).toNat a0).length c1506) KR (by rw [List.length_set])
        replace ha := ha.turn 12 (v := .slice A1505 (x1504.set (x1508 : Int).toNat a0).length c1506) KR (by rw [List.length_set])
        replace HW : Wd w W1522 [] [⟨5, 1, .slice A1505 (x1504.set (x1508 : Int).toNat a0).length c1506, (x1504.set (x1508 : Int).toNat a0).length, encs (encI .u8) (x1504.set (x1508 : Int).toNat a0)⟩] := HW
        refine endl ?_
        refine blkN ?_
        refine thenN (hK1518 _ _ ?_); clear hK1518
        refine wp_region_lit ?_
        refine stepp ha 10 (.int .i64 x1508) KR KR ?_; clear ha a; intro a ha
        refine stepp ha 11 (.int .i64 (IntKind.wrap .i64 (x1508 + 1))) KR KR ?_; clear ha a; intro a ha
        refine stepp ha 4 (.int .i64 (IntKind.wrap .i64 (x1508 + 1))) KR KR ?_; clear ha a; intro a ha
        refine endl ?_
        exact thenN ⟨k1510, Nat.lt_succ_self k1510, x1504.set (x1508 : Int).toNat a0, A1505, c1506, IntKind.wrap .i64 (x1508 + 1), (by rw [← hag1511]; exact h), ha.sub (subs_cons KR (subs_cons KR (subs_cons KR (subs_nil _)))), HW.pick [] [0] (by decide) (by decide) KR KR⟩
      · skip
        replace h := ite_neg' h hp1516
        refine condF ha KR KR (t := decide (x1508 < (x1504.length : Int))) (decide_eq_false hp1516) ?_
        refine wp_exit ?_
        refine thenE ?_
        refine thenE ?_
        refine inBlk ?_
        refine thenN (hK1471 _ _ ?_); clear hK1471
        refine wp_seq_k (fun K1523 hK1524 => ?_)
        refine wp_region_lit ?_
        refine stepp ha 16 (.slice A1505 x1504.length c1506) KR KR ?_; clear ha a; intro a ha
        refine stepbt ha 17 105 9 5 (.tmp 16) (v := .slice A1505 x1504.length c1506) (xs := x1504) (HW.rdo (i := 0) (q := ⟨5, 1, .slice A1505 x1504.length c1506, x1504.length, encs (encI .u8) x1504⟩) KR) rfl KR KR KR KR KR ?_; clear ha a; intro a ha
        refine stepp ha 2 (.string (strOfNums x1504)) KR KR ?_; clear ha a; intro a ha
        refine endl ?_
        refine thenN (hK1524 _ _ ?_); clear hK1524
        refine wp_ret ?_
        obtain rfl := Option.some.inj h
        exact finv ha _ _ rfl (.tmp (v := .string (strOfNums x1504)) KR .nil) (.string (strOfNums x1504)) rfl ⟨rfl, HW.pick [] [] (by decide) (by decide) rfl KR⟩
/-! ### headgate/headgatelaw08.Fill: function 33 -/
def headgatelaw08_Fill.b0 (K : Nat) (a0 : Int) (a1 : Int) (again1561 : ByteArray → Int → Option ByteArray) (x1562 : ByteArray) (x1563 : Int) : Option ByteArray :=
  if x1563 < a0 then ((headgatekeep_Block.f K (IntKind.wrap .u8 (a1 + (IntKind.wrap .u8 x1563)))).bind fun t1574 => (asrt (x1562.size + t1574.size ≤ 9223372036854775807) (again1561 (x1562 ++ t1574) (IntKind.wrap .i64 (x1563 + 1))))) else (some x1562)
def headgatelaw08_Fill.l0 (K : Nat) (a0 : Int) (a1 : Int) : Nat → ByteArray → Int → Option ByteArray
  | 0, _, _ => none
  | k_ + 1, x1562, x1563 => headgatelaw08_Fill.b0 K a0 a1 (headgatelaw08_Fill.l0 K a0 a1 k_) x1562 x1563
def headgatelaw08_Fill.f (K : Nat) (a0 : Int) (a1 : Int) : Option ByteArray :=
  headgatelaw08_Fill.l0 K a0 a1 K (⟨#[]⟩ : ByteArray) 0
set_option maxRecDepth 100000 in
set_option maxHeartbeats 4000000 in
theorem headgatelaw08_Fill.calls (K : Nat) (a0 : Int) (a1 : Int)  (r : ByteArray) (w : World)  (h : headgatelaw08_Fill.f K a0 a1 = some r) :
    Calls Tryz.prog 33 #[.int .i64 a0, .int .u8 a1] w (fun e W' => e = .returned (.string r) ∧ Wd w W' [] [] ) := by
  refine sxstart (n := 20) (l := [(0, .int .i64 a0), (1, .int .u8 a1)]) Tryz.func33 rfl rfl (Nat.le_of_ble_eq_true KR) (subsA_cons rfl (subsA_cons rfl (subsA_nil _))) ?_
  intro a ha
  have HW := Wd.refl w
  unfold headgatelaw08_Fill.f at h
  refine wp_seq_k (fun K1525 hK1526 => ?_)
  refine wp_region_lit ?_
  refine stepp ha 4 (.string (⟨#[]⟩ : ByteArray)) KR KR ?_; clear ha a; intro a ha
  refine endl ?_
  refine thenN (hK1526 _ _ ?_); clear hK1526
  refine wp_seq_k (fun K1527 hK1528 => ?_)
  refine wp_region_lit ?_
  refine stepp ha 5 (.string (⟨#[]⟩ : ByteArray)) KR KR ?_; clear ha a; intro a ha
  refine endl ?_
  refine thenN (hK1528 _ _ ?_); clear hK1528
  refine wp_seq_k (fun K1529 hK1530 => ?_)
  refine wp_seq_k (fun K1531 hK1532 => ?_)
  refine wp_region_lit ?_
  refine stepp ha 6 (.int .i64 0) KR KR ?_; clear ha a; intro a ha
  refine endl ?_
  refine thenN (hK1532 _ _ ?_); clear hK1532
  refine wp_block ?_
  refine loopk (fun k => fun a W1564 => ∃ (x1562 : ByteArray), ∃ (x1563 : Int), headgatelaw08_Fill.l0 K a0 a1 k x1562 x1563 = some r ∧ Has 20 [(0, .int .i64 a0), (1, .int .u8 a1), (5, .string x1562), (6, .int .i64 x1563)] a ∧ Wd w W1564 [] []) K ?_ ?_
  · skip
    exact ⟨(⟨#[]⟩ : ByteArray), 0, h, ha.sub (subs_cons KR (subs_cons KR (subs_cons KR (subs_cons KR (subs_nil _))))), HW.pick [] [] (by decide) (by decide) KR KR⟩
  · skip
    intro k a W1564 hI
    obtain ⟨x1562, x1563, h, ha, HW⟩ := hI
    cases k with
    | zero => exact (none_some (show none = some r from h)).elim
    | succ k1565 =>
      replace h : headgatelaw08_Fill.b0 K a0 a1 (headgatelaw08_Fill.l0 K a0 a1 k1565) x1562 x1563 = some r := h
      obtain ⟨again1561, hag1566⟩ : ∃ g_, g_ = headgatelaw08_Fill.l0 K a0 a1 k1565 := ⟨_, rfl⟩
      rw [← hag1566] at h
      unfold headgatelaw08_Fill.b0 at h
      refine wp_seq_k (fun K1567 hK1568 => ?_)
      refine wp_seq_k (fun K1569 hK1570 => ?_)
      refine wp_region_lit ?_
      refine stepp ha 7 (.int .i64 x1563) KR KR ?_; clear ha a; intro a ha
      refine stepp ha 8 (.int .i64 a0) KR KR ?_; clear ha a; intro a ha
      refine stepp ha 9 (.bool (decide (x1563 < a0))) KR KR ?_; clear ha a; intro a ha
      refine endl ?_
      refine thenN (hK1570 _ _ ?_); clear hK1570
      by_cases hp1571 : x1563 < a0
      · skip
        replace h := ite_pos' h hp1571
        refine condT ha KR KR (t := decide (x1563 < a0)) (decide_eq_true hp1571) ?_
        refine wp_skip ?_
        refine thenN (hK1568 _ _ ?_); clear hK1568
        refine wp_seq_k (fun K1572 hK1573 => ?_)
        refine wp_block ?_
        refine wp_region_lit ?_
        refine stepp ha 12 (.string x1562) KR KR ?_; clear ha a; intro a ha
        refine stepp ha 13 (.int .u8 a1) KR KR ?_; clear ha a; intro a ha
        refine stepp ha 14 (.int .i64 x1563) KR KR ?_; clear ha a; intro a ha
        refine stepp ha 15 (.int .u8 (IntKind.wrap .u8 x1563)) KR KR ?_; clear ha a; intro a ha
        refine stepp ha 16 (.int .u8 (IntKind.wrap .u8 (a1 + (IntKind.wrap .u8 x1563)))) KR KR ?_; clear ha a; intro a ha
        obtain ⟨t1574, ht1575, h_⟩ := bind_some' h; clear h; have h := h_; clear h_
        refine stepc ha 17 KR KR (headgatekeep_Block.calls K (IntKind.wrap .u8 (a1 + (IntKind.wrap .u8 x1563))) t1574 _ ht1575) ?_; clear ha a; rintro e W1576 ⟨rfl, HX1577⟩
        refine ⟨_, rfl, ?_⟩; intro a ha; replace HW := HW.callw HX1577; clear HX1577
        obtain ⟨hA1578, h_⟩ := asrt_some h; clear h; have h := h_; clear h_
        refine stepsa ha 18 9 9 (.tmp 12) (.tmp 17) x1562 t1574 rfl KR KR (show (x1562).size + (t1574).size ≤ 9223372036854775807 from hA1578) KR ?_; clear ha a; intro a ha
        refine stepp ha 5 (.string (x1562 ++ t1574)) KR KR ?_; clear ha a; intro a ha
        refine endl ?_
        refine blkN ?_
        refine thenN (hK1573 _ _ ?_); clear hK1573
        refine wp_region_lit ?_
        refine stepp ha 10 (.int .i64 x1563) KR KR ?_; clear ha a; intro a ha
        refine stepp ha 11 (.int .i64 (IntKind.wrap .i64 (x1563 + 1))) KR KR ?_; clear ha a; intro a ha
        refine stepp ha 6 (.int .i64 (IntKind.wrap .i64 (x1563 + 1))) KR KR ?_; clear ha a; intro a ha
        refine endl ?_
        exact thenN ⟨k1565, Nat.lt_succ_self k1565, x1562 ++ t1574, IntKind.wrap .i64 (x1563 + 1), (by rw [← hag1566]; exact h), ha.sub (subs_cons KR (subs_cons KR (subs_cons KR (subs_cons KR (subs_nil _))))), HW.pick [] [] (by decide) (by decide) KR KR⟩
      · skip
        replace h := ite_neg' h hp1571
        refine condF ha KR KR (t := decide (x1563 < a0)) (decide_eq_false hp1571) ?_
        refine wp_exit ?_
        refine thenE ?_
        refine thenE ?_
        refine inBlk ?_
        refine thenN (hK1530 _ _ ?_); clear hK1530
        refine wp_seq_k (fun K1579 hK1580 => ?_)
        refine wp_region_lit ?_
        refine stepp ha 19 (.string x1562) KR KR ?_; clear ha a; intro a ha
        refine stepp ha 4 (.string x1562) KR KR ?_; clear ha a; intro a ha
        refine endl ?_
        refine thenN (hK1580 _ _ ?_); clear hK1580
        refine wp_ret ?_
        obtain rfl := Option.some.inj h
        exact finv ha _ _ rfl (.tmp (v := .string x1562) KR .nil) (.string x1562) rfl ⟨rfl, HW.pick [] [] (by decide) (by decide) rfl KR⟩
/-! ### (headgate/headgateref09.change).has: function 65 -/
def headgateref09_change_has.b0 (K : Nat) (a0 : T_headgateref09_change) (a2 : Int) (again1662 : Int → Option Bool) (x1663 : Int) : Option Bool :=
  if x1663 < (a0.f4.length : Int) then (asrt (0 ≤ x1663) (if a2 ≥ ((rdL T_api_Range.z a0.f4 x1663).f0) then (if (IntKind.wrap .i64 (a2 - ((rdL T_api_Range.z a0.f4 x1663).f0))) < ((rdL T_api_Range.z a0.f4 x1663).f1) then (some true) else (again1662 (IntKind.wrap .i64 (x1663 + 1)))) else (again1662 (IntKind.wrap .i64 (x1663 + 1))))) else (some false)
def headgateref09_change_has.l0 (K : Nat) (a0 : T_headgateref09_change) (a2 : Int) : Nat → Int → Option Bool
  | 0, _ => none
  | k_ + 1, x1663 => headgateref09_change_has.b0 K a0 a2 (headgateref09_change_has.l0 K a0 a2 k_) x1663
def headgateref09_change_has.f (K : Nat) (a0 : T_headgateref09_change) (a1 : Int) (a2 : Int) : Option Bool :=
  if a0.f0 = a1 then (if a0.f5 = true then (if a2 ≥ a0.f3 then (some (decide ((IntKind.wrap .i64 (a2 - a0.f3)) < a0.f1))) else (some false)) else (headgateref09_change_has.l0 K a0 a2 K 0)) else (some false)
set_option maxRecDepth 100000 in
set_option maxHeartbeats 4000000 in
theorem headgateref09_change_has.calls (K : Nat) (a0 : T_headgateref09_change) (a1 : Int) (a2 : Int) (A0_0 : Option Addr) (c0_0 : Nat) (r : Bool) (w : World) (hr0_0 : Rd 2 w (.slice A0_0 a0.f4.length c0_0) a0.f4.length (encs T_api_Range.enc a0.f4)) (h : headgateref09_change_has.f K a0 a1 a2 = some r) :
    Calls Tryz.prog 65 #[.agg #[.int .i64 a0.f0, .int .i64 a0.f1, .string a0.f2, .int .i64 a0.f3, .slice A0_0 a0.f4.length c0_0, .bool a0.f5], .int .i64 a1, .int .i64 a2] w (fun e W' => e = .returned (.bool r) ∧ Wd w W' [] [] ) := by
  refine sxstart (n := 59) (l := [(0, .agg #[.int .i64 a0.f0, .int .i64 a0.f1, .string a0.f2, .int .i64 a0.f3, .slice A0_0 a0.f4.length c0_0, .bool a0.f5]), (1, .int .i64 a1), (2, .int .i64 a2)]) Tryz.func65 rfl rfl (Nat.le_of_ble_eq_true KR) (subsA_cons rfl (subsA_cons rfl (subsA_cons rfl (subsA_nil _)))) ?_
  intro a ha
  have HW := Wd.refl w
  unfold headgateref09_change_has.f at h
  refine wp_seq_k (fun K1592 hK1593 => ?_)
  refine wp_region_lit ?_
  refine stepnew ha HW 3 #[.int .i64 a0.f0, .int .i64 a0.f1, .string a0.f2, .int .i64 a0.f3, .slice A0_0 a0.f4.length c0_0, .bool a0.f5] 125 KR KR ?_; clear ha HW a; intro b1594 a W1595 HW ha
  refine stepp ha 6 (.bool false) KR KR ?_; clear ha a; intro a ha
  refine endl ?_
  refine thenN (hK1593 _ _ ?_); clear hK1593
  refine wp_seq_k (fun K1596 hK1597 => ?_)
  refine wp_seq_k (fun K1598 hK1599 => ?_)
  refine wp_region_lit ?_
  refine stepp ha 8 (.pointer (some ⟨b1594, 0, none⟩)) KR KR ?_; clear ha a; intro a ha
  refine stepl ha 9 (HW.ca (i := 0) (b := b1594) (C := #[.int .i64 a0.f0, .int .i64 a0.f1, .string a0.f2, .int .i64 a0.f3, .slice A0_0 a0.f4.length c0_0, .bool a0.f5]) (T := 125) (fr := (0, 0)) KR) 3 0 (.tmp 8) (.int .i64 a0.f0) rfl KR KR KR ?_; clear ha a; intro a ha
  refine stepp ha 10 (.int .i64 a1) KR KR ?_; clear ha a; intro a ha
  refine stepp ha 11 (.bool (a0.f0 != a1)) KR KR ?_; clear ha a; intro a ha
  refine endl ?_
  refine thenN (hK1599 _ _ ?_); clear hK1599
  by_cases hp1600 : a0.f0 = a1
  · skip
    replace h := ite_pos' h hp1600
    refine condF ha KR KR (t := (a0.f0 != a1)) (ineq_f hp1600) ?_
    refine wp_skip ?_
    refine thenN (hK1597 _ _ ?_); clear hK1597
    refine wp_seq_k (fun K1603 hK1604 => ?_)
    refine wp_seq_k (fun K1605 hK1606 => ?_)
    refine wp_region_lit ?_
    refine stepp ha 12 (.pointer (some ⟨b1594, 5, none⟩)) KR KR ?_; clear ha a; intro a ha
    refine stepl ha 13 (HW.ca (i := 0) (b := b1594) (C := #[.int .i64 a0.f0, .int .i64 a0.f1, .string a0.f2, .int .i64 a0.f3, .slice A0_0 a0.f4.length c0_0, .bool a0.f5]) (T := 125) (fr := (0, 0)) KR) 4 5 (.tmp 12) (.bool a0.f5) rfl KR KR KR ?_; clear ha a; intro a ha
    refine endl ?_
    refine thenN (hK1606 _ _ ?_); clear hK1606
    by_cases hp1607 : a0.f5 = true
    · skip
      replace h := ite_pos' h hp1607
      refine condT ha KR KR (t := a0.f5) (hp1607) ?_
      refine wp_seq_k (fun K1608 hK1609 => ?_)
      refine wp_region_lit ?_
      refine stepp ha 14 (.int .i64 a2) KR KR ?_; clear ha a; intro a ha
      refine stepp ha 15 (.pointer (some ⟨b1594, 3, none⟩)) KR KR ?_; clear ha a; intro a ha
      refine stepl ha 16 (HW.ca (i := 0) (b := b1594) (C := #[.int .i64 a0.f0, .int .i64 a0.f1, .string a0.f2, .int .i64 a0.f3, .slice A0_0 a0.f4.length c0_0, .bool a0.f5]) (T := 125) (fr := (0, 0)) KR) 3 3 (.tmp 15) (.int .i64 a0.f3) rfl KR KR KR ?_; clear ha a; intro a ha
      refine stepp ha 17 (.bool (decide (a2 ≥ a0.f3))) KR KR ?_; clear ha a; intro a ha
      refine stepp ha 18 (.bool (decide (a2 ≥ a0.f3))) KR KR ?_; clear ha a; intro a ha
      by_cases hp1610 : a2 ≥ a0.f3
      · skip
        replace h := ite_pos' h hp1610
        replace ha := ha.bool 18 KR (decide_eq_true hp1610)
        refine stepp ha 19 (.int .i64 a2) KR KR ?_; clear ha a; intro a ha
        refine stepp ha 20 (.pointer (some ⟨b1594, 3, none⟩)) KR KR ?_; clear ha a; intro a ha
        refine stepl ha 21 (HW.ca (i := 0) (b := b1594) (C := #[.int .i64 a0.f0, .int .i64 a0.f1, .string a0.f2, .int .i64 a0.f3, .slice A0_0 a0.f4.length c0_0, .bool a0.f5]) (T := 125) (fr := (0, 0)) KR) 3 3 (.tmp 20) (.int .i64 a0.f3) rfl KR KR KR ?_; clear ha a; intro a ha
        refine stepp ha 22 (.int .i64 (IntKind.wrap .i64 (a2 - a0.f3))) KR KR ?_; clear ha a; intro a ha
        refine stepp ha 23 (.pointer (some ⟨b1594, 1, none⟩)) KR KR ?_; clear ha a; intro a ha
        refine stepl ha 24 (HW.ca (i := 0) (b := b1594) (C := #[.int .i64 a0.f0, .int .i64 a0.f1, .string a0.f2, .int .i64 a0.f3, .slice A0_0 a0.f4.length c0_0, .bool a0.f5]) (T := 125) (fr := (0, 0)) KR) 3 1 (.tmp 23) (.int .i64 a0.f1) rfl KR KR KR ?_; clear ha a; intro a ha
        refine stepp ha 25 (.bool (decide ((IntKind.wrap .i64 (a2 - a0.f3)) < a0.f1))) KR KR ?_; clear ha a; intro a ha
        refine stepp ha 26 (.bool (decide ((IntKind.wrap .i64 (a2 - a0.f3)) < a0.f1))) KR KR ?_; clear ha a; intro a ha
        refine stepp ha 6 (.bool (decide ((IntKind.wrap .i64 (a2 - a0.f3)) < a0.f1))) KR KR ?_; clear ha a; intro a ha
        refine endl ?_
        refine thenN (hK1609 _ _ ?_); clear hK1609
        refine wp_ret ?_
        refine thenR ?_
        obtain rfl := Option.some.inj h
        exact finv ha _ _ rfl (.tmp (v := .bool (decide ((IntKind.wrap .i64 (a2 - a0.f3)) < a0.f1))) KR .nil) (.bool (decide ((IntKind.wrap .i64 (a2 - a0.f3)) < a0.f1))) rfl ⟨rfl, HW.pick [] [] (by decide) (by decide) rfl KR⟩
      · skip
        replace h := ite_neg' h hp1610
        replace ha := ha.bool 18 KR (decide_eq_false hp1610)
        refine stepo ha 19 KR ?_; clear ha a; intro a ha
        refine stepo ha 20 KR ?_; clear ha a; intro a ha
        refine stepo ha 21 KR ?_; clear ha a; intro a ha
        refine stepo ha 22 KR ?_; clear ha a; intro a ha
        refine stepo ha 23 KR ?_; clear ha a; intro a ha
        refine stepo ha 24 KR ?_; clear ha a; intro a ha
        refine stepo ha 25 KR ?_; clear ha a; intro a ha
        refine stepp ha 26 (.bool false) KR KR ?_; clear ha a; intro a ha
        refine stepp ha 6 (.bool false) KR KR ?_; clear ha a; intro a ha
        refine endl ?_
        refine thenN (hK1609 _ _ ?_); clear hK1609
        refine wp_ret ?_
        refine thenR ?_
        obtain rfl := Option.some.inj h
        exact finv ha _ _ rfl (.tmp (v := .bool false) KR .nil) (.bool false) rfl ⟨rfl, HW.pick [] [] (by decide) (by decide) rfl KR⟩
    · skip
      replace h := ite_neg' h hp1607
      refine condF ha KR KR (t := a0.f5) (bool_f hp1607) ?_
      refine wp_skip ?_
      refine thenN (hK1604 _ _ ?_); clear hK1604
      refine wp_seq_k (fun K1611 hK1612 => ?_)
      refine wp_seq_k (fun K1613 hK1614 => ?_)
      refine wp_region_lit ?_
      refine stepp ha 7 (.int .i64 0) KR KR ?_; clear ha a; intro a ha
      refine endl ?_
      refine thenN (hK1614 _ _ ?_); clear hK1614
      refine wp_block ?_
      refine loopk (fun k => fun a W1664 => ∃ (x1663 : Int), headgateref09_change_has.l0 K a0 a2 k x1663 = some r ∧ Has 59 [(2, .int .i64 a2), (3, .pointer (some ⟨b1594, 0, none⟩)), (7, .int .i64 x1663)] a ∧ Wd w W1664 [(b1594, .cells #[.int .i64 a0.f0, .int .i64 a0.f1, .string a0.f2, .int .i64 a0.f3, .slice A0_0 a0.f4.length c0_0, .bool a0.f5] 125 (0, 0))] []) K ?_ ?_
      · skip
        exact ⟨0, h, ha.sub (subs_cons KR (subs_cons KR (subs_cons KR (subs_nil _)))), HW.pick [0] [] (by decide) (by decide) KR KR⟩
      · skip
        intro k a W1664 hI
        obtain ⟨x1663, h, ha, HW⟩ := hI
        cases k with
        | zero => exact (none_some (show none = some r from h)).elim
        | succ k1665 =>
          replace h : headgateref09_change_has.b0 K a0 a2 (headgateref09_change_has.l0 K a0 a2 k1665) x1663 = some r := h
          obtain ⟨again1662, hag1666⟩ : ∃ g_, g_ = headgateref09_change_has.l0 K a0 a2 k1665 := ⟨_, rfl⟩
          rw [← hag1666] at h
          unfold headgateref09_change_has.b0 at h
          refine wp_seq_k (fun K1667 hK1668 => ?_)
          refine wp_seq_k (fun K1669 hK1670 => ?_)
          refine wp_region_lit ?_
          refine stepp ha 27 (.int .i64 x1663) KR KR ?_; clear ha a; intro a ha
          refine stepp ha 28 (.pointer (some ⟨b1594, 4, none⟩)) KR KR ?_; clear ha a; intro a ha
          refine stepl ha 29 (HW.ca (i := 0) (b := b1594) (C := #[.int .i64 a0.f0, .int .i64 a0.f1, .string a0.f2, .int .i64 a0.f3, .slice A0_0 a0.f4.length c0_0, .bool a0.f5]) (T := 125) (fr := (0, 0)) KR) 33 4 (.tmp 28) (.slice A0_0 a0.f4.length c0_0) rfl KR KR KR ?_; clear ha a; intro a ha
          refine stepp ha 30 (.int .i64 (a0.f4.length : Int)) KR KR ?_; clear ha a; intro a ha
          refine stepp ha 31 (.bool (decide (x1663 < (a0.f4.length : Int)))) KR KR ?_; clear ha a; intro a ha
          refine endl ?_
          refine thenN (hK1670 _ _ ?_); clear hK1670
          by_cases hp1671 : x1663 < (a0.f4.length : Int)
          · skip
            replace h := ite_pos' h hp1671
            refine condT ha KR KR (t := decide (x1663 < (a0.f4.length : Int))) (decide_eq_true hp1671) ?_
            refine wp_skip ?_
            refine thenN (hK1668 _ _ ?_); clear hK1668
            refine wp_seq_k (fun K1672 hK1673 => ?_)
            refine wp_block ?_
            refine wp_seq_k (fun K1674 hK1675 => ?_)
            obtain ⟨hA1676, h_⟩ := asrt_some h; clear h; have h := h_; clear h_
            obtain ⟨b1678, off1679, hA1680⟩ := Rd.addr ((HW.rd0 hr0_0)) hA1676 (show (x1663 : Int) < ((a0.f4).length : Int) from hp1671)
            by_cases hp1681 : a2 ≥ ((rdL T_api_Range.z a0.f4 x1663).f0)
            · skip
              replace h := ite_pos' h hp1681
              refine regionG 25 KR KR ha HW [.fix (.int .i64 a2), .fix (.pointer (some ⟨b1594, 4, none⟩)), .fix (.slice A0_0 a0.f4.length c0_0), .fix (.int .i64 x1663), .fix (.pointer (some ⟨b1678, off1679 + (x1663 : Int).toNat * 2, none⟩)), .fix (.pointer (some ⟨b1678, off1679 + (x1663 : Int).toNat * 2, none⟩)), .fix (.int .i64 ((rdL T_api_Range.z a0.f4 x1663).f0)), .fix (.bool (decide (a2 ≥ ((rdL T_api_Range.z a0.f4 x1663).f0)))), .fix (.bool (decide (a2 ≥ ((rdL T_api_Range.z a0.f4 x1663).f0)))), .fix (.int .i64 a2), .fix (.pointer (some ⟨b1594, 4, none⟩)), .fix (.slice A0_0 a0.f4.length c0_0), .fix (.int .i64 x1663), .fix (.pointer (some ⟨b1678, off1679 + (x1663 : Int).toNat * 2, none⟩)), .fix (.pointer (some ⟨b1678, off1679 + (x1663 : Int).toNat * 2, none⟩)), .fix (.int .i64 ((rdL T_api_Range.z a0.f4 x1663).f0)), .fix (.int .i64 (IntKind.wrap .i64 (a2 - ((rdL T_api_Range.z a0.f4 x1663).f0)))), .fix (.pointer (some ⟨b1594, 4, none⟩)), .fix (.slice A0_0 a0.f4.length c0_0), .fix (.int .i64 x1663), .fix (.pointer (some ⟨b1678, off1679 + (x1663 : Int).toNat * 2, none⟩)), .fix (.pointer (some ⟨b1678, off1679 + (x1663 : Int).toNat * 2 + 1, none⟩)), .fix (.int .i64 ((rdL T_api_Range.z a0.f4 x1663).f1)), .fix (.bool (decide ((IntKind.wrap .i64 (a2 - ((rdL T_api_Range.z a0.f4 x1663).f0))) < ((rdL T_api_Range.z a0.f4 x1663).f1)))), .fix (.bool (decide ((IntKind.wrap .i64 (a2 - ((rdL T_api_Range.z a0.f4 x1663).f0))) < ((rdL T_api_Range.z a0.f4 x1663).f1))))] ?_ ?_
              · skip
                refine ⟨?_, ?_, ?_, ?_, ?_, ?_, ?_, ?_, ?_, ?_, ?_, ?_, ?_, ?_, ?_, ?_, ?_, ?_, ?_, ?_, ?_, ?_, ?_, ?_, ?_, trivial⟩
                · skip
                  intro a wr hn hd HW hs; have ha := hasNil hn hd
                  have ha := ha.add (seeE hs 2 (.int .i64 a2) KR KR)
                  refine yStep ha 34 KR ?_; intro l_ ha HK
                  refine stepp ha 34 (.int .i64 a2) KR KR ?_; intro ax hax; exact HK _ _ _ hax rfl (Below.refl _ _)
                · skip
                  intro a wr hn hd HW hs; have ha := hasNil hn hd
                  have ha := ha.add (seeE hs 3 (.pointer (some ⟨b1594, 0, none⟩)) KR KR)
                  refine yStep ha 35 KR ?_; intro l_ ha HK
                  refine stepp ha 35 (.pointer (some ⟨b1594, 4, none⟩)) KR KR ?_; intro ax hax; exact HK _ _ _ hax rfl (Below.refl _ _)
                · skip
                  intro a wr hn hd HW hs; have ha := hasNil hn hd
                  have ha := ha.add (seeF hs 35 1 (.pointer (some ⟨b1594, 4, none⟩)) KR KR)
                  refine yStep ha 36 KR ?_; intro l_ ha HK
                  refine stepl ha 36 (HW.ca (i := 0) (b := b1594) (C := #[.int .i64 a0.f0, .int .i64 a0.f1, .string a0.f2, .int .i64 a0.f3, .slice A0_0 a0.f4.length c0_0, .bool a0.f5]) (T := 125) (fr := (0, 0)) KR) 33 4 (.tmp 35) (.slice A0_0 a0.f4.length c0_0) rfl KR KR KR ?_; intro ax hax; exact HK _ _ _ hax rfl (Below.refl _ _)
                · skip
                  intro a wr hn hd HW hs; have ha := hasNil hn hd
                  have ha := ha.add (seeE hs 7 (.int .i64 x1663) KR KR)
                  refine yStep ha 37 KR ?_; intro l_ ha HK
                  refine stepp ha 37 (.int .i64 x1663) KR KR ?_; intro ax hax; exact HK _ _ _ hax rfl (Below.refl _ _)
                · skip
                  intro a wr hn hd HW hs; have ha := hasNil hn hd
                  have ha := ha.add (seeF hs 36 2 (.slice A0_0 a0.f4.length c0_0) KR KR)
                  have ha := ha.add (seeF hs 37 3 (.int .i64 x1663) KR KR)
                  replace ha := ha.turn 36 (u := .slice A0_0 a0.f4.length c0_0) (v := .slice (some ⟨b1678, off1679, none⟩) a0.f4.length c0_0) KR (by rw [hA1680])
                  refine yStep ha 38 KR ?_; intro l_ ha HK
                  refine stepif ha 38 (sz := 2) (len := a0.f4.length) (b := b1678) (off := off1679) (c := c0_0) 33 72 (.tmp 36) (.tmp 37) .i64 x1663 rfl KR KR KR KR hA1676 (show (x1663 : Int) < ((a0.f4).length : Int) from hp1671) KR ?_; intro ax hax; exact HK _ _ _ hax rfl (Below.refl _ _)
                · skip
                  intro a wr hn hd HW hs; have ha := hasNil hn hd
                  have ha := ha.add (seeF hs 38 4 (.pointer (some ⟨b1678, off1679 + (x1663 : Int).toNat * 2, none⟩)) KR KR)
                  refine yStep ha 39 KR ?_; intro l_ ha HK
                  refine stepp ha 39 (.pointer (some ⟨b1678, off1679 + (x1663 : Int).toNat * 2, none⟩)) KR KR ?_; intro ax hax; exact HK _ _ _ hax rfl (Below.refl _ _)
                · skip
                  intro a wr hn hd HW hs; have ha := hasNil hn hd
                  have ha := ha.add (seeF hs 39 5 (.pointer (some ⟨b1678, off1679 + (x1663 : Int).toNat * 2, none⟩)) KR KR)
                  refine yStep ha 40 KR ?_; intro l_ ha HK
                  refine stepl ha 40 (Rd.ca T_api_Range.enc T_api_Range.z (fun _ => rfl) (by have h_ := ((HW.rd0 hr0_0)); rw [hA1680] at h_; exact h_) hA1676 (show (x1663 : Int) < ((a0.f4).length : Int) from hp1671)) 3 0 (.tmp 39) (.int .i64 ((rdL T_api_Range.z a0.f4 x1663).f0)) rfl KR KR KR ?_; intro ax hax; exact HK _ _ _ hax rfl (Below.refl _ _)
                · skip
                  intro a wr hn hd HW hs; have ha := hasNil hn hd
                  have ha := ha.add (seeF hs 34 0 (.int .i64 a2) KR KR)
                  have ha := ha.add (seeF hs 40 6 (.int .i64 ((rdL T_api_Range.z a0.f4 x1663).f0)) KR KR)
                  refine yStep ha 41 KR ?_; intro l_ ha HK
                  refine stepp ha 41 (.bool (decide (a2 ≥ ((rdL T_api_Range.z a0.f4 x1663).f0)))) KR KR ?_; intro ax hax; exact HK _ _ _ hax rfl (Below.refl _ _)
                · skip
                  intro a wr hn hd HW hs; have ha := hasNil hn hd
                  have ha := ha.add (seeF hs 41 7 (.bool (decide (a2 ≥ ((rdL T_api_Range.z a0.f4 x1663).f0)))) KR KR)
                  refine yStep ha 42 KR ?_; intro l_ ha HK
                  refine stepp ha 42 (.bool (decide (a2 ≥ ((rdL T_api_Range.z a0.f4 x1663).f0)))) KR KR ?_; intro ax hax; exact HK _ _ _ hax rfl (Below.refl _ _)
                · skip
                  intro a wr hn hd HW hs; have ha := hasNil hn hd
                  have ha := ha.add (seeE hs 2 (.int .i64 a2) KR KR)
                  have ha := ha.add (seeF hs 42 8 (.bool (decide (a2 ≥ ((rdL T_api_Range.z a0.f4 x1663).f0)))) KR KR)
                  have ha := ha.bool 42 KR (decide_eq_true hp1681)
                  refine yStep ha 43 KR ?_; intro l_ ha HK
                  refine stepp ha 43 (.int .i64 a2) KR KR ?_; intro ax hax; exact HK _ _ _ hax rfl (Below.refl _ _)
                · skip
                  intro a wr hn hd HW hs; have ha := hasNil hn hd
                  have ha := ha.add (seeE hs 3 (.pointer (some ⟨b1594, 0, none⟩)) KR KR)
                  have ha := ha.add (seeF hs 42 8 (.bool (decide (a2 ≥ ((rdL T_api_Range.z a0.f4 x1663).f0)))) KR KR)
                  have ha := ha.bool 42 KR (decide_eq_true hp1681)
                  refine yStep ha 44 KR ?_; intro l_ ha HK
                  refine stepp ha 44 (.pointer (some ⟨b1594, 4, none⟩)) KR KR ?_; intro ax hax; exact HK _ _ _ hax rfl (Below.refl _ _)
                · skip
                  intro a wr hn hd HW hs; have ha := hasNil hn hd
                  have ha := ha.add (seeF hs 44 10 (.pointer (some ⟨b1594, 4, none⟩)) KR KR)
                  have ha := ha.add (seeF hs 42 8 (.bool (decide (a2 ≥ ((rdL T_api_Range.z a0.f4 x1663).f0)))) KR KR)
                  have ha := ha.bool 42 KR (decide_eq_true hp1681)
                  refine yStep ha 45 KR ?_; intro l_ ha HK
                  refine stepl ha 45 (HW.ca (i := 0) (b := b1594) (C := #[.int .i64 a0.f0, .int .i64 a0.f1, .string a0.f2, .int .i64 a0.f3, .slice A0_0 a0.f4.length c0_0, .bool a0.f5]) (T := 125) (fr := (0, 0)) KR) 33 4 (.tmp 44) (.slice A0_0 a0.f4.length c0_0) rfl KR KR KR ?_; intro ax hax; exact HK _ _ _ hax rfl (Below.refl _ _)
                · skip
                  intro a wr hn hd HW hs; have ha := hasNil hn hd
                  have ha := ha.add (seeE hs 7 (.int .i64 x1663) KR KR)
                  have ha := ha.add (seeF hs 42 8 (.bool (decide (a2 ≥ ((rdL T_api_Range.z a0.f4 x1663).f0)))) KR KR)
                  have ha := ha.bool 42 KR (decide_eq_true hp1681)
                  refine yStep ha 46 KR ?_; intro l_ ha HK
                  refine stepp ha 46 (.int .i64 x1663) KR KR ?_; intro ax hax; exact HK _ _ _ hax rfl (Below.refl _ _)
                · skip
                  intro a wr hn hd HW hs; have ha := hasNil hn hd
                  have ha := ha.add (seeF hs 45 11 (.slice A0_0 a0.f4.length c0_0) KR KR)
                  have ha := ha.add (seeF hs 46 12 (.int .i64 x1663) KR KR)
                  have ha := ha.add (seeF hs 42 8 (.bool (decide (a2 ≥ ((rdL T_api_Range.z a0.f4 x1663).f0)))) KR KR)
                  have ha := ha.bool 42 KR (decide_eq_true hp1681)
                  replace ha := ha.turn 45 (u := .slice A0_0 a0.f4.length c0_0) (v := .slice (some ⟨b1678, off1679, none⟩) a0.f4.length c0_0) KR (by rw [hA1680])
                  refine yStep ha 47 KR ?_; intro l_ ha HK
                  refine stepif ha 47 (sz := 2) (len := a0.f4.length) (b := b1678) (off := off1679) (c := c0_0) 33 72 (.tmp 45) (.tmp 46) .i64 x1663 rfl KR KR KR KR hA1676 (show (x1663 : Int) < ((a0.f4).length : Int) from hp1671) KR ?_; intro ax hax; exact HK _ _ _ hax rfl (Below.refl _ _)
                · skip
                  intro a wr hn hd HW hs; have ha := hasNil hn hd
                  have ha := ha.add (seeF hs 47 13 (.pointer (some ⟨b1678, off1679 + (x1663 : Int).toNat * 2, none⟩)) KR KR)
                  have ha := ha.add (seeF hs 42 8 (.bool (decide (a2 ≥ ((rdL T_api_Range.z a0.f4 x1663).f0)))) KR KR)
                  have ha := ha.bool 42 KR (decide_eq_true hp1681)
                  refine yStep ha 48 KR ?_; intro l_ ha HK
                  refine stepp ha 48 (.pointer (some ⟨b1678, off1679 + (x1663 : Int).toNat * 2, none⟩)) KR KR ?_; intro ax hax; exact HK _ _ _ hax rfl (Below.refl _ _)
                · skip
                  intro a wr hn hd HW hs; have ha := hasNil hn hd
                  have ha := ha.add (seeF hs 48 14 (.pointer (some ⟨b1678, off1679 + (x1663 : Int).toNat * 2, none⟩)) KR KR)
                  have ha := ha.add (seeF hs 42 8 (.bool (decide (a2 ≥ ((rdL T_api_Range.z a0.f4 x1663).f0)))) KR KR)
                  have ha := ha.bool 42 KR (decide_eq_true hp1681)
                  refine yStep ha 49 KR ?_; intro l_ ha HK
                  refine stepl ha 49 (Rd.ca T_api_Range.enc T_api_Range.z (fun _ => rfl) (by have h_ := ((HW.rd0 hr0_0)); rw [hA1680] at h_; exact h_) hA1676 (show (x1663 : Int) < ((a0.f4).length : Int) from hp1671)) 3 0 (.tmp 48) (.int .i64 ((rdL T_api_Range.z a0.f4 x1663).f0)) rfl KR KR KR ?_; intro ax hax; exact HK _ _ _ hax rfl (Below.refl _ _)
                · skip
                  intro a wr hn hd HW hs; have ha := hasNil hn hd
                  have ha := ha.add (seeF hs 43 9 (.int .i64 a2) KR KR)
                  have ha := ha.add (seeF hs 49 15 (.int .i64 ((rdL T_api_Range.z a0.f4 x1663).f0)) KR KR)
                  have ha := ha.add (seeF hs 42 8 (.bool (decide (a2 ≥ ((rdL T_api_Range.z a0.f4 x1663).f0)))) KR KR)
                  have ha := ha.bool 42 KR (decide_eq_true hp1681)
                  refine yStep ha 50 KR ?_; intro l_ ha HK
                  refine stepp ha 50 (.int .i64 (IntKind.wrap .i64 (a2 - ((rdL T_api_Range.z a0.f4 x1663).f0)))) KR KR ?_; intro ax hax; exact HK _ _ _ hax rfl (Below.refl _ _)
                · skip
                  intro a wr hn hd HW hs; have ha := hasNil hn hd
                  have ha := ha.add (seeE hs 3 (.pointer (some ⟨b1594, 0, none⟩)) KR KR)
                  have ha := ha.add (seeF hs 42 8 (.bool (decide (a2 ≥ ((rdL T_api_Range.z a0.f4 x1663).f0)))) KR KR)
                  have ha := ha.bool 42 KR (decide_eq_true hp1681)
                  refine yStep ha 51 KR ?_; intro l_ ha HK
                  refine stepp ha 51 (.pointer (some ⟨b1594, 4, none⟩)) KR KR ?_; intro ax hax; exact HK _ _ _ hax rfl (Below.refl _ _)
                · skip
                  intro a wr hn hd HW hs; have ha := hasNil hn hd
                  have ha := ha.add (seeF hs 51 17 (.pointer (some ⟨b1594, 4, none⟩)) KR KR)
                  have ha := ha.add (seeF hs 42 8 (.bool (decide (a2 ≥ ((rdL T_api_Range.z a0.f4 x1663).f0)))) KR KR)
                  have ha := ha.bool 42 KR (decide_eq_true hp1681)
                  refine yStep ha 52 KR ?_; intro l_ ha HK
                  refine stepl ha 52 (HW.ca (i := 0) (b := b1594) (C := #[.int .i64 a0.f0, .int .i64 a0.f1, .string a0.f2, .int .i64 a0.f3, .slice A0_0 a0.f4.length c0_0, .bool a0.f5]) (T := 125) (fr := (0, 0)) KR) 33 4 (.tmp 51) (.slice A0_0 a0.f4.length c0_0) rfl KR KR KR ?_; intro ax hax; exact HK _ _ _ hax rfl (Below.refl _ _)
                · skip
                  intro a wr hn hd HW hs; have ha := hasNil hn hd
                  have ha := ha.add (seeE hs 7 (.int .i64 x1663) KR KR)
                  have ha := ha.add (seeF hs 42 8 (.bool (decide (a2 ≥ ((rdL T_api_Range.z a0.f4 x1663).f0)))) KR KR)
                  have ha := ha.bool 42 KR (decide_eq_true hp1681)
                  refine yStep ha 53 KR ?_; intro l_ ha HK
                  refine stepp ha 53 (.int .i64 x1663) KR KR ?_; intro ax hax; exact HK _ _ _ hax rfl (Below.refl _ _)
                · skip
                  intro a wr hn hd HW hs; have ha := hasNil hn hd
                  have ha := ha.add (seeF hs 52 18 (.slice A0_0 a0.f4.length c0_0) KR KR)
                  have ha := ha.add (seeF hs 53 19 (.int .i64 x1663) KR KR)
                  have ha := ha.add (seeF hs 42 8 (.bool (decide (a2 ≥ ((rdL T_api_Range.z a0.f4 x1663).f0)))) KR KR)
                  have ha := ha.bool 42 KR (decide_eq_true hp1681)
                  replace ha := ha.turn 52 (u := .slice A0_0 a0.f4.length c0_0) (v := .slice (some ⟨b1678, off1679, none⟩) a0.f4.length c0_0) KR (by rw [hA1680])
                  refine yStep ha 54 KR ?_; intro l_ ha HK
                  refine stepif ha 54 (sz := 2) (len := a0.f4.length) (b := b1678) (off := off1679) (c := c0_0) 33 72 (.tmp 52) (.tmp 53) .i64 x1663 rfl KR KR KR KR hA1676 (show (x1663 : Int) < ((a0.f4).length : Int) from hp1671) KR ?_; intro ax hax; exact HK _ _ _ hax rfl (Below.refl _ _)
                · skip
                  intro a wr hn hd HW hs; have ha := hasNil hn hd
                  have ha := ha.add (seeF hs 54 20 (.pointer (some ⟨b1678, off1679 + (x1663 : Int).toNat * 2, none⟩)) KR KR)
                  have ha := ha.add (seeF hs 42 8 (.bool (decide (a2 ≥ ((rdL T_api_Range.z a0.f4 x1663).f0)))) KR KR)
                  have ha := ha.bool 42 KR (decide_eq_true hp1681)
                  refine yStep ha 55 KR ?_; intro l_ ha HK
                  refine stepp ha 55 (.pointer (some ⟨b1678, off1679 + (x1663 : Int).toNat * 2 + 1, none⟩)) KR KR ?_; intro ax hax; exact HK _ _ _ hax rfl (Below.refl _ _)
                · skip
                  intro a wr hn hd HW hs; have ha := hasNil hn hd
                  have ha := ha.add (seeF hs 55 21 (.pointer (some ⟨b1678, off1679 + (x1663 : Int).toNat * 2 + 1, none⟩)) KR KR)
                  have ha := ha.add (seeF hs 42 8 (.bool (decide (a2 ≥ ((rdL T_api_Range.z a0.f4 x1663).f0)))) KR KR)
                  have ha := ha.bool 42 KR (decide_eq_true hp1681)
                  refine yStep ha 56 KR ?_; intro l_ ha HK
                  refine stepl ha 56 (Rd.ca T_api_Range.enc T_api_Range.z (fun _ => rfl) (by have h_ := ((HW.rd0 hr0_0)); rw [hA1680] at h_; exact h_) hA1676 (show (x1663 : Int) < ((a0.f4).length : Int) from hp1671)) 3 1 (.tmp 55) (.int .i64 ((rdL T_api_Range.z a0.f4 x1663).f1)) rfl KR KR KR ?_; intro ax hax; exact HK _ _ _ hax rfl (Below.refl _ _)
                · skip
                  intro a wr hn hd HW hs; have ha := hasNil hn hd
                  have ha := ha.add (seeF hs 50 16 (.int .i64 (IntKind.wrap .i64 (a2 - ((rdL T_api_Range.z a0.f4 x1663).f0)))) KR KR)
                  have ha := ha.add (seeF hs 56 22 (.int .i64 ((rdL T_api_Range.z a0.f4 x1663).f1)) KR KR)
                  have ha := ha.add (seeF hs 42 8 (.bool (decide (a2 ≥ ((rdL T_api_Range.z a0.f4 x1663).f0)))) KR KR)
                  have ha := ha.bool 42 KR (decide_eq_true hp1681)
                  refine yStep ha 57 KR ?_; intro l_ ha HK
                  refine stepp ha 57 (.bool (decide ((IntKind.wrap .i64 (a2 - ((rdL T_api_Range.z a0.f4 x1663).f0))) < ((rdL T_api_Range.z a0.f4 x1663).f1)))) KR KR ?_; intro ax hax; exact HK _ _ _ hax rfl (Below.refl _ _)
                · skip
                  intro a wr hn hd HW hs; have ha := hasNil hn hd
                  have ha := ha.add (seeF hs 42 8 (.bool (decide (a2 ≥ ((rdL T_api_Range.z a0.f4 x1663).f0)))) KR KR)
                  have ha := ha.bool 42 KR (decide_eq_true hp1681)
                  have ha := ha.add (seeF hs 57 23 (.bool (decide ((IntKind.wrap .i64 (a2 - ((rdL T_api_Range.z a0.f4 x1663).f0))) < ((rdL T_api_Range.z a0.f4 x1663).f1)))) KR KR)
                  refine yStep ha 58 KR ?_; intro l_ ha HK
                  refine stepp ha 58 (.bool (decide ((IntKind.wrap .i64 (a2 - ((rdL T_api_Range.z a0.f4 x1663).f0))) < ((rdL T_api_Range.z a0.f4 x1663).f1)))) KR KR ?_; intro ax hax; exact HK _ _ _ hax rfl (Below.refl _ _)
              · skip
                intro a W1684 ha HW he hf
                replace ha := ha.add (he 2 (.int .i64 a2) KR KR)
                replace ha := ha.add (he 3 (.pointer (some ⟨b1594, 0, none⟩)) KR KR)
                replace ha := ha.add (he 7 (.int .i64 x1663) KR KR)
                replace ha := ha.add (gotF (m := 25) (j := 9) (d := 43) (v := .int .i64 a2) hf KR KR KR)
                replace ha := ha.add (gotF (m := 25) (j := 10) (d := 44) (v := .pointer (some ⟨b1594, 4, none⟩)) hf KR KR KR)
                replace ha := ha.add (gotF (m := 25) (j := 11) (d := 45) (v := .slice A0_0 a0.f4.length c0_0) hf KR KR KR)
                replace ha := ha.add (gotF (m := 25) (j := 12) (d := 46) (v := .int .i64 x1663) hf KR KR KR)
                replace ha := ha.add (gotF (m := 25) (j := 15) (d := 49) (v := .int .i64 ((rdL T_api_Range.z a0.f4 x1663).f0)) hf KR KR KR)
                replace ha := ha.add (gotF (m := 25) (j := 16) (d := 50) (v := .int .i64 (IntKind.wrap .i64 (a2 - ((rdL T_api_Range.z a0.f4 x1663).f0)))) hf KR KR KR)
                replace ha := ha.add (gotF (m := 25) (j := 17) (d := 51) (v := .pointer (some ⟨b1594, 4, none⟩)) hf KR KR KR)
                replace ha := ha.add (gotF (m := 25) (j := 18) (d := 52) (v := .slice A0_0 a0.f4.length c0_0) hf KR KR KR)
                replace ha := ha.add (gotF (m := 25) (j := 19) (d := 53) (v := .int .i64 x1663) hf KR KR KR)
                replace ha := ha.add (gotF (m := 25) (j := 22) (d := 56) (v := .int .i64 ((rdL T_api_Range.z a0.f4 x1663).f1)) hf KR KR KR)
                replace ha := ha.add (gotF (m := 25) (j := 23) (d := 57) (v := .bool (decide ((IntKind.wrap .i64 (a2 - ((rdL T_api_Range.z a0.f4 x1663).f0))) < ((rdL T_api_Range.z a0.f4 x1663).f1)))) hf KR KR KR)
                replace ha := ha.add (gotF (m := 25) (j := 24) (d := 58) (v := .bool (decide ((IntKind.wrap .i64 (a2 - ((rdL T_api_Range.z a0.f4 x1663).f0))) < ((rdL T_api_Range.z a0.f4 x1663).f1)))) hf KR KR KR)
                clear he hf
                refine endl ?_
                refine thenN (hK1675 _ _ ?_); clear hK1675
                by_cases hp1686 : (IntKind.wrap .i64 (a2 - ((rdL T_api_Range.z a0.f4 x1663).f0))) < ((rdL T_api_Range.z a0.f4 x1663).f1)
                · skip
                  replace h := ite_pos' h hp1686
                  refine condT ha KR KR (t := decide ((IntKind.wrap .i64 (a2 - ((rdL T_api_Range.z a0.f4 x1663).f0))) < ((rdL T_api_Range.z a0.f4 x1663).f1))) (decide_eq_true hp1686) ?_
                  refine wp_seq_k (fun K1687 hK1688 => ?_)
                  refine wp_region_lit ?_
                  refine stepp ha 6 (.bool true) KR KR ?_; clear ha a; intro a ha
                  refine endl ?_
                  refine thenN (hK1688 _ _ ?_); clear hK1688
                  refine wp_ret ?_
                  refine blkR ?_
                  refine thenR ?_
                  refine thenR ?_
                  refine blkR ?_
                  refine thenR ?_
                  obtain rfl := Option.some.inj h
                  exact finv ha _ _ rfl (.tmp (v := .bool true) KR .nil) (.bool true) rfl ⟨rfl, HW.pick [] [] (by decide) (by decide) rfl KR⟩
                · skip
                  replace h := ite_neg' h hp1686
                  refine condF ha KR KR (t := decide ((IntKind.wrap .i64 (a2 - ((rdL T_api_Range.z a0.f4 x1663).f0))) < ((rdL T_api_Range.z a0.f4 x1663).f1))) (decide_eq_false hp1686) ?_
                  refine wp_skip ?_
                  refine blkN ?_
                  refine thenN (hK1673 _ _ ?_); clear hK1673
                  refine wp_region_lit ?_
                  refine stepp ha 32 (.int .i64 x1663) KR KR ?_; clear ha a; intro a ha
                  refine stepp ha 33 (.int .i64 (IntKind.wrap .i64 (x1663 + 1))) KR KR ?_; clear ha a; intro a ha
                  refine stepp ha 7 (.int .i64 (IntKind.wrap .i64 (x1663 + 1))) KR KR ?_; clear ha a; intro a ha
                  refine endl ?_
                  exact thenN ⟨k1665, Nat.lt_succ_self k1665, IntKind.wrap .i64 (x1663 + 1), (by rw [← hag1666]; exact h), ha.sub (subs_cons KR (subs_cons KR (subs_cons KR (subs_nil _)))), HW.pick [0] [] (by decide) (by decide) KR KR⟩
            · skip
              replace h := ite_neg' h hp1681
              refine regionG 25 KR KR ha HW [.fix (.int .i64 a2), .fix (.pointer (some ⟨b1594, 4, none⟩)), .fix (.slice A0_0 a0.f4.length c0_0), .fix (.int .i64 x1663), .fix (.pointer (some ⟨b1678, off1679 + (x1663 : Int).toNat * 2, none⟩)), .fix (.pointer (some ⟨b1678, off1679 + (x1663 : Int).toNat * 2, none⟩)), .fix (.int .i64 ((rdL T_api_Range.z a0.f4 x1663).f0)), .fix (.bool (decide (a2 ≥ ((rdL T_api_Range.z a0.f4 x1663).f0)))), .fix (.bool (decide (a2 ≥ ((rdL T_api_Range.z a0.f4 x1663).f0)))), .fix undef, .fix undef, .fix undef, .fix undef, .fix undef, .fix undef, .fix undef, .fix undef, .fix undef, .fix undef, .fix undef, .fix undef, .fix undef, .fix undef, .fix undef, .fix (.bool false)] ?_ ?_
              · skip
                refine ⟨?_, ?_, ?_, ?_, ?_, ?_, ?_, ?_, ?_, ?_, ?_, ?_, ?_, ?_, ?_, ?_, ?_, ?_, ?_, ?_, ?_, ?_, ?_, ?_, ?_, trivial⟩
                · skip
                  intro a wr hn hd HW hs; have ha := hasNil hn hd
                  have ha := ha.add (seeE hs 2 (.int .i64 a2) KR KR)
                  refine yStep ha 34 KR ?_; intro l_ ha HK
                  refine stepp ha 34 (.int .i64 a2) KR KR ?_; intro ax hax; exact HK _ _ _ hax rfl (Below.refl _ _)
                · skip
                  intro a wr hn hd HW hs; have ha := hasNil hn hd
                  have ha := ha.add (seeE hs 3 (.pointer (some ⟨b1594, 0, none⟩)) KR KR)
                  refine yStep ha 35 KR ?_; intro l_ ha HK
                  refine stepp ha 35 (.pointer (some ⟨b1594, 4, none⟩)) KR KR ?_; intro ax hax; exact HK _ _ _ hax rfl (Below.refl _ _)
                · skip
                  intro a wr hn hd HW hs; have ha := hasNil hn hd
                  have ha := ha.add (seeF hs 35 1 (.pointer (some ⟨b1594, 4, none⟩)) KR KR)
                  refine yStep ha 36 KR ?_; intro l_ ha HK
                  refine stepl ha 36 (HW.ca (i := 0) (b := b1594) (C := #[.int .i64 a0.f0, .int .i64 a0.f1, .string a0.f2, .int .i64 a0.f3, .slice A0_0 a0.f4.length c0_0, .bool a0.f5]) (T := 125) (fr := (0, 0)) KR) 33 4 (.tmp 35) (.slice A0_0 a0.f4.length c0_0) rfl KR KR KR ?_; intro ax hax; exact HK _ _ _ hax rfl (Below.refl _ _)
                · skip
                  intro a wr hn hd HW hs; have ha := hasNil hn hd
                  have ha := ha.add (seeE hs 7 (.int .i64 x1663) KR KR)
                  refine yStep ha 37 KR ?_; intro l_ ha HK
                  refine stepp ha 37 (.int .i64 x1663) KR KR ?_; intro ax hax; exact HK _ _ _ hax rfl (Below.refl _ _)
                · skip
                  intro a wr hn hd HW hs; have ha := hasNil hn hd
                  have ha := ha.add (seeF hs 36 2 (.slice A0_0 a0.f4.length c0_0) KR KR)
                  have ha := ha.add (seeF hs 37 3 (.int .i64 x1663) KR KR)
                  replace ha := ha.turn 36 (u := .slice A0_0 a0.f4.length c0_0) (v := .slice (some ⟨b1678, off1679, none⟩) a0.f4.length c0_0) KR (by rw [hA1680])
                  refine yStep ha 38 KR ?_; intro l_ ha HK
                  refine stepif ha 38 (sz := 2) (len := a0.f4.length) (b := b1678) (off := off1679) (c := c0_0) 33 72 (.tmp 36) (.tmp 37) .i64 x1663 rfl KR KR KR KR hA1676 (show (x1663 : Int) < ((a0.f4).length : Int) from hp1671) KR ?_; intro ax hax; exact HK _ _ _ hax rfl (Below.refl _ _)
                · skip
                  intro a wr hn hd HW hs; have ha := hasNil hn hd
                  have ha := ha.add (seeF hs 38 4 (.pointer (some ⟨b1678, off1679 + (x1663 : Int).toNat * 2, none⟩)) KR KR)
                  refine yStep ha 39 KR ?_; intro l_ ha HK
                  refine stepp ha 39 (.pointer (some ⟨b1678, off1679 + (x1663 : Int).toNat * 2, none⟩)) KR KR ?_; intro ax hax; exact HK _ _ _ hax rfl (Below.refl _ _)
                · skip
                  intro a wr hn hd HW hs; have ha := hasNil hn hd
                  have ha := ha.add (seeF hs 39 5 (.pointer (some ⟨b1678, off1679 + (x1663 : Int).toNat * 2, none⟩)) KR KR)
                  refine yStep ha 40 KR ?_; intro l_ ha HK
                  refine stepl ha 40 (Rd.ca T_api_Range.enc T_api_Range.z (fun _ => rfl) (by have h_ := ((HW.rd0 hr0_0)); rw [hA1680] at h_; exact h_) hA1676 (show (x1663 : Int) < ((a0.f4).length : Int) from hp1671)) 3 0 (.tmp 39) (.int .i64 ((rdL T_api_Range.z a0.f4 x1663).f0)) rfl KR KR KR ?_; intro ax hax; exact HK _ _ _ hax rfl (Below.refl _ _)
                · skip
                  intro a wr hn hd HW hs; have ha := hasNil hn hd
                  have ha := ha.add (seeF hs 34 0 (.int .i64 a2) KR KR)
                  have ha := ha.add (seeF hs 40 6 (.int .i64 ((rdL T_api_Range.z a0.f4 x1663).f0)) KR KR)
                  refine yStep ha 41 KR ?_; intro l_ ha HK
                  refine stepp ha 41 (.bool (decide (a2 ≥ ((rdL T_api_Range.z a0.f4 x1663).f0)))) KR KR ?_; intro ax hax; exact HK _ _ _ hax rfl (Below.refl _ _)
                · skip
                  intro a wr hn hd HW hs; have ha := hasNil hn hd
                  have ha := ha.add (seeF hs 41 7 (.bool (decide (a2 ≥ ((rdL T_api_Range.z a0.f4 x1663).f0)))) KR KR)
                  refine yStep ha 42 KR ?_; intro l_ ha HK
                  refine stepp ha 42 (.bool (decide (a2 ≥ ((rdL T_api_Range.z a0.f4 x1663).f0)))) KR KR ?_; intro ax hax; exact HK _ _ _ hax rfl (Below.refl _ _)
                · skip
                  intro a wr hn hd HW hs; have ha := hasNil hn hd
                  have ha := ha.add (seeE hs 2 (.int .i64 a2) KR KR)
                  have ha := ha.add (seeF hs 42 8 (.bool (decide (a2 ≥ ((rdL T_api_Range.z a0.f4 x1663).f0)))) KR KR)
                  have ha := ha.bool 42 KR (decide_eq_false hp1681)
                  exact yo ha KR rfl
                · skip
                  intro a wr hn hd HW hs; have ha := hasNil hn hd
                  have ha := ha.add (seeE hs 3 (.pointer (some ⟨b1594, 0, none⟩)) KR KR)
                  have ha := ha.add (seeF hs 42 8 (.bool (decide (a2 ≥ ((rdL T_api_Range.z a0.f4 x1663).f0)))) KR KR)
                  have ha := ha.bool 42 KR (decide_eq_false hp1681)
                  exact yo ha KR rfl
                · skip
                  intro a wr hn hd HW hs; have ha := hasNil hn hd
                  have ha := ha.add (seeF hs 44 10 (undef) KR KR)
                  have ha := ha.add (seeF hs 42 8 (.bool (decide (a2 ≥ ((rdL T_api_Range.z a0.f4 x1663).f0)))) KR KR)
                  have ha := ha.bool 42 KR (decide_eq_false hp1681)
                  exact yo ha KR rfl
                · skip
                  intro a wr hn hd HW hs; have ha := hasNil hn hd
                  have ha := ha.add (seeE hs 7 (.int .i64 x1663) KR KR)
                  have ha := ha.add (seeF hs 42 8 (.bool (decide (a2 ≥ ((rdL T_api_Range.z a0.f4 x1663).f0)))) KR KR)
                  have ha := ha.bool 42 KR (decide_eq_false hp1681)
                  exact yo ha KR rfl
                · skip
                  intro a wr hn hd HW hs; have ha := hasNil hn hd
                  have ha := ha.add (seeF hs 45 11 (undef) KR KR)
                  have ha := ha.add (seeF hs 46 12 (undef) KR KR)
                  have ha := ha.add (seeF hs 42 8 (.bool (decide (a2 ≥ ((rdL T_api_Range.z a0.f4 x1663).f0)))) KR KR)
                  have ha := ha.bool 42 KR (decide_eq_false hp1681)
                  exact yo ha KR rfl
                · skip
                  intro a wr hn hd HW hs; have ha := hasNil hn hd
                  have ha := ha.add (seeF hs 47 13 (undef) KR KR)
                  have ha := ha.add (seeF hs 42 8 (.bool (decide (a2 ≥ ((rdL T_api_Range.z a0.f4 x1663).f0)))) KR KR)
                  have ha := ha.bool 42 KR (decide_eq_false hp1681)
                  exact yo ha KR rfl
                · skip
                  intro a wr hn hd HW hs; have ha := hasNil hn hd
                  have ha := ha.add (seeF hs 48 14 (undef) KR KR)
                  have ha := ha.add (seeF hs 42 8 (.bool (decide (a2 ≥ ((rdL T_api_Range.z a0.f4 x1663).f0)))) KR KR)
                  have ha := ha.bool 42 KR (decide_eq_false hp1681)
                  exact yo ha KR rfl
                · skip
                  intro a wr hn hd HW hs; have ha := hasNil hn hd
                  have ha := ha.add (seeF hs 43 9 (undef) KR KR)
                  have ha := ha.add (seeF hs 49 15 (undef) KR KR)
                  have ha := ha.add (seeF hs 42 8 (.bool (decide (a2 ≥ ((rdL T_api_Range.z a0.f4 x1663).f0)))) KR KR)
                  have ha := ha.bool 42 KR (decide_eq_false hp1681)
                  exact yo ha KR rfl
                · skip
                  intro a wr hn hd HW hs; have ha := hasNil hn hd
                  have ha := ha.add (seeE hs 3 (.pointer (some ⟨b1594, 0, none⟩)) KR KR)
                  have ha := ha.add (seeF hs 42 8 (.bool (decide (a2 ≥ ((rdL T_api_Range.z a0.f4 x1663).f0)))) KR KR)
                  have ha := ha.bool 42 KR (decide_eq_false hp1681)
                  exact yo ha KR rfl
                · skip
                  intro a wr hn hd HW hs; have ha := hasNil hn hd
                  have ha := ha.add (seeF hs 51 17 (undef) KR KR)
                  have ha := ha.add (seeF hs 42 8 (.bool (decide (a2 ≥ ((rdL T_api_Range.z a0.f4 x1663).f0)))) KR KR)
                  have ha := ha.bool 42 KR (decide_eq_false hp1681)
                  exact yo ha KR rfl
                · skip
                  intro a wr hn hd HW hs; have ha := hasNil hn hd
                  have ha := ha.add (seeE hs 7 (.int .i64 x1663) KR KR)
                  have ha := ha.add (seeF hs 42 8 (.bool (decide (a2 ≥ ((rdL T_api_Range.z a0.f4 x1663).f0)))) KR KR)
                  have ha := ha.bool 42 KR (decide_eq_false hp1681)
                  exact yo ha KR rfl
                · skip
                  intro a wr hn hd HW hs; have ha := hasNil hn hd
                  have ha := ha.add (seeF hs 52 18 (undef) KR KR)
                  have ha := ha.add (seeF hs 53 19 (undef) KR KR)
                  have ha := ha.add (seeF hs 42 8 (.bool (decide (a2 ≥ ((rdL T_api_Range.z a0.f4 x1663).f0)))) KR KR)
                  have ha := ha.bool 42 KR (decide_eq_false hp1681)
                  exact yo ha KR rfl
                · skip
                  intro a wr hn hd HW hs; have ha := hasNil hn hd
                  have ha := ha.add (seeF hs 54 20 (undef) KR KR)
                  have ha := ha.add (seeF hs 42 8 (.bool (decide (a2 ≥ ((rdL T_api_Range.z a0.f4 x1663).f0)))) KR KR)
                  have ha := ha.bool 42 KR (decide_eq_false hp1681)
                  exact yo ha KR rfl
                · skip
                  intro a wr hn hd HW hs; have ha := hasNil hn hd
                  have ha := ha.add (seeF hs 55 21 (undef) KR KR)
                  have ha := ha.add (seeF hs 42 8 (.bool (decide (a2 ≥ ((rdL T_api_Range.z a0.f4 x1663).f0)))) KR KR)
                  have ha := ha.bool 42 KR (decide_eq_false hp1681)
                  exact yo ha KR rfl
                · skip
                  intro a wr hn hd HW hs; have ha := hasNil hn hd
                  have ha := ha.add (seeF hs 50 16 (undef) KR KR)
                  have ha := ha.add (seeF hs 56 22 (undef) KR KR)
                  have ha := ha.add (seeF hs 42 8 (.bool (decide (a2 ≥ ((rdL T_api_Range.z a0.f4 x1663).f0)))) KR KR)
                  have ha := ha.bool 42 KR (decide_eq_false hp1681)
                  exact yo ha KR rfl
                · skip
                  intro a wr hn hd HW hs; have ha := hasNil hn hd
                  have ha := ha.add (seeF hs 42 8 (.bool (decide (a2 ≥ ((rdL T_api_Range.z a0.f4 x1663).f0)))) KR KR)
                  have ha := ha.bool 42 KR (decide_eq_false hp1681)
                  have ha := ha.add (seeF hs 57 23 (undef) KR KR)
                  refine yStep ha 58 KR ?_; intro l_ ha HK
                  refine stepp ha 58 (.bool false) KR KR ?_; intro ax hax; exact HK _ _ _ hax rfl (Below.refl _ _)
              · skip
                intro a W1685 ha HW he hf
                replace ha := ha.add (he 2 (.int .i64 a2) KR KR)
                replace ha := ha.add (he 3 (.pointer (some ⟨b1594, 0, none⟩)) KR KR)
                replace ha := ha.add (he 7 (.int .i64 x1663) KR KR)
                replace ha := ha.add (gotF (m := 25) (j := 24) (d := 58) (v := .bool false) hf KR KR KR)
                clear he hf
                refine endl ?_
                refine thenN (hK1675 _ _ ?_); clear hK1675
                refine condF ha KR KR (t := false) (rfl) ?_
                refine wp_skip ?_
                refine blkN ?_
                refine thenN (hK1673 _ _ ?_); clear hK1673
                refine wp_region_lit ?_
                refine stepp ha 32 (.int .i64 x1663) KR KR ?_; clear ha a; intro a ha
                refine stepp ha 33 (.int .i64 (IntKind.wrap .i64 (x1663 + 1))) KR KR ?_; clear ha a; intro a ha
                refine stepp ha 7 (.int .i64 (IntKind.wrap .i64 (x1663 + 1))) KR KR ?_; clear ha a; intro a ha
                refine endl ?_
                exact thenN ⟨k1665, Nat.lt_succ_self k1665, IntKind.wrap .i64 (x1663 + 1), (by rw [← hag1666]; exact h), ha.sub (subs_cons KR (subs_cons KR (subs_cons KR (subs_nil _)))), HW.pick [0] [] (by decide) (by decide) KR KR⟩
          · skip
            replace h := ite_neg' h hp1671
            refine condF ha KR KR (t := decide (x1663 < (a0.f4.length : Int))) (decide_eq_false hp1671) ?_
            refine wp_exit ?_
            refine thenE ?_
            refine thenE ?_
            refine inBlk ?_
            refine thenN (hK1612 _ _ ?_); clear hK1612
            refine wp_seq_k (fun K1689 hK1690 => ?_)
            refine wp_region_lit ?_
            refine stepp ha 6 (.bool false) KR KR ?_; clear ha a; intro a ha
            refine endl ?_
            refine thenN (hK1690 _ _ ?_); clear hK1690
            refine wp_ret ?_
            obtain rfl := Option.some.inj h
            exact finv ha _ _ rfl (.tmp (v := .bool false) KR .nil) (.bool false) rfl ⟨rfl, HW.pick [] [] (by decide) (by decide) rfl KR⟩
  · skip
    replace h := ite_neg' h hp1600
    refine condT ha KR KR (t := (a0.f0 != a1)) (ineq_t hp1600) ?_
    refine wp_seq_k (fun K1601 hK1602 => ?_)
    refine wp_region_lit ?_
    refine stepp ha 6 (.bool false) KR KR ?_; clear ha a; intro a ha
    refine endl ?_
    refine thenN (hK1602 _ _ ?_); clear hK1602
    refine wp_ret ?_
    refine thenR ?_
    obtain rfl := Option.some.inj h
    exact finv ha _ _ rfl (.tmp (v := .bool false) KR .nil) (.bool false) rfl ⟨rfl, HW.pick [] [] (by decide) (by decide) rfl KR⟩
/-! ### headgate/headgatekeep.CopyRanges: function 48 -/
def headgatekeep_CopyRanges.f (a0 : List T_api_Range) : Option (List T_api_Range) :=
  asrt (([] : List T_api_Range).length + a0.length ≤ 8796093022208) (some (([] : List T_api_Range) ++ a0))
set_option maxRecDepth 100000 in
set_option maxHeartbeats 4000000 in
theorem headgatekeep_CopyRanges.calls (a0 : List T_api_Range) (A0_0 : Option Addr) (c0_0 : Nat) (r : List T_api_Range) (w : World) (hr0_0 : Rd 2 w (.slice A0_0 a0.length c0_0) a0.length (encs T_api_Range.enc a0)) (h : headgatekeep_CopyRanges.f a0 = some r) :
    Calls Tryz.prog 48 #[.slice A0_0 a0.length c0_0] w (fun e W' => ∃ A_0 c_0, e = .returned (.slice A_0 r.length c_0) ∧ Wd w W' [] [⟨72, 2, .slice A_0 r.length c_0, r.length, encs T_api_Range.enc r⟩] ) := by
  refine sxstart (n := 6) (l := [(0, .slice A0_0 a0.length c0_0)]) Tryz.func48 rfl rfl (Nat.le_of_ble_eq_true KR) (subsA_cons rfl (subsA_nil _)) ?_
  intro a ha
  have HW := Wd.refl w
  unfold headgatekeep_CopyRanges.f at h
  refine wp_seq_k (fun K1691 hK1692 => ?_)
  refine wp_region_lit ?_
  refine stepp ha 2 (.slice none 0 0) KR KR ?_; clear ha a; intro a ha
  refine endl ?_
  refine thenN (hK1692 _ _ ?_); clear hK1692
  refine wp_seq_k (fun K1693 hK1694 => ?_)
  refine wp_region_lit ?_
  refine stepbs ha HW 3 72 2 0 #[] [] (by decide) KR KR KR KR ?_; clear ha HW a; intro b1695 a W1696 HW ha
  replace HW : Wd w W1696 [] [⟨72, 2, .slice (some ⟨b1695, 0, none⟩) ([] : List T_api_Range).length 0, ([] : List T_api_Range).length, encs T_api_Range.enc ([] : List T_api_Range)⟩] := HW
  replace ha := ha.turn 3 (v := .slice (some ⟨b1695, 0, none⟩) ([] : List T_api_Range).length 0) KR rfl
  refine stepp ha 4 (.slice A0_0 a0.length c0_0) KR KR ?_; clear ha a; intro a ha
  obtain ⟨hA1698, h_⟩ := asrt_some h; clear h; have h := h_; clear h_
  refine stepape T_api_Range.enc ha HW 5 0 33 72 (.tmp 3) (.tmp 4) (.agg #[.int .i64 0, .int .i64 0]) 2 16 (.slice (some ⟨b1695, 0, none⟩) ([] : List T_api_Range).length 0) ([] : List T_api_Range) (.slice A0_0 a0.length c0_0) a0 KR rfl KR KR ((HW.rd0 hr0_0)) (fun _ => rfl) KR KR KR (by decide) (by have := hA1698; unfold maxLen; omega) (by have := hA1698; omega) KR ?_; clear ha HW a; intro A1699 c1700 a W1701 HW ha
  refine stepp ha 2 (.slice A1699 (([] : List T_api_Range) ++ a0).length c1700) KR KR ?_; clear ha a; intro a ha
  refine endl ?_
  refine thenN (hK1694 _ _ ?_); clear hK1694
  refine wp_ret ?_
  obtain rfl := Option.some.inj h
  exact finv ha _ _ rfl (.tmp (v := .slice A1699 (([] : List T_api_Range) ++ a0).length c1700) KR .nil) (.slice A1699 (([] : List T_api_Range) ++ a0).length c1700) rfl ⟨A1699, c1700, rfl, HW.pick [] [0] (by decide) (by decide) rfl KR⟩
/-! ### headgate/crc.Right: function 162 -/
def crc_Right.f (K : Nat) (a0 : ByteArray) (a1 : ByteArray) : Option Bool :=
  (crc_Digest.f K a0).bind fun t1714 => (some (a1.toList == t1714.toList))
set_option maxRecDepth 100000 in
set_option maxHeartbeats 4000000 in
theorem crc_Right.calls (K : Nat) (a0 : ByteArray) (a1 : ByteArray)  (r : Bool) (w : World) (hG1 : CA w 1 0 (encs (encI .u32) G_crc_steps).toArray) (h : crc_Right.f K a0 a1 = some r) :
    Calls Tryz.prog 162 #[.string a0, .string a1] w (fun e W' => e = .returned (.bool r) ∧ Wd w W' [] [] ) := by
  refine sxstart (n := 9) (l := [(0, .string a0), (1, .string a1)]) Tryz.func162 rfl rfl (Nat.le_of_ble_eq_true KR) (subsA_cons rfl (subsA_cons rfl (subsA_nil _))) ?_
  intro a ha
  have HW := Wd.refl w
  unfold crc_Right.f at h
  refine wp_seq_k (fun K1710 hK1711 => ?_)
  refine wp_region_lit ?_
  refine stepp ha 4 (.bool false) KR KR ?_; clear ha a; intro a ha
  refine endl ?_
  refine thenN (hK1711 _ _ ?_); clear hK1711
  refine wp_seq_k (fun K1712 hK1713 => ?_)
  refine wp_region_lit ?_
  refine stepp ha 5 (.string a1) KR KR ?_; clear ha a; intro a ha
  refine stepp ha 6 (.string a0) KR KR ?_; clear ha a; intro a ha
  obtain ⟨t1714, ht1715, h_⟩ := bind_some' h; clear h; have h := h_; clear h_
  refine stepc ha 7 KR KR (crc_Digest.calls K a0 t1714 _ (HW.ca0 hG1) ht1715) ?_; clear ha a; rintro e W1716 ⟨rfl, HX1717⟩
  refine ⟨_, rfl, ?_⟩; intro a ha; replace HW := HW.callw HX1717; clear HX1717
  refine stepp ha 8 (.bool (a1.toList == t1714.toList)) KR KR ?_; clear ha a; intro a ha
  refine stepp ha 4 (.bool (a1.toList == t1714.toList)) KR KR ?_; clear ha a; intro a ha
  refine endl ?_
  refine thenN (hK1713 _ _ ?_); clear hK1713
  refine wp_ret ?_
  obtain rfl := Option.some.inj h
  exact finv ha _ _ rfl (.tmp (v := .bool (a1.toList == t1714.toList)) KR .nil) (.bool (a1.toList == t1714.toList)) rfl ⟨rfl, HW.pick [] [] (by decide) (by decide) rfl KR⟩
/-! ### strings.trimLeftByte: function 170 -/
def strings_trimLeftByte.b0 (K : Nat) (a1 : Int) (again1741 : ByteArray → Option ByteArray) (x1742 : ByteArray) : Option ByteArray :=
  if (x1742.size : Int) > 0 then (asrt (0 < (x1742.size : Int)) (if (bt x1742 0) = a1 then (asrt (1 ≤ (x1742.size : Int)) (again1741 (x1742.extract (1 : Int).toNat (x1742).size))) else (some x1742))) else (some x1742)
def strings_trimLeftByte.l0 (K : Nat) (a1 : Int) : Nat → ByteArray → Option ByteArray
  | 0, _ => none
  | k_ + 1, x1742 => strings_trimLeftByte.b0 K a1 (strings_trimLeftByte.l0 K a1 k_) x1742
def strings_trimLeftByte.f (K : Nat) (a0 : ByteArray) (a1 : Int) : Option ByteArray :=
  strings_trimLeftByte.l0 K a1 K a0
set_option maxRecDepth 100000 in
set_option maxHeartbeats 4000000 in
theorem strings_trimLeftByte.calls (K : Nat) (a0 : ByteArray) (a1 : Int)  (r : ByteArray) (w : World)  (h : strings_trimLeftByte.f K a0 a1 = some r) :
    Calls Tryz.prog 170 #[.string a0, .int .u8 a1] w (fun e W' => e = .returned (.string r) ∧ Wd w W' [] [] ) := by
  refine sxstart (n := 17) (l := [(0, .string a0), (1, .int .u8 a1)]) Tryz.func170 rfl rfl (Nat.le_of_ble_eq_true KR) (subsA_cons rfl (subsA_cons rfl (subsA_nil _))) ?_
  intro a ha
  have HW := Wd.refl w
  unfold strings_trimLeftByte.f at h
  refine wp_seq_k (fun K1718 hK1719 => ?_)
  refine wp_region_lit ?_
  refine stepp ha 4 (.string (⟨#[]⟩ : ByteArray)) KR KR ?_; clear ha a; intro a ha
  refine endl ?_
  refine thenN (hK1719 _ _ ?_); clear hK1719
  refine wp_seq_k (fun K1720 hK1721 => ?_)
  refine wp_block ?_
  refine loopk (fun k => fun a W1743 => ∃ (x1742 : ByteArray), strings_trimLeftByte.l0 K a1 k x1742 = some r ∧ Has 17 [(0, .string x1742), (1, .int .u8 a1)] a ∧ Wd w W1743 [] []) K ?_ ?_
  · skip
    exact ⟨a0, h, ha.sub (subs_cons KR (subs_cons KR (subs_nil _))), HW.pick [] [] (by decide) (by decide) KR KR⟩
  · skip
    intro k a W1743 hI
    obtain ⟨x1742, h, ha, HW⟩ := hI
    cases k with
    | zero => exact (none_some (show none = some r from h)).elim
    | succ k1744 =>
      replace h : strings_trimLeftByte.b0 K a1 (strings_trimLeftByte.l0 K a1 k1744) x1742 = some r := h
      obtain ⟨again1741, hag1745⟩ : ∃ g_, g_ = strings_trimLeftByte.l0 K a1 k1744 := ⟨_, rfl⟩
      rw [← hag1745] at h
      unfold strings_trimLeftByte.b0 at h
      refine wp_seq_k (fun K1746 hK1747 => ?_)
      refine wp_seq_k (fun K1748 hK1749 => ?_)
      refine wp_region_lit ?_
      refine stepp ha 5 (.string x1742) KR KR ?_; clear ha a; intro a ha
      refine stepp ha 6 (.int .i64 (x1742.size : Int)) KR KR ?_; clear ha a; intro a ha
      refine stepp ha 7 (.bool (decide ((x1742.size : Int) > 0))) KR KR ?_; clear ha a; intro a ha
      refine stepp ha 8 (.bool (decide ((x1742.size : Int) > 0))) KR KR ?_; clear ha a; intro a ha
      by_cases hp1750 : (x1742.size : Int) > 0
      · skip
        replace h := ite_pos' h hp1750
        replace ha := ha.bool 8 KR (decide_eq_true hp1750)
        refine stepp ha 9 (.string x1742) KR KR ?_; clear ha a; intro a ha
        obtain ⟨hA1751, h_⟩ := asrt_some h; clear h; have h := h_; clear h_
        refine stepsi ha 10 9 (.tmp 9) (.const (.int .i64 0)) x1742 .i64 0 rfl KR KR KR (by decide) (show (0 : Int) < ((x1742).size : Int) from hA1751) KR ?_; clear ha a; intro a ha
        refine stepp ha 11 (.int .u8 a1) KR KR ?_; clear ha a; intro a ha
        refine stepp ha 12 (.bool ((bt x1742 0) == a1)) KR KR ?_; clear ha a; intro a ha
        refine stepp ha 13 (.bool ((bt x1742 0) == a1)) KR KR ?_; clear ha a; intro a ha
        refine endl ?_
        refine thenN (hK1749 _ _ ?_); clear hK1749
        by_cases hp1752 : (bt x1742 0) = a1
        · skip
          replace h := ite_pos' h hp1752
          refine condT ha KR KR (t := ((bt x1742 0) == a1)) (ieq_t hp1752) ?_
          refine wp_skip ?_
          refine thenN (hK1747 _ _ ?_); clear hK1747
          refine wp_block ?_
          refine wp_region_lit ?_
          refine stepp ha 14 (.string x1742) KR KR ?_; clear ha a; intro a ha
          obtain ⟨hA1753, h_⟩ := asrt_some h; clear h; have h := h_; clear h_
          refine stepssl ha 15 9 (.tmp 14) (.const (.int .i64 1)) x1742 .i64 1 rfl KR KR KR (by decide) (show (1 : Int) ≤ ((x1742).size : Int) from hA1753) KR ?_; clear ha a; intro a ha
          refine stepp ha 0 (.string (x1742.extract (1 : Int).toNat (x1742).size)) KR KR ?_; clear ha a; intro a ha
          refine endl ?_
          refine blkN ?_
          exact thenN ⟨k1744, Nat.lt_succ_self k1744, x1742.extract (1 : Int).toNat (x1742).size, (by rw [← hag1745]; exact h), ha.sub (subs_cons KR (subs_cons KR (subs_nil _))), HW.pick [] [] (by decide) (by decide) KR KR⟩
        · skip
          replace h := ite_neg' h hp1752
          refine condF ha KR KR (t := ((bt x1742 0) == a1)) (ieq_f hp1752) ?_
          refine wp_exit ?_
          refine thenE ?_
          refine thenE ?_
          refine inBlk ?_
          refine thenN (hK1721 _ _ ?_); clear hK1721
          refine wp_seq_k (fun K1754 hK1755 => ?_)
          refine wp_region_lit ?_
          refine stepp ha 16 (.string x1742) KR KR ?_; clear ha a; intro a ha
          refine stepp ha 4 (.string x1742) KR KR ?_; clear ha a; intro a ha
          refine endl ?_
          refine thenN (hK1755 _ _ ?_); clear hK1755
          refine wp_ret ?_
          obtain rfl := Option.some.inj h
          exact finv ha _ _ rfl (.tmp (v := .string x1742) KR .nil) (.string x1742) rfl ⟨rfl, HW.pick [] [] (by decide) (by decide) rfl KR⟩
      · skip
        replace h := ite_neg' h hp1750
        replace ha := ha.bool 8 KR (decide_eq_false hp1750)
        refine stepo ha 9 KR ?_; clear ha a; intro a ha
        refine stepo ha 10 KR ?_; clear ha a; intro a ha
        refine stepo ha 11 KR ?_; clear ha a; intro a ha
        refine stepo ha 12 KR ?_; clear ha a; intro a ha
        refine stepp ha 13 (.bool false) KR KR ?_; clear ha a; intro a ha
        refine endl ?_
        refine thenN (hK1749 _ _ ?_); clear hK1749
        refine condF ha KR KR (t := false) (rfl) ?_
        refine wp_exit ?_
        refine thenE ?_
        refine thenE ?_
        refine inBlk ?_
        refine thenN (hK1721 _ _ ?_); clear hK1721
        refine wp_seq_k (fun K1756 hK1757 => ?_)
        refine wp_region_lit ?_
        refine stepp ha 16 (.string x1742) KR KR ?_; clear ha a; intro a ha
        refine stepp ha 4 (.string x1742) KR KR ?_; clear ha a; intro a ha
        refine endl ?_
        refine thenN (hK1757 _ _ ?_); clear hK1757
        refine wp_ret ?_
        obtain rfl := Option.some.inj h
        exact finv ha _ _ rfl (.tmp (v := .string x1742) KR .nil) (.string x1742) rfl ⟨rfl, HW.pick [] [] (by decide) (by decide) rfl KR⟩
/-! ### strings.trimRightByte: function 171 -/
def strings_trimRightByte.b0 (K : Nat) (a1 : Int) (again1783 : ByteArray → Option ByteArray) (x1784 : ByteArray) : Option ByteArray :=
  if (x1784.size : Int) > 0 then (asrt (0 ≤ (IntKind.wrap .i64 ((x1784.size : Int) - 1))) (asrt ((IntKind.wrap .i64 ((x1784.size : Int) - 1)) < (x1784.size : Int)) (if (bt x1784 (IntKind.wrap .i64 ((x1784.size : Int) - 1))) = a1 then (asrt ((IntKind.wrap .i64 ((x1784.size : Int) - 1)) ≤ (x1784.size : Int)) (again1783 (x1784.extract 0 (IntKind.wrap .i64 ((x1784.size : Int) - 1) : Int).toNat))) else (some x1784)))) else (some x1784)
def strings_trimRightByte.l0 (K : Nat) (a1 : Int) : Nat → ByteArray → Option ByteArray
  | 0, _ => none
  | k_ + 1, x1784 => strings_trimRightByte.b0 K a1 (strings_trimRightByte.l0 K a1 k_) x1784
def strings_trimRightByte.f (K : Nat) (a0 : ByteArray) (a1 : Int) : Option ByteArray :=
  strings_trimRightByte.l0 K a1 K a0
set_option maxRecDepth 100000 in
set_option maxHeartbeats 4000000 in
theorem strings_trimRightByte.calls (K : Nat) (a0 : ByteArray) (a1 : Int)  (r : ByteArray) (w : World)  (h : strings_trimRightByte.f K a0 a1 = some r) :
    Calls Tryz.prog 171 #[.string a0, .int .u8 a1] w (fun e W' => e = .returned (.string r) ∧ Wd w W' [] [] ) := by
  refine sxstart (n := 23) (l := [(0, .string a0), (1, .int .u8 a1)]) Tryz.func171 rfl rfl (Nat.le_of_ble_eq_true KR) (subsA_cons rfl (subsA_cons rfl (subsA_nil _))) ?_
  intro a ha
  have HW := Wd.refl w
  unfold strings_trimRightByte.f at h
  refine wp_seq_k (fun K1758 hK1759 => ?_)
  refine wp_region_lit ?_
  refine stepp ha 4 (.string (⟨#[]⟩ : ByteArray)) KR KR ?_; clear ha a; intro a ha
  refine endl ?_
  refine thenN (hK1759 _ _ ?_); clear hK1759
  refine wp_seq_k (fun K1760 hK1761 => ?_)
  refine wp_block ?_
  refine loopk (fun k => fun a W1785 => ∃ (x1784 : ByteArray), strings_trimRightByte.l0 K a1 k x1784 = some r ∧ Has 23 [(0, .string x1784), (1, .int .u8 a1)] a ∧ Wd w W1785 [] []) K ?_ ?_
  · skip
    exact ⟨a0, h, ha.sub (subs_cons KR (subs_cons KR (subs_nil _))), HW.pick [] [] (by decide) (by decide) KR KR⟩
  · skip
    intro k a W1785 hI
    obtain ⟨x1784, h, ha, HW⟩ := hI
    cases k with
    | zero => exact (none_some (show none = some r from h)).elim
    | succ k1786 =>
      replace h : strings_trimRightByte.b0 K a1 (strings_trimRightByte.l0 K a1 k1786) x1784 = some r := h
      obtain ⟨again1783, hag1787⟩ : ∃ g_, g_ = strings_trimRightByte.l0 K a1 k1786 := ⟨_, rfl⟩
      rw [← hag1787] at h
      unfold strings_trimRightByte.b0 at h
      refine wp_seq_k (fun K1788 hK1789 => ?_)
      refine wp_seq_k (fun K1790 hK1791 => ?_)
      refine wp_region_lit ?_
      refine stepp ha 5 (.string x1784) KR KR ?_; clear ha a; intro a ha
      refine stepp ha 6 (.int .i64 (x1784.size : Int)) KR KR ?_; clear ha a; intro a ha
      refine stepp ha 7 (.bool (decide ((x1784.size : Int) > 0))) KR KR ?_; clear ha a; intro a ha
      refine stepp ha 8 (.bool (decide ((x1784.size : Int) > 0))) KR KR ?_; clear ha a; intro a ha
      by_cases hp1792 : (x1784.size : Int) > 0
      · skip
        replace h := ite_pos' h hp1792
        replace ha := ha.bool 8 KR (decide_eq_true hp1792)
        refine stepp ha 9 (.string x1784) KR KR ?_; clear ha a; intro a ha
        refine stepp ha 10 (.string x1784) KR KR ?_; clear ha a; intro a ha
        refine stepp ha 11 (.int .i64 (x1784.size : Int)) KR KR ?_; clear ha a; intro a ha
        refine stepp ha 12 (.int .i64 (IntKind.wrap .i64 ((x1784.size : Int) - 1))) KR KR ?_; clear ha a; intro a ha
        obtain ⟨hA1793, h_⟩ := asrt_some h; clear h; have h := h_; clear h_
        obtain ⟨hA1794, h_⟩ := asrt_some h; clear h; have h := h_; clear h_
        refine stepsi ha 13 9 (.tmp 9) (.tmp 12) x1784 .i64 (IntKind.wrap .i64 ((x1784.size : Int) - 1)) rfl KR KR KR hA1793 (show (IntKind.wrap .i64 ((x1784.size : Int) - 1) : Int) < ((x1784).size : Int) from hA1794) KR ?_; clear ha a; intro a ha
        refine stepp ha 14 (.int .u8 a1) KR KR ?_; clear ha a; intro a ha
        refine stepp ha 15 (.bool ((bt x1784 (IntKind.wrap .i64 ((x1784.size : Int) - 1))) == a1)) KR KR ?_; clear ha a; intro a ha
        refine stepp ha 16 (.bool ((bt x1784 (IntKind.wrap .i64 ((x1784.size : Int) - 1))) == a1)) KR KR ?_; clear ha a; intro a ha
        refine endl ?_
        refine thenN (hK1791 _ _ ?_); clear hK1791
        by_cases hp1795 : (bt x1784 (IntKind.wrap .i64 ((x1784.size : Int) - 1))) = a1
        · skip
          replace h := ite_pos' h hp1795
          refine condT ha KR KR (t := ((bt x1784 (IntKind.wrap .i64 ((x1784.size : Int) - 1))) == a1)) (ieq_t hp1795) ?_
          refine wp_skip ?_
          refine thenN (hK1789 _ _ ?_); clear hK1789
          refine wp_block ?_
          refine wp_region_lit ?_
          refine stepp ha 17 (.string x1784) KR KR ?_; clear ha a; intro a ha
          refine stepp ha 18 (.string x1784) KR KR ?_; clear ha a; intro a ha
          refine stepp ha 19 (.int .i64 (x1784.size : Int)) KR KR ?_; clear ha a; intro a ha
          refine stepp ha 20 (.int .i64 (IntKind.wrap .i64 ((x1784.size : Int) - 1))) KR KR ?_; clear ha a; intro a ha
          obtain ⟨hA1796, h_⟩ := asrt_some h; clear h; have h := h_; clear h_
          refine stepssh ha 21 9 (.tmp 17) (.tmp 20) x1784 .i64 (IntKind.wrap .i64 ((x1784.size : Int) - 1)) rfl KR KR KR hA1793 (show (IntKind.wrap .i64 ((x1784.size : Int) - 1) : Int) ≤ ((x1784).size : Int) from hA1796) KR ?_; clear ha a; intro a ha
          refine stepp ha 0 (.string (x1784.extract 0 (IntKind.wrap .i64 ((x1784.size : Int) - 1) : Int).toNat)) KR KR ?_; clear ha a; intro a ha
          refine endl ?_
          refine blkN ?_
          exact thenN ⟨k1786, Nat.lt_succ_self k1786, x1784.extract 0 (IntKind.wrap .i64 ((x1784.size : Int) - 1) : Int).toNat, (by rw [← hag1787]; exact h), ha.sub (subs_cons KR (subs_cons KR (subs_nil _))), HW.pick [] [] (by decide) (by decide) KR KR⟩
        · skip
          replace h := ite_neg' h hp1795
          refine condF ha KR KR (t := ((bt x1784 (IntKind.wrap .i64 ((x1784.size : Int) - 1))) == a1)) (ieq_f hp1795) ?_
          refine wp_exit ?_
          refine thenE ?_
          refine thenE ?_
          refine inBlk ?_
          refine thenN (hK1761 _ _ ?_); clear hK1761
          refine wp_seq_k (fun K1797 hK1798 => ?_)
          refine wp_region_lit ?_
          refine stepp ha 22 (.string x1784) KR KR ?_; clear ha a; intro a ha
          refine stepp ha 4 (.string x1784) KR KR ?_; clear ha a; intro a ha
          refine endl ?_
          refine thenN (hK1798 _ _ ?_); clear hK1798
          refine wp_ret ?_
          obtain rfl := Option.some.inj h
          exact finv ha _ _ rfl (.tmp (v := .string x1784) KR .nil) (.string x1784) rfl ⟨rfl, HW.pick [] [] (by decide) (by decide) rfl KR⟩
      · skip
        replace h := ite_neg' h hp1792
        replace ha := ha.bool 8 KR (decide_eq_false hp1792)
        refine stepo ha 9 KR ?_; clear ha a; intro a ha
        refine stepo ha 10 KR ?_; clear ha a; intro a ha
        refine stepo ha 11 KR ?_; clear ha a; intro a ha
        refine stepo ha 12 KR ?_; clear ha a; intro a ha
        refine stepo ha 13 KR ?_; clear ha a; intro a ha
        refine stepo ha 14 KR ?_; clear ha a; intro a ha
        refine stepo ha 15 KR ?_; clear ha a; intro a ha
        refine stepp ha 16 (.bool false) KR KR ?_; clear ha a; intro a ha
        refine endl ?_
        refine thenN (hK1791 _ _ ?_); clear hK1791
        refine condF ha KR KR (t := false) (rfl) ?_
        refine wp_exit ?_
        refine thenE ?_
        refine thenE ?_
        refine inBlk ?_
        refine thenN (hK1761 _ _ ?_); clear hK1761
        refine wp_seq_k (fun K1799 hK1800 => ?_)
        refine wp_region_lit ?_
        refine stepp ha 22 (.string x1784) KR KR ?_; clear ha a; intro a ha
        refine stepp ha 4 (.string x1784) KR KR ?_; clear ha a; intro a ha
        refine endl ?_
        refine thenN (hK1800 _ _ ?_); clear hK1800
        refine wp_ret ?_
        obtain rfl := Option.some.inj h
        exact finv ha _ _ rfl (.tmp (v := .string x1784) KR .nil) (.string x1784) rfl ⟨rfl, HW.pick [] [] (by decide) (by decide) rfl KR⟩
end Go.Proofs.YtljpkcaljnahfaaGreatDoor.F
