/- headgate/headgatelaw10.Large, headgate/prout.few, headgate/prout.key, headgate/prout.Keys, headgate/prout.ops, headgate/prout.Change: plain functions, and that the calls come to what they say. No condition. -/
import Derived.Test.YtpjcipadjegmlaaDoorFT
import Derived.Test.YtpjcipadjegmlaaDoorF48
namespace Go.Proofs.YtpjcipadjegmlaaDoor.F
open Go Go.RowKit Go.Proofs.YtpjcipadjegmlaaDoor.X
set_option linter.unusedVariables false
set_option linter.unusedSimpArgs false
/-! ### headgate/headgatelaw10.Large: function 9 -/
def headgatelaw10_Large.b0 (K : Nat) (a0 : T_api_Table) (again54 : Int → Option Bool) (x55 : Int) : Option Bool :=
  if x55 < (a0.f0.length : Int) then (asrt (0 ≤ x55) (if (((rdL T_api_Reg.z a0.f0 x55).f0).size : Int) > 1000 then (some true) else (again54 (IntKind.wrap .i64 (x55 + 1))))) else (some false)
def headgatelaw10_Large.l0 (K : Nat) (a0 : T_api_Table) : Nat → Int → Option Bool
  | 0, _ => none
  | k_ + 1, x55 => headgatelaw10_Large.b0 K a0 (headgatelaw10_Large.l0 K a0 k_) x55
def headgatelaw10_Large.f (K : Nat) (a0 : T_api_Table) : Option Bool :=
  if (a0.f0.length : Int) > 200 then (some true) else (if (a0.f1.f1.size : Int) > 1000 then (some true) else (headgatelaw10_Large.l0 K a0 K 0))
set_option maxRecDepth 100000 in
set_option maxHeartbeats 4000000 in
theorem headgatelaw10_Large.calls (K : Nat) (a0 : T_api_Table) (A0_0 : Option Addr) (c0_0 : Nat) (r : Bool) (w : World) (hr0_0 : Rd 2 w (.slice A0_0 a0.f0.length c0_0) a0.f0.length (encs T_api_Reg.enc a0.f0)) (h : headgatelaw10_Large.f K a0 = some r) :
    Calls Tryd.prog 9 #[.agg #[.slice A0_0 a0.f0.length c0_0, .int .i64 a0.f1.f0, .string a0.f1.f1, .int .u32 a0.f2, .bool a0.f3]] w (fun e W' => e = .returned (.bool r) ∧ Wd w W' [] [] ) := by
  refine sxstart (n := 30) (l := [(0, .agg #[.slice A0_0 a0.f0.length c0_0, .int .i64 a0.f1.f0, .string a0.f1.f1, .int .u32 a0.f2, .bool a0.f3])]) Tryd.func9 rfl rfl (Nat.le_of_ble_eq_true KR) (subsA_cons rfl (subsA_nil _)) ?_
  intro a ha
  have HW := Wd.refl w
  unfold headgatelaw10_Large.f at h
  refine wp_seq_k (fun K1 hK2 => ?_)
  refine wp_region_lit ?_
  refine stepnew ha HW 1 #[.slice A0_0 a0.f0.length c0_0, .int .i64 a0.f1.f0, .string a0.f1.f1, .int .u32 a0.f2, .bool a0.f3] 27 KR KR ?_; clear ha HW a; intro b3 a W4 HW ha
  refine stepp ha 2 (.bool false) KR KR ?_; clear ha a; intro a ha
  refine endl ?_
  refine thenN (hK2 _ _ ?_); clear hK2
  refine wp_seq_k (fun K5 hK6 => ?_)
  refine wp_seq_k (fun K7 hK8 => ?_)
  refine wp_region_lit ?_
  refine stepp ha 4 (.pointer (some ⟨b3, 0, none⟩)) KR KR ?_; clear ha a; intro a ha
  refine stepl ha 5 (HW.ca (i := 0) (b := b3) (C := #[.slice A0_0 a0.f0.length c0_0, .int .i64 a0.f1.f0, .string a0.f1.f1, .int .u32 a0.f2, .bool a0.f3]) (T := 27) (fr := (0, 0)) KR) 22 0 (.tmp 4) (.slice A0_0 a0.f0.length c0_0) rfl KR KR KR ?_; clear ha a; intro a ha
  refine stepp ha 6 (.int .i64 (a0.f0.length : Int)) KR KR ?_; clear ha a; intro a ha
  refine stepp ha 7 (.bool (decide ((a0.f0.length : Int) > 200))) KR KR ?_; clear ha a; intro a ha
  refine stepp ha 8 (.bool (decide ((a0.f0.length : Int) > 200))) KR KR ?_; clear ha a; intro a ha
  by_cases hp9 : (a0.f0.length : Int) > 200
  · skip
    replace h := ite_pos' h hp9
    replace ha := ha.bool 8 KR (decide_eq_true hp9)
    refine stepo ha 9 KR ?_; clear ha a; intro a ha
    refine stepo ha 10 KR ?_; clear ha a; intro a ha
    refine stepo ha 11 KR ?_; clear ha a; intro a ha
    refine stepo ha 12 KR ?_; clear ha a; intro a ha
    refine stepo ha 13 KR ?_; clear ha a; intro a ha
    refine stepp ha 14 (.bool true) KR KR ?_; clear ha a; intro a ha
    refine endl ?_
    refine thenN (hK8 _ _ ?_); clear hK8
    refine condT ha KR KR (t := true) (rfl) ?_
    refine wp_seq_k (fun K10 hK11 => ?_)
    refine wp_region_lit ?_
    refine stepp ha 2 (.bool true) KR KR ?_; clear ha a; intro a ha
    refine endl ?_
    refine thenN (hK11 _ _ ?_); clear hK11
    refine wp_ret ?_
    refine thenR ?_
    obtain rfl := Option.some.inj h
    exact finv ha _ _ rfl (.tmp (v := .bool true) KR .nil) (.bool true) rfl ⟨rfl, HW.pick [] [] (by decide) (by decide) rfl KR⟩
  · skip
    replace h := ite_neg' h hp9
    replace ha := ha.bool 8 KR (decide_eq_false hp9)
    refine stepp ha 9 (.pointer (some ⟨b3, 1, none⟩)) KR KR ?_; clear ha a; intro a ha
    refine stepp ha 10 (.pointer (some ⟨b3, 2, none⟩)) KR KR ?_; clear ha a; intro a ha
    refine stepl ha 11 (HW.ca (i := 0) (b := b3) (C := #[.slice A0_0 a0.f0.length c0_0, .int .i64 a0.f1.f0, .string a0.f1.f1, .int .u32 a0.f2, .bool a0.f3]) (T := 27) (fr := (0, 0)) KR) 9 2 (.tmp 10) (.string a0.f1.f1) rfl KR KR KR ?_; clear ha a; intro a ha
    refine stepp ha 12 (.int .i64 (a0.f1.f1.size : Int)) KR KR ?_; clear ha a; intro a ha
    refine stepp ha 13 (.bool (decide ((a0.f1.f1.size : Int) > 1000))) KR KR ?_; clear ha a; intro a ha
    refine stepp ha 14 (.bool (decide ((a0.f1.f1.size : Int) > 1000))) KR KR ?_; clear ha a; intro a ha
    refine endl ?_
    refine thenN (hK8 _ _ ?_); clear hK8
    by_cases hp12 : (a0.f1.f1.size : Int) > 1000
    · skip
      replace h := ite_pos' h hp12
      refine condT ha KR KR (t := decide ((a0.f1.f1.size : Int) > 1000)) (decide_eq_true hp12) ?_
      refine wp_seq_k (fun K13 hK14 => ?_)
      refine wp_region_lit ?_
      refine stepp ha 2 (.bool true) KR KR ?_; clear ha a; intro a ha
      refine endl ?_
      refine thenN (hK14 _ _ ?_); clear hK14
      refine wp_ret ?_
      refine thenR ?_
      obtain rfl := Option.some.inj h
      exact finv ha _ _ rfl (.tmp (v := .bool true) KR .nil) (.bool true) rfl ⟨rfl, HW.pick [] [] (by decide) (by decide) rfl KR⟩
    · skip
      replace h := ite_neg' h hp12
      refine condF ha KR KR (t := decide ((a0.f1.f1.size : Int) > 1000)) (decide_eq_false hp12) ?_
      refine wp_skip ?_
      refine thenN (hK6 _ _ ?_); clear hK6
      refine wp_seq_k (fun K15 hK16 => ?_)
      refine wp_seq_k (fun K17 hK18 => ?_)
      refine wp_region_lit ?_
      refine stepp ha 3 (.int .i64 0) KR KR ?_; clear ha a; intro a ha
      refine endl ?_
      refine thenN (hK18 _ _ ?_); clear hK18
      refine wp_block ?_
      refine loopk (fun k => fun a W56 => ∃ (x55 : Int), headgatelaw10_Large.l0 K a0 k x55 = some r ∧ Has 30 [(1, .pointer (some ⟨b3, 0, none⟩)), (3, .int .i64 x55)] a ∧ Wd w W56 [(b3, .cells #[.slice A0_0 a0.f0.length c0_0, .int .i64 a0.f1.f0, .string a0.f1.f1, .int .u32 a0.f2, .bool a0.f3] 27 (0, 0))] []) K ?_ ?_
      · skip
        exact ⟨0, h, ha.sub (subs_cons KR (subs_cons KR (subs_nil _))), HW.pick [0] [] (by decide) (by decide) KR KR⟩
      · skip
        intro k a W56 hI
        obtain ⟨x55, h, ha, HW⟩ := hI
        cases k with
        | zero => exact (none_some (show none = some r from h)).elim
        | succ k57 =>
          replace h : headgatelaw10_Large.b0 K a0 (headgatelaw10_Large.l0 K a0 k57) x55 = some r := h
          obtain ⟨again54, hag58⟩ : ∃ g_, g_ = headgatelaw10_Large.l0 K a0 k57 := ⟨_, rfl⟩
          rw [← hag58] at h
          unfold headgatelaw10_Large.b0 at h
          refine wp_seq_k (fun K59 hK60 => ?_)
          refine wp_seq_k (fun K61 hK62 => ?_)
          refine wp_region_lit ?_
          refine stepp ha 15 (.int .i64 x55) KR KR ?_; clear ha a; intro a ha
          refine stepp ha 16 (.pointer (some ⟨b3, 0, none⟩)) KR KR ?_; clear ha a; intro a ha
          refine stepl ha 17 (HW.ca (i := 0) (b := b3) (C := #[.slice A0_0 a0.f0.length c0_0, .int .i64 a0.f1.f0, .string a0.f1.f1, .int .u32 a0.f2, .bool a0.f3]) (T := 27) (fr := (0, 0)) KR) 22 0 (.tmp 16) (.slice A0_0 a0.f0.length c0_0) rfl KR KR KR ?_; clear ha a; intro a ha
          refine stepp ha 18 (.int .i64 (a0.f0.length : Int)) KR KR ?_; clear ha a; intro a ha
          refine stepp ha 19 (.bool (decide (x55 < (a0.f0.length : Int)))) KR KR ?_; clear ha a; intro a ha
          refine endl ?_
          refine thenN (hK62 _ _ ?_); clear hK62
          by_cases hp63 : x55 < (a0.f0.length : Int)
          · skip
            replace h := ite_pos' h hp63
            refine condT ha KR KR (t := decide (x55 < (a0.f0.length : Int))) (decide_eq_true hp63) ?_
            refine wp_skip ?_
            refine thenN (hK60 _ _ ?_); clear hK60
            refine wp_seq_k (fun K64 hK65 => ?_)
            refine wp_block ?_
            refine wp_seq_k (fun K66 hK67 => ?_)
            refine wp_region_lit ?_
            refine stepp ha 22 (.pointer (some ⟨b3, 0, none⟩)) KR KR ?_; clear ha a; intro a ha
            refine stepl ha 23 (HW.ca (i := 0) (b := b3) (C := #[.slice A0_0 a0.f0.length c0_0, .int .i64 a0.f1.f0, .string a0.f1.f1, .int .u32 a0.f2, .bool a0.f3]) (T := 27) (fr := (0, 0)) KR) 22 0 (.tmp 22) (.slice A0_0 a0.f0.length c0_0) rfl KR KR KR ?_; clear ha a; intro a ha
            refine stepp ha 24 (.int .i64 x55) KR KR ?_; clear ha a; intro a ha
            obtain ⟨hA68, h_⟩ := asrt_some h; clear h; have h := h_; clear h_
            refine stepie T_api_Reg.enc T_api_Reg.z ha 25 (fun _ => rfl) (v := .slice A0_0 a0.f0.length c0_0) (xs := a0.f0) ((HW.rd0 hr0_0)) 22 36 (.tmp 23) (.tmp 24) .i64 x55 rfl KR KR KR KR hA68 (show (x55 : Int) < ((a0.f0).length : Int) from hp63) KR ?_; clear ha a; intro b69 off70 a hC71 ha
            refine stepp ha 26 (.pointer (some ⟨b69, off70, none⟩)) KR KR ?_; clear ha a; intro a ha
            refine stepl ha 27 hC71 9 0 (.tmp 26) (.string ((rdL T_api_Reg.z a0.f0 x55).f0)) rfl KR KR KR ?_; clear ha a; intro a ha
            refine stepp ha 28 (.int .i64 (((rdL T_api_Reg.z a0.f0 x55).f0).size : Int)) KR KR ?_; clear ha a; intro a ha
            refine stepp ha 29 (.bool (decide ((((rdL T_api_Reg.z a0.f0 x55).f0).size : Int) > 1000))) KR KR ?_; clear ha a; intro a ha
            refine endl ?_
            refine thenN (hK67 _ _ ?_); clear hK67
            by_cases hp72 : (((rdL T_api_Reg.z a0.f0 x55).f0).size : Int) > 1000
            · skip
              replace h := ite_pos' h hp72
              refine condT ha KR KR (t := decide ((((rdL T_api_Reg.z a0.f0 x55).f0).size : Int) > 1000)) (decide_eq_true hp72) ?_
              refine wp_seq_k (fun K73 hK74 => ?_)
              refine wp_region_lit ?_
              refine stepp ha 2 (.bool true) KR KR ?_; clear ha a; intro a ha
              refine endl ?_
              refine thenN (hK74 _ _ ?_); clear hK74
              refine wp_ret ?_
              refine blkR ?_
              refine thenR ?_
              refine thenR ?_
              refine blkR ?_
              refine thenR ?_
              obtain rfl := Option.some.inj h
              exact finv ha _ _ rfl (.tmp (v := .bool true) KR .nil) (.bool true) rfl ⟨rfl, HW.pick [] [] (by decide) (by decide) rfl KR⟩
            · skip
              replace h := ite_neg' h hp72
              refine condF ha KR KR (t := decide ((((rdL T_api_Reg.z a0.f0 x55).f0).size : Int) > 1000)) (decide_eq_false hp72) ?_
              refine wp_skip ?_
              refine blkN ?_
              refine thenN (hK65 _ _ ?_); clear hK65
              refine wp_region_lit ?_
              refine stepp ha 20 (.int .i64 x55) KR KR ?_; clear ha a; intro a ha
              refine stepp ha 21 (.int .i64 (IntKind.wrap .i64 (x55 + 1))) KR KR ?_; clear ha a; intro a ha
              refine stepp ha 3 (.int .i64 (IntKind.wrap .i64 (x55 + 1))) KR KR ?_; clear ha a; intro a ha
              refine endl ?_
              exact thenN ⟨k57, Nat.lt_succ_self k57, IntKind.wrap .i64 (x55 + 1), (by rw [← hag58]; exact h), ha.sub (subs_cons KR (subs_cons KR (subs_nil _))), HW.pick [0] [] (by decide) (by decide) KR KR⟩
          · skip
            replace h := ite_neg' h hp63
            refine condF ha KR KR (t := decide (x55 < (a0.f0.length : Int))) (decide_eq_false hp63) ?_
            refine wp_exit ?_
            refine thenE ?_
            refine thenE ?_
            refine inBlk ?_
            refine thenN (hK16 _ _ ?_); clear hK16
            refine wp_seq_k (fun K75 hK76 => ?_)
            refine wp_region_lit ?_
            refine stepp ha 2 (.bool false) KR KR ?_; clear ha a; intro a ha
            refine endl ?_
            refine thenN (hK76 _ _ ?_); clear hK76
            refine wp_ret ?_
            obtain rfl := Option.some.inj h
            exact finv ha _ _ rfl (.tmp (v := .bool false) KR .nil) (.bool false) rfl ⟨rfl, HW.pick [] [] (by decide) (by decide) rfl KR⟩
/-! ### headgate/prout.few: function 29 -/
def prout_few.f (a0 : List T_api_Reg) : Option (List T_api_Reg) :=
  asrt (0 ≤ (mn (a0.length : Int) 16)) (asrt ((mn (a0.length : Int) 16) ≤ (a0.length : Int)) (some (a0.take (mn (a0.length : Int) 16 : Int).toNat)))
set_option maxRecDepth 100000 in
set_option maxHeartbeats 4000000 in
theorem prout_few.calls (a0 : List T_api_Reg) (A0_0 : Option Addr) (c0_0 : Nat) (r : List T_api_Reg) (w : World) (hr0_0 : Rd 2 w (.slice A0_0 a0.length c0_0) a0.length (encs T_api_Reg.enc a0)) (h : prout_few.f a0 = some r) :
    Calls Tryd.prog 29 #[.slice A0_0 a0.length c0_0] w (fun e W' => ∃ A_0 c_0, e = .returned (.slice A_0 r.length c_0) ∧ Wd w W' [] [] ∧ (∀ w1, Rd 2 w1 (.slice A0_0 a0.length c0_0) a0.length (encs T_api_Reg.enc a0) → Rd 2 w1 (.slice A_0 r.length c_0) r.length (encs T_api_Reg.enc r))) := by
  refine sxstart (n := 8) (l := [(0, .slice A0_0 a0.length c0_0)]) Tryd.func29 rfl rfl (Nat.le_of_ble_eq_true KR) (subsA_cons rfl (subsA_nil _)) ?_
  intro a ha
  have HW := Wd.refl w
  unfold prout_few.f at h
  refine wp_seq_k (fun K86 hK87 => ?_)
  refine wp_region_lit ?_
  refine stepp ha 2 (.slice none 0 0) KR KR ?_; clear ha a; intro a ha
  refine endl ?_
  refine thenN (hK87 _ _ ?_); clear hK87
  refine wp_seq_k (fun K88 hK89 => ?_)
  refine wp_region_lit ?_
  refine stepp ha 3 (.slice A0_0 a0.length c0_0) KR KR ?_; clear ha a; intro a ha
  refine stepp ha 4 (.slice A0_0 a0.length c0_0) KR KR ?_; clear ha a; intro a ha
  refine stepp ha 5 (.int .i64 (a0.length : Int)) KR KR ?_; clear ha a; intro a ha
  refine stepmn ha 6 #[3, 3] (.tmp 5) (.const (.int .i64 16)) .i64 (a0.length : Int) 16 rfl KR KR KR ?_; clear ha a; intro a ha
  obtain ⟨hA90, h_⟩ := asrt_some h; clear h; have h := h_; clear h_
  obtain ⟨hA91, h_⟩ := asrt_some h; clear h; have h := h_; clear h_
  refine stepslt T_api_Reg.enc ha 7 22 36 2 (fun _ => rfl) (.tmp 3) (.tmp 6) .i64 (mn (a0.length : Int) 16) (A := A0_0) (c := c0_0) a0 rfl KR KR KR KR (Rd.cap ((HW.rd0 hr0_0))) hA90 (show (mn (a0.length : Int) 16 : Int) ≤ ((a0).length : Int) from hA91) KR ?_; clear ha a; intro A92 c93 a hT94 ha
  refine stepp ha 2 (.slice A92 (a0.take (mn (a0.length : Int) 16 : Int).toNat).length c93) KR KR ?_; clear ha a; intro a ha
  refine endl ?_
  refine thenN (hK89 _ _ ?_); clear hK89
  refine wp_ret ?_
  obtain rfl := Option.some.inj h
  exact finv ha _ _ rfl (.tmp (v := .slice A92 (a0.take (mn (a0.length : Int) 16 : Int).toNat).length c93) KR .nil) (.slice A92 (a0.take (mn (a0.length : Int) 16 : Int).toNat).length c93) rfl ⟨A92, c93, rfl, HW.pick [] [] (by decide) (by decide) rfl KR, fun w1 hb_ => hT94 _ hb_⟩
/-! ### headgate/prout.key: function 31 -/
def prout_key.f (K : Nat) (a0 : Int) : Option ByteArray :=
  (fields_PutBig.f K a0 8).bind fun t338 => (some t338)
set_option maxRecDepth 100000 in
set_option maxHeartbeats 4000000 in
theorem prout_key.calls (K : Nat) (a0 : Int)  (r : ByteArray) (w : World)  (h : prout_key.f K a0 = some r) :
    Calls Tryd.prog 31 #[.int .u64 a0] w (fun e W' => e = .returned (.string r) ∧ Wd w W' [] [] ) := by
  refine sxstart (n := 5) (l := [(0, .int .u64 a0)]) Tryd.func31 rfl rfl (Nat.le_of_ble_eq_true KR) (subsA_cons rfl (subsA_nil _)) ?_
  intro a ha
  have HW := Wd.refl w
  unfold prout_key.f at h
  refine wp_seq_k (fun K334 hK335 => ?_)
  refine wp_region_lit ?_
  refine stepp ha 2 (.string (⟨#[]⟩ : ByteArray)) KR KR ?_; clear ha a; intro a ha
  refine endl ?_
  refine thenN (hK335 _ _ ?_); clear hK335
  refine wp_seq_k (fun K336 hK337 => ?_)
  refine wp_region_lit ?_
  refine stepp ha 3 (.int .u64 a0) KR KR ?_; clear ha a; intro a ha
  obtain ⟨t338, ht339, h_⟩ := bind_some' h; clear h; have h := h_; clear h_
  refine stepc ha 4 KR KR (fields_PutBig.calls K a0 8 t338 _ ht339) ?_; clear ha a; rintro e W340 ⟨rfl, HX341⟩
  refine ⟨_, rfl, ?_⟩; intro a ha; replace HW := HW.callw HX341; clear HX341
  refine stepp ha 2 (.string t338) KR KR ?_; clear ha a; intro a ha
  refine endl ?_
  refine thenN (hK337 _ _ ?_); clear hK337
  refine wp_ret ?_
  obtain rfl := Option.some.inj h
  exact finv ha _ _ rfl (.tmp (v := .string t338) KR .nil) (.string t338) rfl ⟨rfl, HW.pick [] [] (by decide) (by decide) rfl KR⟩
/-! ### headgate/prout.Keys: function 11 -/
def prout_Keys.b0 (K : Nat) (t346 : List T_api_Reg) (again414 : ByteArray → Int → Option ByteArray) (x415 : ByteArray) (x416 : Int) : Option ByteArray :=
  if x416 < (t346.length : Int) then (asrt (0 ≤ x416) ((prout_key.f K ((rdL T_api_Reg.z t346 x416).f1)).bind fun t436 => (asrt (x415.size + t436.size ≤ 9223372036854775807) (again414 (x415 ++ t436) (IntKind.wrap .i64 (x416 + 1)))))) else (some x415)
def prout_Keys.l0 (K : Nat) (t346 : List T_api_Reg) : Nat → ByteArray → Int → Option ByteArray
  | 0, _, _ => none
  | k_ + 1, x415, x416 => prout_Keys.b0 K t346 (prout_Keys.l0 K t346 k_) x415 x416
def prout_Keys.f (K : Nat) (a0 : Int) (a1 : List T_api_Reg) : Option ByteArray :=
  (prout_few.f a1).bind fun t346 => ((fields_PutBig.f K (IntKind.wrap .u64 a0) 4).bind fun t355 => ((fields_PutBig.f K (IntKind.wrap .u64 (IntKind.wrap .i64 (8 * (t346.length : Int)))) 4).bind fun t359 => (asrt (t355.size + t359.size ≤ 9223372036854775807) (prout_Keys.l0 K t346 K (t355 ++ t359) 0))))
set_option maxRecDepth 100000 in
set_option maxHeartbeats 4000000 in
theorem prout_Keys.calls (K : Nat) (a0 : Int) (a1 : List T_api_Reg) (A1_0 : Option Addr) (c1_0 : Nat) (r : ByteArray) (w : World) (hr1_0 : Rd 2 w (.slice A1_0 a1.length c1_0) a1.length (encs T_api_Reg.enc a1)) (h : prout_Keys.f K a0 a1 = some r) :
    Calls Tryd.prog 11 #[.int .u32 a0, .slice A1_0 a1.length c1_0] w (fun e W' => e = .returned (.string r) ∧ Wd w W' [] [] ) := by
  refine sxstart (n := 32) (l := [(0, .int .u32 a0), (1, .slice A1_0 a1.length c1_0)]) Tryd.func11 rfl rfl (Nat.le_of_ble_eq_true KR) (subsA_cons rfl (subsA_cons rfl (subsA_nil _))) ?_
  intro a ha
  have HW := Wd.refl w
  unfold prout_Keys.f at h
  refine wp_seq_k (fun K342 hK343 => ?_)
  refine wp_region_lit ?_
  refine stepp ha 4 (.string (⟨#[]⟩ : ByteArray)) KR KR ?_; clear ha a; intro a ha
  refine endl ?_
  refine thenN (hK343 _ _ ?_); clear hK343
  refine wp_seq_k (fun K344 hK345 => ?_)
  refine wp_region_lit ?_
  refine stepp ha 8 (.slice A1_0 a1.length c1_0) KR KR ?_; clear ha a; intro a ha
  obtain ⟨t346, ht347, h_⟩ := bind_some' h; clear h; have h := h_; clear h_
  refine stepc ha 9 KR KR (prout_few.calls a1 A1_0 c1_0 t346 _ ((HW.rd0 hr1_0)) ht347) ?_; clear ha a; rintro e W351 ⟨A348, c349, rfl, HX352, hT350⟩
  refine ⟨_, rfl, ?_⟩; intro a ha; replace HW := HW.callw HX352; clear HX352
  refine stepp ha 1 (.slice A348 t346.length c349) KR KR ?_; clear ha a; intro a ha
  refine endl ?_
  refine thenN (hK345 _ _ ?_); clear hK345
  refine wp_seq_k (fun K353 hK354 => ?_)
  refine wp_region_lit ?_
  refine stepp ha 10 (.int .u32 a0) KR KR ?_; clear ha a; intro a ha
  refine stepp ha 11 (.int .u64 (IntKind.wrap .u64 a0)) KR KR ?_; clear ha a; intro a ha
  obtain ⟨t355, ht356, h_⟩ := bind_some' h; clear h; have h := h_; clear h_
  refine stepc ha 12 KR KR (fields_PutBig.calls K (IntKind.wrap .u64 a0) 4 t355 _ ht356) ?_; clear ha a; rintro e W357 ⟨rfl, HX358⟩
  refine ⟨_, rfl, ?_⟩; intro a ha; replace HW := HW.callw HX358; clear HX358
  refine stepp ha 13 (.slice A348 t346.length c349) KR KR ?_; clear ha a; intro a ha
  refine stepp ha 14 (.int .i64 (t346.length : Int)) KR KR ?_; clear ha a; intro a ha
  refine stepp ha 15 (.int .i64 (IntKind.wrap .i64 (8 * (t346.length : Int)))) KR KR ?_; clear ha a; intro a ha
  refine stepp ha 16 (.int .u64 (IntKind.wrap .u64 (IntKind.wrap .i64 (8 * (t346.length : Int))))) KR KR ?_; clear ha a; intro a ha
  obtain ⟨t359, ht360, h_⟩ := bind_some' h; clear h; have h := h_; clear h_
  refine stepc ha 17 KR KR (fields_PutBig.calls K (IntKind.wrap .u64 (IntKind.wrap .i64 (8 * (t346.length : Int)))) 4 t359 _ ht360) ?_; clear ha a; rintro e W361 ⟨rfl, HX362⟩
  refine ⟨_, rfl, ?_⟩; intro a ha; replace HW := HW.callw HX362; clear HX362
  obtain ⟨hA363, h_⟩ := asrt_some h; clear h; have h := h_; clear h_
  refine stepsa ha 18 9 9 (.tmp 12) (.tmp 17) t355 t359 rfl KR KR (show (t355).size + (t359).size ≤ 9223372036854775807 from hA363) KR ?_; clear ha a; intro a ha
  refine stepp ha 5 (.string (t355 ++ t359)) KR KR ?_; clear ha a; intro a ha
  refine endl ?_
  refine thenN (hK354 _ _ ?_); clear hK354
  refine wp_seq_k (fun K364 hK365 => ?_)
  refine wp_seq_k (fun K366 hK367 => ?_)
  refine wp_region_lit ?_
  refine stepp ha 19 (.slice A348 t346.length c349) KR KR ?_; clear ha a; intro a ha
  refine stepp ha 20 (.int .i64 (t346.length : Int)) KR KR ?_; clear ha a; intro a ha
  refine stepp ha 21 (.int .i64 0) KR KR ?_; clear ha a; intro a ha
  refine endl ?_
  refine thenN (hK367 _ _ ?_); clear hK367
  refine wp_block ?_
  refine loopk (fun k => fun a W417 => ∃ (x415 : ByteArray), ∃ (x416 : Int), prout_Keys.l0 K t346 k x415 x416 = some r ∧ Has 32 [(5, .string x415), (19, .slice A348 t346.length c349), (20, .int .i64 (t346.length : Int)), (21, .int .i64 x416)] a ∧ Wd w W417 [] []) K ?_ ?_
  · skip
    exact ⟨t355 ++ t359, 0, h, ha.sub (subs_cons KR (subs_cons KR (subs_cons KR (subs_cons KR (subs_nil _))))), HW.pick [] [] (by decide) (by decide) KR KR⟩
  · skip
    intro k a W417 hI
    obtain ⟨x415, x416, h, ha, HW⟩ := hI
    cases k with
    | zero => exact (none_some (show none = some r from h)).elim
    | succ k418 =>
      replace h : prout_Keys.b0 K t346 (prout_Keys.l0 K t346 k418) x415 x416 = some r := h
      obtain ⟨again414, hag419⟩ : ∃ g_, g_ = prout_Keys.l0 K t346 k418 := ⟨_, rfl⟩
      rw [← hag419] at h
      unfold prout_Keys.b0 at h
      refine wp_seq_k (fun K420 hK421 => ?_)
      refine wp_region_lit ?_
      refine stepp ha 22 (.bool (decide (x416 < (t346.length : Int)))) KR KR ?_; clear ha a; intro a ha
      refine endl ?_
      refine thenN (hK421 _ _ ?_); clear hK421
      refine wp_seq_k (fun K422 hK423 => ?_)
      by_cases hp424 : x416 < (t346.length : Int)
      · skip
        replace h := ite_pos' h hp424
        refine condT ha KR KR (t := decide (x416 < (t346.length : Int))) (decide_eq_true hp424) ?_
        refine wp_skip ?_
        refine thenN (hK423 _ _ ?_); clear hK423
        refine wp_seq_k (fun K425 hK426 => ?_)
        refine wp_block ?_
        refine wp_seq_k (fun K427 hK428 => ?_)
        refine wp_region_lit ?_
        obtain ⟨hA429, h_⟩ := asrt_some h; clear h; have h := h_; clear h_
        refine stepie T_api_Reg.enc T_api_Reg.z ha 23 (fun _ => rfl) (v := .slice A348 t346.length c349) (xs := t346) (hT350 _ (HW.rd0 hr1_0)) 22 36 (.tmp 19) (.tmp 21) .i64 x416 rfl KR KR KR KR hA429 (show (x416 : Int) < ((t346).length : Int) from hp424) KR ?_; clear ha a; intro b430 off431 a hC432 ha
        refine stepl ha 24 hC432 36 0 (.tmp 23) (.agg #[.string ((rdL T_api_Reg.z t346 x416).f0), .int .u64 ((rdL T_api_Reg.z t346 x416).f1)]) rfl KR KR KR ?_; clear ha a; intro a ha
        refine stepnew ha HW 7 #[.string (⟨#[]⟩ : ByteArray), .int .u64 0] 36 KR KR ?_; clear ha HW a; intro b433 a W434 HW ha
        refine stepst ha HW 0 (b := b433) (C := #[.string (⟨#[]⟩ : ByteArray), .int .u64 0]) (T := 36) KR 36 0 (.tmp 7) (.tmp 24) (.agg #[.string ((rdL T_api_Reg.z t346 x416).f0), .int .u64 ((rdL T_api_Reg.z t346 x416).f1)]) #[.string ((rdL T_api_Reg.z t346 x416).f0), .int .u64 ((rdL T_api_Reg.z t346 x416).f1)] rfl KR KR KR KR KR KR KR ?_; clear ha HW a; intro a W435 HW ha
        refine endl ?_
        refine thenN (hK428 _ _ ?_); clear hK428
        refine wp_region_lit ?_
        refine stepp ha 25 (.string x415) KR KR ?_; clear ha a; intro a ha
        refine stepp ha 26 (.pointer (some ⟨b433, 1, none⟩)) KR KR ?_; clear ha a; intro a ha
        refine stepl ha 27 (HW.ca (i := 0) (b := b433) (C := #[.string ((rdL T_api_Reg.z t346 x416).f0), .int .u64 ((rdL T_api_Reg.z t346 x416).f1)]) (T := 36) (fr := (0, 0)) KR) 32 1 (.tmp 26) (.int .u64 ((rdL T_api_Reg.z t346 x416).f1)) rfl KR KR KR ?_; clear ha a; intro a ha
        obtain ⟨t436, ht437, h_⟩ := bind_some' h; clear h; have h := h_; clear h_
        refine stepc ha 28 KR KR (prout_key.calls K ((rdL T_api_Reg.z t346 x416).f1) t436 _ ht437) ?_; clear ha a; rintro e W438 ⟨rfl, HX439⟩
        refine ⟨_, rfl, ?_⟩; intro a ha; replace HW := HW.callw HX439; clear HX439
        obtain ⟨hA440, h_⟩ := asrt_some h; clear h; have h := h_; clear h_
        refine stepsa ha 29 9 9 (.tmp 25) (.tmp 28) x415 t436 rfl KR KR (show (x415).size + (t436).size ≤ 9223372036854775807 from hA440) KR ?_; clear ha a; intro a ha
        refine stepp ha 5 (.string (x415 ++ t436)) KR KR ?_; clear ha a; intro a ha
        refine endl ?_
        refine blkN ?_
        refine thenN (hK426 _ _ ?_); clear hK426
        refine wp_region_lit ?_
        refine stepp ha 30 (.int .i64 (IntKind.wrap .i64 (x416 + 1))) KR KR ?_; clear ha a; intro a ha
        refine stepp ha 21 (.int .i64 (IntKind.wrap .i64 (x416 + 1))) KR KR ?_; clear ha a; intro a ha
        refine endl ?_
        exact thenN ⟨k418, Nat.lt_succ_self k418, x415 ++ t436, IntKind.wrap .i64 (x416 + 1), (by rw [← hag419]; exact h), ha.sub (subs_cons KR (subs_cons KR (subs_cons KR (subs_cons KR (subs_nil _))))), HW.pick [] [] (by decide) (by decide) KR KR⟩
      · skip
        replace h := ite_neg' h hp424
        refine condF ha KR KR (t := decide (x416 < (t346.length : Int))) (decide_eq_false hp424) ?_
        refine wp_exit ?_
        refine thenE ?_
        refine thenE ?_
        refine inBlk ?_
        refine thenN (hK365 _ _ ?_); clear hK365
        refine wp_seq_k (fun K441 hK442 => ?_)
        refine wp_region_lit ?_
        refine stepp ha 31 (.string x415) KR KR ?_; clear ha a; intro a ha
        refine stepp ha 4 (.string x415) KR KR ?_; clear ha a; intro a ha
        refine endl ?_
        refine thenN (hK442 _ _ ?_); clear hK442
        refine wp_ret ?_
        obtain rfl := Option.some.inj h
        exact finv ha _ _ rfl (.tmp (v := .string x415) KR .nil) (.string x415) rfl ⟨rfl, HW.pick [] [] (by decide) (by decide) rfl KR⟩
/-! ### headgate/prout.ops: function 41 -/
def prout_ops.f  : Option T_arr7_3 :=
  some (⟨8, 9, 10, 11, 12, 0, 8⟩ : T_arr7_3)
set_option maxRecDepth 100000 in
set_option maxHeartbeats 4000000 in
theorem prout_ops.calls   (r : T_arr7_3) (w : World)  (h : prout_ops.f  = some r) :
    Calls Tryd.prog 41 #[] w (fun e W' => e = .returned (.agg #[.int .i64 r.f0, .int .i64 r.f1, .int .i64 r.f2, .int .i64 r.f3, .int .i64 r.f4, .int .i64 r.f5, .int .i64 r.f6]) ∧ Wd w W' [] [] ) := by
  refine sxstart (n := 2) (l := []) Tryd.func41 rfl rfl (Nat.le_of_ble_eq_true KR) (subsA_nil _) ?_
  intro a ha
  have HW := Wd.refl w
  unfold prout_ops.f at h
  refine wp_seq_k (fun K542 hK543 => ?_)
  refine wp_region_lit ?_
  refine stepnew ha HW 0 #[.int .i64 0, .int .i64 0, .int .i64 0, .int .i64 0, .int .i64 0, .int .i64 0, .int .i64 0] 69 KR KR ?_; clear ha HW a; intro b544 a W545 HW ha
  refine endl ?_
  refine thenN (hK543 _ _ ?_); clear hK543
  refine wp_seq_k (fun K546 hK547 => ?_)
  refine wp_region_lit ?_
  refine stepp ha 1 (.agg #[.int .i64 8, .int .i64 9, .int .i64 10, .int .i64 11, .int .i64 12, .int .i64 0, .int .i64 8]) KR KR ?_; clear ha a; intro a ha
  refine stepst ha HW 0 (b := b544) (C := #[.int .i64 0, .int .i64 0, .int .i64 0, .int .i64 0, .int .i64 0, .int .i64 0, .int .i64 0]) (T := 69) KR 69 0 (.tmp 0) (.tmp 1) (.agg #[.int .i64 8, .int .i64 9, .int .i64 10, .int .i64 11, .int .i64 12, .int .i64 0, .int .i64 8]) #[.int .i64 8, .int .i64 9, .int .i64 10, .int .i64 11, .int .i64 12, .int .i64 0, .int .i64 8] rfl KR KR KR KR KR KR KR ?_; clear ha HW a; intro a W548 HW ha
  refine endl ?_
  refine thenN (hK547 _ _ ?_); clear hK547
  refine wp_ret ?_
  obtain rfl := Option.some.inj h
  exact finv ha _ _ rfl (.cell (ad := ⟨b544, 0, none⟩) (v := .agg #[.int .i64 8, .int .i64 9, .int .i64 10, .int .i64 11, .int .i64 12, .int .i64 0, .int .i64 8]) KR (run_loadVar_ca0 (HW.ca (i := 0) (b := b544) (C := #[.int .i64 8, .int .i64 9, .int .i64 10, .int .i64 11, .int .i64 12, .int .i64 0, .int .i64 8]) (T := 69) (fr := (0, 0)) KR) 69 0 (.agg #[.int .i64 8, .int .i64 9, .int .i64 10, .int .i64 11, .int .i64 12, .int .i64 0, .int .i64 8]) KR) .nil) (.agg #[.int .i64 8, .int .i64 9, .int .i64 10, .int .i64 11, .int .i64 12, .int .i64 0, .int .i64 8]) rfl ⟨rfl, HW.pick [] [] (by decide) (by decide) rfl KR⟩
/-! ### headgate/prout.Change: function 28 -/
def prout_Change.j2 (K : Nat) (a0 : Int) (a1 : Int) (t585 : T_arr7_3) (x657 : Bool) (x658 : Int) (x659 : Int) (x660 : Int) (x661 : Bool) (x662 : Int) : Option (T_api_Cmd × Int) :=
  if x657 = true then (some ((⟨rdL (0 : Int) ([t585.f0, t585.f1, t585.f2, t585.f3, t585.f4, t585.f5, t585.f6] : List Int) a0, 0, (⟨#[]⟩ : ByteArray), 0, 0, (⟨#[]⟩ : ByteArray), false, ([] : List T_api_Range), x658, x659, x660, a1, x661, x662⟩ : T_api_Cmd), 0)) else (some ((⟨0, 0, (⟨#[]⟩ : ByteArray), 0, 0, (⟨#[]⟩ : ByteArray), false, ([] : List T_api_Range), 0, 0, 0, 0, false, 0⟩ : T_api_Cmd), 180))
def prout_Change.j1 (K : Nat) (a0 : Int) (a1 : Int) (t585 : T_arr7_3) (t600 : Int × Bool) (t606 : Int × Bool) (x635 : Int) (x643 : Int) : Option (T_api_Cmd × Int) :=
  if (bandNot .u64 t606.1 16777216) = 0 then (prout_Change.j2 K a0 a1 t585 (a1 == 0) x643 t600.1 0 (a0 == 6) x635) else (prout_Change.j2 K a0 a1 t585 false x643 t600.1 0 (a0 == 6) x635)
def prout_Change.j0 (K : Nat) (a0 : Int) (a1 : Int) (t585 : T_arr7_3) (t594 : Int × Bool) (t600 : Int × Bool) (t606 : Int × Bool) (x635 : Int) : Option (T_api_Cmd × Int) :=
  if a0 = 6 then (prout_Change.j1 K a0 a1 t585 t600 t606 x635 0) else (prout_Change.j1 K a0 a1 t585 t600 t606 x635 t594.1)
def prout_Change.f (K : Nat) (a0 : Int) (a1 : Int) (a2 : ByteArray) : Option (T_api_Cmd × Int) :=
  if a0 < 0 then (some ((⟨0, 0, (⟨#[]⟩ : ByteArray), 0, 0, (⟨#[]⟩ : ByteArray), false, ([] : List T_api_Range), 0, 0, 0, 0, false, 0⟩ : T_api_Cmd), 180)) else (if a0 > 6 then (some ((⟨0, 0, (⟨#[]⟩ : ByteArray), 0, 0, (⟨#[]⟩ : ByteArray), false, ([] : List T_api_Range), 0, 0, 0, 0, false, 0⟩ : T_api_Cmd), 180)) else ((prout_ops.f).bind fun t559 => (asrt (0 ≤ a0) (asrt (a0 < 7) (if (rdL (0 : Int) ([t559.f0, t559.f1, t559.f2, t559.f3, t559.f4, t559.f5, t559.f6] : List Int) a0) = 0 then (some ((⟨0, 0, (⟨#[]⟩ : ByteArray), 0, 0, (⟨#[]⟩ : ByteArray), false, ([] : List T_api_Range), 0, 0, 0, 0, false, 0⟩ : T_api_Cmd), 180)) else (if (a2.size : Int) = 24 then ((prout_ops.f).bind fun t585 => ((fields_Big.f K a2 0 8).bind fun t594 => ((fields_Big.f K a2 8 8).bind fun t600 => ((fields_Big.f K a2 16 8).bind fun t606 => (if (rdL (0 : Int) ([t585.f0, t585.f1, t585.f2, t585.f3, t585.f4, t585.f5, t585.f6] : List Int) a0) = 8 then (if (band .u64 (t606.1.fdiv 16777216) 1) = 1 then (prout_Change.j0 K a0 a1 t585 t594 t600 t606 2) else (prout_Change.j0 K a0 a1 t585 t594 t600 t606 1)) else (if (rdL (0 : Int) ([t585.f0, t585.f1, t585.f2, t585.f3, t585.f4, t585.f5, t585.f6] : List Int) a0) = 12 then (if (bandNot .u64 t606.1 16777216) = 0 then (prout_Change.j2 K a0 a1 t585 (!((band .u64 (t606.1.fdiv 16777216) 1) == 1)) t594.1 0 t600.1 false 0) else (prout_Change.j2 K a0 a1 t585 false t594.1 0 t600.1 false 0)) else (if (bandNot .u64 t606.1 16777216) = 0 then (if (band .u64 (t606.1.fdiv 16777216) 1) = 1 then (prout_Change.j2 K a0 a1 t585 false t594.1 0 0 false 0) else (if t600.1 = 0 then (if a1 = 0 then (prout_Change.j2 K a0 a1 t585 true t594.1 0 0 false 0) else (prout_Change.j2 K a0 a1 t585 ((rdL (0 : Int) ([t585.f0, t585.f1, t585.f2, t585.f3, t585.f4, t585.f5, t585.f6] : List Int) a0) != 11) t594.1 0 0 false 0)) else (prout_Change.j2 K a0 a1 t585 false t594.1 0 0 false 0))) else (prout_Change.j2 K a0 a1 t585 false t594.1 0 0 false 0)))))))) else (some ((⟨0, 0, (⟨#[]⟩ : ByteArray), 0, 0, (⟨#[]⟩ : ByteArray), false, ([] : List T_api_Range), 0, 0, 0, 0, false, 0⟩ : T_api_Cmd), 180))))))))
set_option maxRecDepth 100000 in
set_option maxHeartbeats 4000000 in
theorem prout_Change.calls (K : Nat) (a0 : Int) (a1 : Int) (a2 : ByteArray)  (r : T_api_Cmd × Int) (w : World)  (h : prout_Change.f K a0 a1 a2 = some r) :
    Calls Tryd.prog 28 #[.int .i64 a0, .int .i64 a1, .string a2] w (fun e W' => ∃ A_0 c_0, e = .returned (.tuple #[.agg #[.int .i64 r.1.f0, .int .i64 r.1.f1, .string r.1.f2, .int .i64 r.1.f3, .int .i64 r.1.f4, .string r.1.f5, .bool r.1.f6, .slice A_0 r.1.f7.length c_0, .int .u64 r.1.f8, .int .u64 r.1.f9, .int .u64 r.1.f10, .int .i64 r.1.f11, .bool r.1.f12, .int .i64 r.1.f13], .int .i64 r.2]) ∧ Wd w W' [] [⟨112, 2, .slice A_0 r.1.f7.length c_0, r.1.f7.length, encs T_api_Range.enc r.1.f7⟩] ) := by
  refine sxstart (n := 115) (l := [(0, .int .i64 a0), (1, .int .i64 a1), (2, .string a2)]) Tryd.func28 rfl rfl (Nat.le_of_ble_eq_true KR) (subsA_cons rfl (subsA_cons rfl (subsA_cons rfl (subsA_nil _)))) ?_
  intro a ha
  have HW := Wd.refl w
  unfold prout_Change.f at h
  refine wp_seq_k (fun K549 hK550 => ?_)
  refine wp_region_lit ?_
  refine stepnew ha HW 6 #[.int .i64 0, .int .i64 0, .string (⟨#[]⟩ : ByteArray), .int .i64 0, .int .i64 0, .string (⟨#[]⟩ : ByteArray), .bool false, .slice none 0 0, .int .u64 0, .int .u64 0, .int .u64 0, .int .i64 0, .bool false, .int .i64 0] 63 KR KR ?_; clear ha HW a; intro b551 a W552 HW ha
  refine stepp ha 7 (.int .i64 0) KR KR ?_; clear ha a; intro a ha
  refine endl ?_
  refine thenN (hK550 _ _ ?_); clear hK550
  refine wp_seq_k (fun K553 hK554 => ?_)
  refine wp_seq_k (fun K555 hK556 => ?_)
  refine wp_region_lit ?_
  refine stepp ha 17 (.int .i64 a0) KR KR ?_; clear ha a; intro a ha
  refine stepp ha 18 (.bool (decide (a0 < 0))) KR KR ?_; clear ha a; intro a ha
  refine stepp ha 19 (.bool (decide (a0 < 0))) KR KR ?_; clear ha a; intro a ha
  by_cases hp557 : a0 < 0
  · skip
    replace h := ite_pos' h hp557
    replace ha := ha.bool 19 KR (decide_eq_true hp557)
    refine stepo ha 20 KR ?_; clear ha a; intro a ha
    refine stepo ha 21 KR ?_; clear ha a; intro a ha
    refine stepp ha 22 (.bool true) KR KR ?_; clear ha a; intro a ha
    refine stepp ha 23 (.bool true) KR KR ?_; clear ha a; intro a ha
    refine stepo ha 24 KR ?_; clear ha a; intro a ha
    refine stepo ha 25 KR ?_; clear ha a; intro a ha
    refine stepo ha 26 KR ?_; clear ha a; intro a ha
    refine stepo ha 27 KR ?_; clear ha a; intro a ha
    refine stepp ha 28 (.bool true) KR KR ?_; clear ha a; intro a ha
    refine stepp ha 29 (.bool true) KR KR ?_; clear ha a; intro a ha
    refine stepo ha 30 KR ?_; clear ha a; intro a ha
    refine stepo ha 31 KR ?_; clear ha a; intro a ha
    refine stepo ha 32 KR ?_; clear ha a; intro a ha
    refine stepp ha 33 (.bool true) KR KR ?_; clear ha a; intro a ha
    refine endl ?_
    refine thenN (hK556 _ _ ?_); clear hK556
    refine condT ha KR KR (t := true) (rfl) ?_
    refine wp_seq_k (fun K566 hK567 => ?_)
    refine wp_region_lit ?_
    refine stepp ha 34 (.agg #[.int .i64 0, .int .i64 0, .string (⟨#[]⟩ : ByteArray), .int .i64 0, .int .i64 0, .string (⟨#[]⟩ : ByteArray), .bool false, .slice none 0 0, .int .u64 0, .int .u64 0, .int .u64 0, .int .i64 0, .bool false, .int .i64 0]) KR KR ?_; clear ha a; intro a ha
    refine stepst ha HW 0 (b := b551) (C := #[.int .i64 0, .int .i64 0, .string (⟨#[]⟩ : ByteArray), .int .i64 0, .int .i64 0, .string (⟨#[]⟩ : ByteArray), .bool false, .slice none 0 0, .int .u64 0, .int .u64 0, .int .u64 0, .int .i64 0, .bool false, .int .i64 0]) (T := 63) KR 63 0 (.tmp 6) (.tmp 34) (.agg #[.int .i64 0, .int .i64 0, .string (⟨#[]⟩ : ByteArray), .int .i64 0, .int .i64 0, .string (⟨#[]⟩ : ByteArray), .bool false, .slice none 0 0, .int .u64 0, .int .u64 0, .int .u64 0, .int .i64 0, .bool false, .int .i64 0]) #[.int .i64 0, .int .i64 0, .string (⟨#[]⟩ : ByteArray), .int .i64 0, .int .i64 0, .string (⟨#[]⟩ : ByteArray), .bool false, .slice none 0 0, .int .u64 0, .int .u64 0, .int .u64 0, .int .i64 0, .bool false, .int .i64 0] rfl KR KR KR KR KR KR KR ?_; clear ha HW a; intro a W568 HW ha
    refine stepp ha 7 (.int .i64 180) KR KR ?_; clear ha a; intro a ha
    refine endl ?_
    refine thenN (hK567 _ _ ?_); clear hK567
    refine wp_ret ?_
    refine thenR ?_
    obtain rfl := Option.some.inj h
    replace HW := HW.nilo 112 2
    exact finv ha _ _ rfl (.cell (ad := ⟨b551, 0, none⟩) (v := .agg #[.int .i64 0, .int .i64 0, .string (⟨#[]⟩ : ByteArray), .int .i64 0, .int .i64 0, .string (⟨#[]⟩ : ByteArray), .bool false, .slice none 0 0, .int .u64 0, .int .u64 0, .int .u64 0, .int .i64 0, .bool false, .int .i64 0]) KR (run_loadVar_ca0 (HW.ca (i := 0) (b := b551) (C := #[.int .i64 0, .int .i64 0, .string (⟨#[]⟩ : ByteArray), .int .i64 0, .int .i64 0, .string (⟨#[]⟩ : ByteArray), .bool false, .slice none 0 0, .int .u64 0, .int .u64 0, .int .u64 0, .int .i64 0, .bool false, .int .i64 0]) (T := 63) (fr := (0, 0)) KR) 63 0 (.agg #[.int .i64 0, .int .i64 0, .string (⟨#[]⟩ : ByteArray), .int .i64 0, .int .i64 0, .string (⟨#[]⟩ : ByteArray), .bool false, .slice none 0 0, .int .u64 0, .int .u64 0, .int .u64 0, .int .i64 0, .bool false, .int .i64 0]) KR) (.tmp (v := .int .i64 180) KR .nil)) (.tuple #[.agg #[.int .i64 0, .int .i64 0, .string (⟨#[]⟩ : ByteArray), .int .i64 0, .int .i64 0, .string (⟨#[]⟩ : ByteArray), .bool false, .slice none 0 0, .int .u64 0, .int .u64 0, .int .u64 0, .int .i64 0, .bool false, .int .i64 0], .int .i64 180]) rfl ⟨none, 0, rfl, HW.pick [] [0] (by decide) (by decide) rfl KR⟩
  · skip
    replace h := ite_neg' h hp557
    replace ha := ha.bool 19 KR (decide_eq_false hp557)
    refine stepp ha 20 (.int .i64 a0) KR KR ?_; clear ha a; intro a ha
    refine stepp ha 21 (.bool (decide (a0 > 6))) KR KR ?_; clear ha a; intro a ha
    refine stepp ha 22 (.bool (decide (a0 > 6))) KR KR ?_; clear ha a; intro a ha
    refine stepp ha 23 (.bool (decide (a0 > 6))) KR KR ?_; clear ha a; intro a ha
    by_cases hp558 : a0 > 6
    · skip
      replace h := ite_pos' h hp558
      replace ha := ha.bool 23 KR (decide_eq_true hp558)
      refine stepo ha 24 KR ?_; clear ha a; intro a ha
      refine stepo ha 25 KR ?_; clear ha a; intro a ha
      refine stepo ha 26 KR ?_; clear ha a; intro a ha
      refine stepo ha 27 KR ?_; clear ha a; intro a ha
      refine stepp ha 28 (.bool true) KR KR ?_; clear ha a; intro a ha
      refine stepp ha 29 (.bool true) KR KR ?_; clear ha a; intro a ha
      refine stepo ha 30 KR ?_; clear ha a; intro a ha
      refine stepo ha 31 KR ?_; clear ha a; intro a ha
      refine stepo ha 32 KR ?_; clear ha a; intro a ha
      refine stepp ha 33 (.bool true) KR KR ?_; clear ha a; intro a ha
      refine endl ?_
      refine thenN (hK556 _ _ ?_); clear hK556
      refine condT ha KR KR (t := true) (rfl) ?_
      refine wp_seq_k (fun K570 hK571 => ?_)
      refine wp_region_lit ?_
      refine stepp ha 34 (.agg #[.int .i64 0, .int .i64 0, .string (⟨#[]⟩ : ByteArray), .int .i64 0, .int .i64 0, .string (⟨#[]⟩ : ByteArray), .bool false, .slice none 0 0, .int .u64 0, .int .u64 0, .int .u64 0, .int .i64 0, .bool false, .int .i64 0]) KR KR ?_; clear ha a; intro a ha
      refine stepst ha HW 0 (b := b551) (C := #[.int .i64 0, .int .i64 0, .string (⟨#[]⟩ : ByteArray), .int .i64 0, .int .i64 0, .string (⟨#[]⟩ : ByteArray), .bool false, .slice none 0 0, .int .u64 0, .int .u64 0, .int .u64 0, .int .i64 0, .bool false, .int .i64 0]) (T := 63) KR 63 0 (.tmp 6) (.tmp 34) (.agg #[.int .i64 0, .int .i64 0, .string (⟨#[]⟩ : ByteArray), .int .i64 0, .int .i64 0, .string (⟨#[]⟩ : ByteArray), .bool false, .slice none 0 0, .int .u64 0, .int .u64 0, .int .u64 0, .int .i64 0, .bool false, .int .i64 0]) #[.int .i64 0, .int .i64 0, .string (⟨#[]⟩ : ByteArray), .int .i64 0, .int .i64 0, .string (⟨#[]⟩ : ByteArray), .bool false, .slice none 0 0, .int .u64 0, .int .u64 0, .int .u64 0, .int .i64 0, .bool false, .int .i64 0] rfl KR KR KR KR KR KR KR ?_; clear ha HW a; intro a W572 HW ha
      refine stepp ha 7 (.int .i64 180) KR KR ?_; clear ha a; intro a ha
      refine endl ?_
      refine thenN (hK571 _ _ ?_); clear hK571
      refine wp_ret ?_
      refine thenR ?_
      obtain rfl := Option.some.inj h
      replace HW := HW.nilo 112 2
      exact finv ha _ _ rfl (.cell (ad := ⟨b551, 0, none⟩) (v := .agg #[.int .i64 0, .int .i64 0, .string (⟨#[]⟩ : ByteArray), .int .i64 0, .int .i64 0, .string (⟨#[]⟩ : ByteArray), .bool false, .slice none 0 0, .int .u64 0, .int .u64 0, .int .u64 0, .int .i64 0, .bool false, .int .i64 0]) KR (run_loadVar_ca0 (HW.ca (i := 0) (b := b551) (C := #[.int .i64 0, .int .i64 0, .string (⟨#[]⟩ : ByteArray), .int .i64 0, .int .i64 0, .string (⟨#[]⟩ : ByteArray), .bool false, .slice none 0 0, .int .u64 0, .int .u64 0, .int .u64 0, .int .i64 0, .bool false, .int .i64 0]) (T := 63) (fr := (0, 0)) KR) 63 0 (.agg #[.int .i64 0, .int .i64 0, .string (⟨#[]⟩ : ByteArray), .int .i64 0, .int .i64 0, .string (⟨#[]⟩ : ByteArray), .bool false, .slice none 0 0, .int .u64 0, .int .u64 0, .int .u64 0, .int .i64 0, .bool false, .int .i64 0]) KR) (.tmp (v := .int .i64 180) KR .nil)) (.tuple #[.agg #[.int .i64 0, .int .i64 0, .string (⟨#[]⟩ : ByteArray), .int .i64 0, .int .i64 0, .string (⟨#[]⟩ : ByteArray), .bool false, .slice none 0 0, .int .u64 0, .int .u64 0, .int .u64 0, .int .i64 0, .bool false, .int .i64 0], .int .i64 180]) rfl ⟨none, 0, rfl, HW.pick [] [0] (by decide) (by decide) rfl KR⟩
    · skip
      replace h := ite_neg' h hp558
      replace ha := ha.bool 23 KR (decide_eq_false hp558)
      obtain ⟨t559, ht560, h_⟩ := bind_some' h; clear h; have h := h_; clear h_
      refine stepc ha 24 KR KR (prout_ops.calls t559 _ ht560) ?_; clear ha a; rintro e W561 ⟨rfl, HX562⟩
      refine ⟨_, rfl, ?_⟩; intro a ha; replace HW := HW.callw HX562; clear HX562
      refine stepp ha 25 (.int .i64 a0) KR KR ?_; clear ha a; intro a ha
      obtain ⟨hA563, h_⟩ := asrt_some h; clear h; have h := h_; clear h_
      obtain ⟨hA564, h_⟩ := asrt_some h; clear h; have h := h_; clear h_
      refine stepai (Value.int .i64) (0 : Int) ha 26 69 7 3 (.tmp 24) (.tmp 25) .i64 a0 ([t559.f0, t559.f1, t559.f2, t559.f3, t559.f4, t559.f5, t559.f6] : List Int) rfl KR KR KR KR hA563 hA564 KR ?_; clear ha a; intro a ha
      refine stepp ha 27 (.bool ((rdL (0 : Int) ([t559.f0, t559.f1, t559.f2, t559.f3, t559.f4, t559.f5, t559.f6] : List Int) a0) == 0)) KR KR ?_; clear ha a; intro a ha
      refine stepp ha 28 (.bool ((rdL (0 : Int) ([t559.f0, t559.f1, t559.f2, t559.f3, t559.f4, t559.f5, t559.f6] : List Int) a0) == 0)) KR KR ?_; clear ha a; intro a ha
      refine stepp ha 29 (.bool ((rdL (0 : Int) ([t559.f0, t559.f1, t559.f2, t559.f3, t559.f4, t559.f5, t559.f6] : List Int) a0) == 0)) KR KR ?_; clear ha a; intro a ha
      by_cases hp565 : (rdL (0 : Int) ([t559.f0, t559.f1, t559.f2, t559.f3, t559.f4, t559.f5, t559.f6] : List Int) a0) = 0
      · skip
        replace h := ite_pos' h hp565
        replace ha := ha.bool 29 KR (ieq_t hp565)
        refine stepo ha 30 KR ?_; clear ha a; intro a ha
        refine stepo ha 31 KR ?_; clear ha a; intro a ha
        refine stepo ha 32 KR ?_; clear ha a; intro a ha
        refine stepp ha 33 (.bool true) KR KR ?_; clear ha a; intro a ha
        refine endl ?_
        refine thenN (hK556 _ _ ?_); clear hK556
        refine condT ha KR KR (t := true) (rfl) ?_
        refine wp_seq_k (fun K574 hK575 => ?_)
        refine wp_region_lit ?_
        refine stepp ha 34 (.agg #[.int .i64 0, .int .i64 0, .string (⟨#[]⟩ : ByteArray), .int .i64 0, .int .i64 0, .string (⟨#[]⟩ : ByteArray), .bool false, .slice none 0 0, .int .u64 0, .int .u64 0, .int .u64 0, .int .i64 0, .bool false, .int .i64 0]) KR KR ?_; clear ha a; intro a ha
        refine stepst ha HW 0 (b := b551) (C := #[.int .i64 0, .int .i64 0, .string (⟨#[]⟩ : ByteArray), .int .i64 0, .int .i64 0, .string (⟨#[]⟩ : ByteArray), .bool false, .slice none 0 0, .int .u64 0, .int .u64 0, .int .u64 0, .int .i64 0, .bool false, .int .i64 0]) (T := 63) KR 63 0 (.tmp 6) (.tmp 34) (.agg #[.int .i64 0, .int .i64 0, .string (⟨#[]⟩ : ByteArray), .int .i64 0, .int .i64 0, .string (⟨#[]⟩ : ByteArray), .bool false, .slice none 0 0, .int .u64 0, .int .u64 0, .int .u64 0, .int .i64 0, .bool false, .int .i64 0]) #[.int .i64 0, .int .i64 0, .string (⟨#[]⟩ : ByteArray), .int .i64 0, .int .i64 0, .string (⟨#[]⟩ : ByteArray), .bool false, .slice none 0 0, .int .u64 0, .int .u64 0, .int .u64 0, .int .i64 0, .bool false, .int .i64 0] rfl KR KR KR KR KR KR KR ?_; clear ha HW a; intro a W576 HW ha
        refine stepp ha 7 (.int .i64 180) KR KR ?_; clear ha a; intro a ha
        refine endl ?_
        refine thenN (hK575 _ _ ?_); clear hK575
        refine wp_ret ?_
        refine thenR ?_
        obtain rfl := Option.some.inj h
        replace HW := HW.nilo 112 2
        exact finv ha _ _ rfl (.cell (ad := ⟨b551, 0, none⟩) (v := .agg #[.int .i64 0, .int .i64 0, .string (⟨#[]⟩ : ByteArray), .int .i64 0, .int .i64 0, .string (⟨#[]⟩ : ByteArray), .bool false, .slice none 0 0, .int .u64 0, .int .u64 0, .int .u64 0, .int .i64 0, .bool false, .int .i64 0]) KR (run_loadVar_ca0 (HW.ca (i := 0) (b := b551) (C := #[.int .i64 0, .int .i64 0, .string (⟨#[]⟩ : ByteArray), .int .i64 0, .int .i64 0, .string (⟨#[]⟩ : ByteArray), .bool false, .slice none 0 0, .int .u64 0, .int .u64 0, .int .u64 0, .int .i64 0, .bool false, .int .i64 0]) (T := 63) (fr := (0, 0)) KR) 63 0 (.agg #[.int .i64 0, .int .i64 0, .string (⟨#[]⟩ : ByteArray), .int .i64 0, .int .i64 0, .string (⟨#[]⟩ : ByteArray), .bool false, .slice none 0 0, .int .u64 0, .int .u64 0, .int .u64 0, .int .i64 0, .bool false, .int .i64 0]) KR) (.tmp (v := .int .i64 180) KR .nil)) (.tuple #[.agg #[.int .i64 0, .int .i64 0, .string (⟨#[]⟩ : ByteArray), .int .i64 0, .int .i64 0, .string (⟨#[]⟩ : ByteArray), .bool false, .slice none 0 0, .int .u64 0, .int .u64 0, .int .u64 0, .int .i64 0, .bool false, .int .i64 0], .int .i64 180]) rfl ⟨none, 0, rfl, HW.pick [] [0] (by decide) (by decide) rfl KR⟩
      · skip
        replace h := ite_neg' h hp565
        replace ha := ha.bool 29 KR (ieq_f hp565)
        refine stepp ha 30 (.string a2) KR KR ?_; clear ha a; intro a ha
        refine stepp ha 31 (.int .i64 (a2.size : Int)) KR KR ?_; clear ha a; intro a ha
        refine stepp ha 32 (.bool ((a2.size : Int) != 24)) KR KR ?_; clear ha a; intro a ha
        refine stepp ha 33 (.bool ((a2.size : Int) != 24)) KR KR ?_; clear ha a; intro a ha
        refine endl ?_
        refine thenN (hK556 _ _ ?_); clear hK556
        by_cases hp578 : (a2.size : Int) = 24
        · skip
          replace h := ite_pos' h hp578
          refine condF ha KR KR (t := ((a2.size : Int) != 24)) (ineq_f hp578) ?_
          refine wp_skip ?_
          refine thenN (hK554 _ _ ?_); clear hK554
          refine wp_seq_k (fun K583 hK584 => ?_)
          refine wp_region_lit ?_
          obtain ⟨t585, ht586, h_⟩ := bind_some' h; clear h; have h := h_; clear h_
          refine stepc ha 35 KR KR (prout_ops.calls t585 _ ht586) ?_; clear ha a; rintro e W587 ⟨rfl, HX588⟩
          refine ⟨_, rfl, ?_⟩; intro a ha; replace HW := HW.callw HX588; clear HX588
          refine stepp ha 36 (.int .i64 a0) KR KR ?_; clear ha a; intro a ha
          refine stepai (Value.int .i64) (0 : Int) ha 37 69 7 3 (.tmp 35) (.tmp 36) .i64 a0 ([t585.f0, t585.f1, t585.f2, t585.f3, t585.f4, t585.f5, t585.f6] : List Int) rfl KR KR KR KR hA563 hA564 KR ?_; clear ha a; intro a ha
          refine stepp ha 38 (.int .i64 a1) KR KR ?_; clear ha a; intro a ha
          refine stepp ha 39 (.agg #[.int .i64 (rdL (0 : Int) ([t585.f0, t585.f1, t585.f2, t585.f3, t585.f4, t585.f5, t585.f6] : List Int) a0), .int .i64 0, .string (⟨#[]⟩ : ByteArray), .int .i64 0, .int .i64 0, .string (⟨#[]⟩ : ByteArray), .bool false, .slice none 0 0, .int .u64 0, .int .u64 0, .int .u64 0, .int .i64 a1, .bool false, .int .i64 0]) KR KR ?_; clear ha a; intro a ha
          refine stepnew ha HW 8 #[.int .i64 0, .int .i64 0, .string (⟨#[]⟩ : ByteArray), .int .i64 0, .int .i64 0, .string (⟨#[]⟩ : ByteArray), .bool false, .slice none 0 0, .int .u64 0, .int .u64 0, .int .u64 0, .int .i64 0, .bool false, .int .i64 0] 63 KR KR ?_; clear ha HW a; intro b589 a W590 HW ha
          refine stepst ha HW 0 (b := b589) (C := #[.int .i64 0, .int .i64 0, .string (⟨#[]⟩ : ByteArray), .int .i64 0, .int .i64 0, .string (⟨#[]⟩ : ByteArray), .bool false, .slice none 0 0, .int .u64 0, .int .u64 0, .int .u64 0, .int .i64 0, .bool false, .int .i64 0]) (T := 63) KR 63 0 (.tmp 8) (.tmp 39) (.agg #[.int .i64 (rdL (0 : Int) ([t585.f0, t585.f1, t585.f2, t585.f3, t585.f4, t585.f5, t585.f6] : List Int) a0), .int .i64 0, .string (⟨#[]⟩ : ByteArray), .int .i64 0, .int .i64 0, .string (⟨#[]⟩ : ByteArray), .bool false, .slice none 0 0, .int .u64 0, .int .u64 0, .int .u64 0, .int .i64 a1, .bool false, .int .i64 0]) #[.int .i64 (rdL (0 : Int) ([t585.f0, t585.f1, t585.f2, t585.f3, t585.f4, t585.f5, t585.f6] : List Int) a0), .int .i64 0, .string (⟨#[]⟩ : ByteArray), .int .i64 0, .int .i64 0, .string (⟨#[]⟩ : ByteArray), .bool false, .slice none 0 0, .int .u64 0, .int .u64 0, .int .u64 0, .int .i64 a1, .bool false, .int .i64 0] rfl KR KR KR KR KR KR KR ?_; clear ha HW a; intro a W591 HW ha
          refine endl ?_
          refine thenN (hK584 _ _ ?_); clear hK584
          refine wp_seq_k (fun K592 hK593 => ?_)
          refine wp_region_lit ?_
          refine stepp ha 41 (.string a2) KR KR ?_; clear ha a; intro a ha
          obtain ⟨t594, ht595, h_⟩ := bind_some' h; clear h; have h := h_; clear h_
          refine stepc ha 42 KR KR (fields_Big.calls K a2 0 8 t594 _ ht595) ?_; clear ha a; rintro e W596 ⟨rfl, HX597⟩
          refine ⟨_, rfl, ?_⟩; intro a ha; replace HW := HW.callw HX597; clear HX597
          refine stepp ha 40 (.tuple #[.int .u64 t594.1, .bool t594.2]) KR KR ?_; clear ha a; intro a ha
          refine stepp ha 43 (.int .u64 t594.1) KR KR ?_; clear ha a; intro a ha
          refine stepp ha 44 (.bool t594.2) KR KR ?_; clear ha a; intro a ha
          refine stepp ha 9 (.int .u64 t594.1) KR KR ?_; clear ha a; intro a ha
          refine stepp ha 10 (.bool t594.2) KR KR ?_; clear ha a; intro a ha
          refine endl ?_
          refine thenN (hK593 _ _ ?_); clear hK593
          refine wp_seq_k (fun K598 hK599 => ?_)
          refine wp_region_lit ?_
          refine stepp ha 46 (.string a2) KR KR ?_; clear ha a; intro a ha
          obtain ⟨t600, ht601, h_⟩ := bind_some' h; clear h; have h := h_; clear h_
          refine stepc ha 47 KR KR (fields_Big.calls K a2 8 8 t600 _ ht601) ?_; clear ha a; rintro e W602 ⟨rfl, HX603⟩
          refine ⟨_, rfl, ?_⟩; intro a ha; replace HW := HW.callw HX603; clear HX603
          refine stepp ha 45 (.tuple #[.int .u64 t600.1, .bool t600.2]) KR KR ?_; clear ha a; intro a ha
          refine stepp ha 48 (.int .u64 t600.1) KR KR ?_; clear ha a; intro a ha
          refine stepp ha 49 (.bool t600.2) KR KR ?_; clear ha a; intro a ha
          refine stepp ha 11 (.int .u64 t600.1) KR KR ?_; clear ha a; intro a ha
          refine stepp ha 12 (.bool t600.2) KR KR ?_; clear ha a; intro a ha
          refine endl ?_
          refine thenN (hK599 _ _ ?_); clear hK599
          refine wp_seq_k (fun K604 hK605 => ?_)
          refine wp_region_lit ?_
          refine stepp ha 51 (.string a2) KR KR ?_; clear ha a; intro a ha
          obtain ⟨t606, ht607, h_⟩ := bind_some' h; clear h; have h := h_; clear h_
          refine stepc ha 52 KR KR (fields_Big.calls K a2 16 8 t606 _ ht607) ?_; clear ha a; rintro e W608 ⟨rfl, HX609⟩
          refine ⟨_, rfl, ?_⟩; intro a ha; replace HW := HW.callw HX609; clear HX609
          refine stepp ha 50 (.tuple #[.int .u64 t606.1, .bool t606.2]) KR KR ?_; clear ha a; intro a ha
          refine stepp ha 53 (.int .u64 t606.1) KR KR ?_; clear ha a; intro a ha
          refine stepp ha 54 (.bool t606.2) KR KR ?_; clear ha a; intro a ha
          refine stepp ha 13 (.int .u64 t606.1) KR KR ?_; clear ha a; intro a ha
          refine stepp ha 14 (.bool t606.2) KR KR ?_; clear ha a; intro a ha
          refine endl ?_
          refine thenN (hK605 _ _ ?_); clear hK605
          refine wp_seq_k (fun K610 hK611 => ?_)
          refine wp_region_lit ?_
          refine stepp ha 55 (.int .u64 t594.1) KR KR ?_; clear ha a; intro a ha
          refine stepp ha 56 (.pointer (some ⟨b589, 8, none⟩)) KR KR ?_; clear ha a; intro a ha
          refine stepst ha HW 0 (b := b589) (C := #[.int .i64 (rdL (0 : Int) ([t585.f0, t585.f1, t585.f2, t585.f3, t585.f4, t585.f5, t585.f6] : List Int) a0), .int .i64 0, .string (⟨#[]⟩ : ByteArray), .int .i64 0, .int .i64 0, .string (⟨#[]⟩ : ByteArray), .bool false, .slice none 0 0, .int .u64 0, .int .u64 0, .int .u64 0, .int .i64 a1, .bool false, .int .i64 0]) (T := 63) KR 32 8 (.tmp 56) (.tmp 55) (.int .u64 t594.1) #[.int .i64 (rdL (0 : Int) ([t585.f0, t585.f1, t585.f2, t585.f3, t585.f4, t585.f5, t585.f6] : List Int) a0), .int .i64 0, .string (⟨#[]⟩ : ByteArray), .int .i64 0, .int .i64 0, .string (⟨#[]⟩ : ByteArray), .bool false, .slice none 0 0, .int .u64 t594.1, .int .u64 0, .int .u64 0, .int .i64 a1, .bool false, .int .i64 0] rfl KR KR KR KR KR KR KR ?_; clear ha HW a; intro a W612 HW ha
          refine endl ?_
          refine thenN (hK611 _ _ ?_); clear hK611
          refine wp_seq_k (fun K613 hK614 => ?_)
          refine wp_region_lit ?_
          refine stepp ha 57 (.int .u64 t606.1) KR KR ?_; clear ha a; intro a ha
          refine stepp ha 58 (.int .u64 (t606.1.fdiv 16777216)) KR KR ?_; clear ha a; intro a ha
          refine stepp ha 59 (.int .u64 (band .u64 (t606.1.fdiv 16777216) 1)) KR KR ?_; clear ha a; intro a ha
          refine stepp ha 60 (.bool ((band .u64 (t606.1.fdiv 16777216) 1) == 1)) KR KR ?_; clear ha a; intro a ha
          refine stepp ha 15 (.bool ((band .u64 (t606.1.fdiv 16777216) 1) == 1)) KR KR ?_; clear ha a; intro a ha
          refine endl ?_
          refine thenN (hK614 _ _ ?_); clear hK614
          refine wp_seq_k (fun K615 hK616 => ?_)
          refine wp_region_lit ?_
          refine stepp ha 61 (.int .u64 t606.1) KR KR ?_; clear ha a; intro a ha
          refine stepp ha 62 (.int .u64 (bandNot .u64 t606.1 16777216)) KR KR ?_; clear ha a; intro a ha
          refine stepp ha 63 (.bool ((bandNot .u64 t606.1 16777216) == 0)) KR KR ?_; clear ha a; intro a ha
          refine stepp ha 16 (.bool ((bandNot .u64 t606.1 16777216) == 0)) KR KR ?_; clear ha a; intro a ha
          refine endl ?_
          refine thenN (hK616 _ _ ?_); clear hK616
          refine wp_seq_k (fun K617 hK618 => ?_)
          refine cutn (fun a W663 => ∃ (x657 : Bool), ∃ (x658 : Int), ∃ (x659 : Int), ∃ (x660 : Int), ∃ (x661 : Bool), ∃ (x662 : Int), prout_Change.j2 K a0 a1 t585 x657 x658 x659 x660 x661 x662 = some r ∧ Has 115 [(6, .pointer (some ⟨b551, 0, none⟩)), (8, .pointer (some ⟨b589, 0, none⟩)), (16, .bool x657)] a ∧ Wd w W663 [(b551, .cells #[.int .i64 0, .int .i64 0, .string (⟨#[]⟩ : ByteArray), .int .i64 0, .int .i64 0, .string (⟨#[]⟩ : ByteArray), .bool false, .slice none 0 0, .int .u64 0, .int .u64 0, .int .u64 0, .int .i64 0, .bool false, .int .i64 0] 63 (0, 0)), (b589, .cells #[.int .i64 (rdL (0 : Int) ([t585.f0, t585.f1, t585.f2, t585.f3, t585.f4, t585.f5, t585.f6] : List Int) a0), .int .i64 0, .string (⟨#[]⟩ : ByteArray), .int .i64 0, .int .i64 0, .string (⟨#[]⟩ : ByteArray), .bool false, .slice none 0 0, .int .u64 x658, .int .u64 x659, .int .u64 x660, .int .i64 a1, .bool x661, .int .i64 x662] 63 (0, 0))] []) ?_ ?_
          · skip
            refine wp_seq_k (fun K619 hK620 => ?_)
            refine wp_region_lit ?_
            refine stepp ha 64 (.pointer (some ⟨b589, 0, none⟩)) KR KR ?_; clear ha a; intro a ha
            refine stepl ha 65 (HW.ca (i := 0) (b := b589) (C := #[.int .i64 (rdL (0 : Int) ([t585.f0, t585.f1, t585.f2, t585.f3, t585.f4, t585.f5, t585.f6] : List Int) a0), .int .i64 0, .string (⟨#[]⟩ : ByteArray), .int .i64 0, .int .i64 0, .string (⟨#[]⟩ : ByteArray), .bool false, .slice none 0 0, .int .u64 t594.1, .int .u64 0, .int .u64 0, .int .i64 a1, .bool false, .int .i64 0]) (T := 63) (fr := (0, 0)) KR) 3 0 (.tmp 64) (.int .i64 (rdL (0 : Int) ([t585.f0, t585.f1, t585.f2, t585.f3, t585.f4, t585.f5, t585.f6] : List Int) a0)) rfl KR KR KR ?_; clear ha a; intro a ha
            refine endl ?_
            refine thenN (hK620 _ _ ?_); clear hK620
            refine wp_block ?_
            refine wp_seq_k (fun K621 hK622 => ?_)
            refine wp_region_lit ?_
            refine stepp ha 85 (.bool ((rdL (0 : Int) ([t585.f0, t585.f1, t585.f2, t585.f3, t585.f4, t585.f5, t585.f6] : List Int) a0) == 8)) KR KR ?_; clear ha a; intro a ha
            refine stepp ha 84 (.bool ((rdL (0 : Int) ([t585.f0, t585.f1, t585.f2, t585.f3, t585.f4, t585.f5, t585.f6] : List Int) a0) == 8)) KR KR ?_; clear ha a; intro a ha
            refine endl ?_
            refine thenN (hK622 _ _ ?_); clear hK622
            by_cases hp623 : (rdL (0 : Int) ([t585.f0, t585.f1, t585.f2, t585.f3, t585.f4, t585.f5, t585.f6] : List Int) a0) = 8
            · skip
              replace h := ite_pos' h hp623
              refine condT ha KR KR (t := ((rdL (0 : Int) ([t585.f0, t585.f1, t585.f2, t585.f3, t585.f4, t585.f5, t585.f6] : List Int) a0) == 8)) (ieq_t hp623) ?_
              refine wp_seq_k (fun K624 hK625 => ?_)
              refine wp_region_lit ?_
              refine stepp ha 86 (.int .u64 t600.1) KR KR ?_; clear ha a; intro a ha
              refine stepp ha 87 (.int .i64 a0) KR KR ?_; clear ha a; intro a ha
              refine stepp ha 88 (.bool (a0 == 6)) KR KR ?_; clear ha a; intro a ha
              refine stepp ha 89 (.pointer (some ⟨b589, 9, none⟩)) KR KR ?_; clear ha a; intro a ha
              refine stepst ha HW 0 (b := b589) (C := #[.int .i64 (rdL (0 : Int) ([t585.f0, t585.f1, t585.f2, t585.f3, t585.f4, t585.f5, t585.f6] : List Int) a0), .int .i64 0, .string (⟨#[]⟩ : ByteArray), .int .i64 0, .int .i64 0, .string (⟨#[]⟩ : ByteArray), .bool false, .slice none 0 0, .int .u64 t594.1, .int .u64 0, .int .u64 0, .int .i64 a1, .bool false, .int .i64 0]) (T := 63) KR 32 9 (.tmp 89) (.tmp 86) (.int .u64 t600.1) #[.int .i64 (rdL (0 : Int) ([t585.f0, t585.f1, t585.f2, t585.f3, t585.f4, t585.f5, t585.f6] : List Int) a0), .int .i64 0, .string (⟨#[]⟩ : ByteArray), .int .i64 0, .int .i64 0, .string (⟨#[]⟩ : ByteArray), .bool false, .slice none 0 0, .int .u64 t594.1, .int .u64 t600.1, .int .u64 0, .int .i64 a1, .bool false, .int .i64 0] rfl KR KR KR KR KR KR KR ?_; clear ha HW a; intro a W626 HW ha
              refine stepp ha 90 (.pointer (some ⟨b589, 12, none⟩)) KR KR ?_; clear ha a; intro a ha
              refine stepst ha HW 0 (b := b589) (C := #[.int .i64 (rdL (0 : Int) ([t585.f0, t585.f1, t585.f2, t585.f3, t585.f4, t585.f5, t585.f6] : List Int) a0), .int .i64 0, .string (⟨#[]⟩ : ByteArray), .int .i64 0, .int .i64 0, .string (⟨#[]⟩ : ByteArray), .bool false, .slice none 0 0, .int .u64 t594.1, .int .u64 t600.1, .int .u64 0, .int .i64 a1, .bool false, .int .i64 0]) (T := 63) KR 4 12 (.tmp 90) (.tmp 88) (.bool (a0 == 6)) #[.int .i64 (rdL (0 : Int) ([t585.f0, t585.f1, t585.f2, t585.f3, t585.f4, t585.f5, t585.f6] : List Int) a0), .int .i64 0, .string (⟨#[]⟩ : ByteArray), .int .i64 0, .int .i64 0, .string (⟨#[]⟩ : ByteArray), .bool false, .slice none 0 0, .int .u64 t594.1, .int .u64 t600.1, .int .u64 0, .int .i64 a1, .bool (a0 == 6), .int .i64 0] rfl KR KR KR KR KR KR KR ?_; clear ha HW a; intro a W627 HW ha
              refine stepp ha 91 (.pointer (some ⟨b589, 13, none⟩)) KR KR ?_; clear ha a; intro a ha
              refine stepst ha HW 0 (b := b589) (C := #[.int .i64 (rdL (0 : Int) ([t585.f0, t585.f1, t585.f2, t585.f3, t585.f4, t585.f5, t585.f6] : List Int) a0), .int .i64 0, .string (⟨#[]⟩ : ByteArray), .int .i64 0, .int .i64 0, .string (⟨#[]⟩ : ByteArray), .bool false, .slice none 0 0, .int .u64 t594.1, .int .u64 t600.1, .int .u64 0, .int .i64 a1, .bool (a0 == 6), .int .i64 0]) (T := 63) KR 3 13 (.tmp 91) (.const (.int .i64 1)) (.int .i64 1) #[.int .i64 (rdL (0 : Int) ([t585.f0, t585.f1, t585.f2, t585.f3, t585.f4, t585.f5, t585.f6] : List Int) a0), .int .i64 0, .string (⟨#[]⟩ : ByteArray), .int .i64 0, .int .i64 0, .string (⟨#[]⟩ : ByteArray), .bool false, .slice none 0 0, .int .u64 t594.1, .int .u64 t600.1, .int .u64 0, .int .i64 a1, .bool (a0 == 6), .int .i64 1] rfl KR KR KR KR KR KR KR ?_; clear ha HW a; intro a W628 HW ha
              refine endl ?_
              refine thenN (hK625 _ _ ?_); clear hK625
              refine wp_seq_k (fun K629 hK630 => ?_)
              refine cutn (fun a W636 => ∃ (x635 : Int), prout_Change.j0 K a0 a1 t585 t594 t600 t606 x635 = some r ∧ Has 115 [(1, .int .i64 a1), (6, .pointer (some ⟨b551, 0, none⟩)), (8, .pointer (some ⟨b589, 0, none⟩)), (16, .bool ((bandNot .u64 t606.1 16777216) == 0))] a ∧ Wd w W636 [(b551, .cells #[.int .i64 0, .int .i64 0, .string (⟨#[]⟩ : ByteArray), .int .i64 0, .int .i64 0, .string (⟨#[]⟩ : ByteArray), .bool false, .slice none 0 0, .int .u64 0, .int .u64 0, .int .u64 0, .int .i64 0, .bool false, .int .i64 0] 63 (0, 0)), (b589, .cells #[.int .i64 (rdL (0 : Int) ([t585.f0, t585.f1, t585.f2, t585.f3, t585.f4, t585.f5, t585.f6] : List Int) a0), .int .i64 0, .string (⟨#[]⟩ : ByteArray), .int .i64 0, .int .i64 0, .string (⟨#[]⟩ : ByteArray), .bool false, .slice none 0 0, .int .u64 t594.1, .int .u64 t600.1, .int .u64 0, .int .i64 a1, .bool (a0 == 6), .int .i64 x635] 63 (0, 0))] []) ?_ ?_
              · skip
                refine wp_seq_k (fun K631 hK632 => ?_)
                refine wp_region_lit ?_
                refine stepp ha 92 (.bool ((band .u64 (t606.1.fdiv 16777216) 1) == 1)) KR KR ?_; clear ha a; intro a ha
                refine endl ?_
                refine thenN (hK632 _ _ ?_); clear hK632
                by_cases hp633 : (band .u64 (t606.1.fdiv 16777216) 1) = 1
                · skip
                  replace h := ite_pos' h hp633
                  refine condT ha KR KR (t := ((band .u64 (t606.1.fdiv 16777216) 1) == 1)) (ieq_t hp633) ?_
                  refine wp_region_lit ?_
                  refine stepp ha 93 (.pointer (some ⟨b589, 13, none⟩)) KR KR ?_; clear ha a; intro a ha
                  refine stepst ha HW 0 (b := b589) (C := #[.int .i64 (rdL (0 : Int) ([t585.f0, t585.f1, t585.f2, t585.f3, t585.f4, t585.f5, t585.f6] : List Int) a0), .int .i64 0, .string (⟨#[]⟩ : ByteArray), .int .i64 0, .int .i64 0, .string (⟨#[]⟩ : ByteArray), .bool false, .slice none 0 0, .int .u64 t594.1, .int .u64 t600.1, .int .u64 0, .int .i64 a1, .bool (a0 == 6), .int .i64 1]) (T := 63) KR 3 13 (.tmp 93) (.const (.int .i64 2)) (.int .i64 2) #[.int .i64 (rdL (0 : Int) ([t585.f0, t585.f1, t585.f2, t585.f3, t585.f4, t585.f5, t585.f6] : List Int) a0), .int .i64 0, .string (⟨#[]⟩ : ByteArray), .int .i64 0, .int .i64 0, .string (⟨#[]⟩ : ByteArray), .bool false, .slice none 0 0, .int .u64 t594.1, .int .u64 t600.1, .int .u64 0, .int .i64 a1, .bool (a0 == 6), .int .i64 2] rfl KR KR KR KR KR KR KR ?_; clear ha HW a; intro a W634 HW ha
                  refine endl ?_
                  exact thenN ⟨2, h, ha.sub (subs_cons KR (subs_cons KR (subs_cons KR (subs_cons KR (subs_nil _))))), HW.pick [1, 0] [] (by decide) (by decide) KR KR⟩
                · skip
                  replace h := ite_neg' h hp633
                  refine condF ha KR KR (t := ((band .u64 (t606.1.fdiv 16777216) 1) == 1)) (ieq_f hp633) ?_
                  refine wp_skip ?_
                  exact thenN ⟨1, h, ha.sub (subs_cons KR (subs_cons KR (subs_cons KR (subs_cons KR (subs_nil _))))), HW.pick [1, 0] [] (by decide) (by decide) KR KR⟩
              · skip
                intro a W636 hJ
                obtain ⟨x635, h, ha, HW⟩ := hJ
                replace h : prout_Change.j0 K a0 a1 t585 t594 t600 t606 x635 = some r := h
                unfold prout_Change.j0 at h
                refine hK630 _ _ ?_; clear hK630
                refine wp_seq_k (fun K637 hK638 => ?_)
                refine cutn (fun a W644 => ∃ (x643 : Int), prout_Change.j1 K a0 a1 t585 t600 t606 x635 x643 = some r ∧ Has 115 [(1, .int .i64 a1), (6, .pointer (some ⟨b551, 0, none⟩)), (8, .pointer (some ⟨b589, 0, none⟩)), (16, .bool ((bandNot .u64 t606.1 16777216) == 0))] a ∧ Wd w W644 [(b551, .cells #[.int .i64 0, .int .i64 0, .string (⟨#[]⟩ : ByteArray), .int .i64 0, .int .i64 0, .string (⟨#[]⟩ : ByteArray), .bool false, .slice none 0 0, .int .u64 0, .int .u64 0, .int .u64 0, .int .i64 0, .bool false, .int .i64 0] 63 (0, 0)), (b589, .cells #[.int .i64 (rdL (0 : Int) ([t585.f0, t585.f1, t585.f2, t585.f3, t585.f4, t585.f5, t585.f6] : List Int) a0), .int .i64 0, .string (⟨#[]⟩ : ByteArray), .int .i64 0, .int .i64 0, .string (⟨#[]⟩ : ByteArray), .bool false, .slice none 0 0, .int .u64 x643, .int .u64 t600.1, .int .u64 0, .int .i64 a1, .bool (a0 == 6), .int .i64 x635] 63 (0, 0))] []) ?_ ?_
                · skip
                  refine wp_seq_k (fun K639 hK640 => ?_)
                  refine wp_region_lit ?_
                  refine stepp ha 94 (.pointer (some ⟨b589, 12, none⟩)) KR KR ?_; clear ha a; intro a ha
                  refine stepl ha 95 (HW.ca (i := 1) (b := b589) (C := #[.int .i64 (rdL (0 : Int) ([t585.f0, t585.f1, t585.f2, t585.f3, t585.f4, t585.f5, t585.f6] : List Int) a0), .int .i64 0, .string (⟨#[]⟩ : ByteArray), .int .i64 0, .int .i64 0, .string (⟨#[]⟩ : ByteArray), .bool false, .slice none 0 0, .int .u64 t594.1, .int .u64 t600.1, .int .u64 0, .int .i64 a1, .bool (a0 == 6), .int .i64 x635]) (T := 63) (fr := (0, 0)) KR) 4 12 (.tmp 94) (.bool (a0 == 6)) rfl KR KR KR ?_; clear ha a; intro a ha
                  refine endl ?_
                  refine thenN (hK640 _ _ ?_); clear hK640
                  by_cases hp641 : a0 = 6
                  · skip
                    replace h := ite_pos' h hp641
                    refine condT ha KR KR (t := (a0 == 6)) (ieq_t hp641) ?_
                    refine wp_region_lit ?_
                    refine stepp ha 96 (.pointer (some ⟨b589, 8, none⟩)) KR KR ?_; clear ha a; intro a ha
                    refine stepst ha HW 1 (b := b589) (C := #[.int .i64 (rdL (0 : Int) ([t585.f0, t585.f1, t585.f2, t585.f3, t585.f4, t585.f5, t585.f6] : List Int) a0), .int .i64 0, .string (⟨#[]⟩ : ByteArray), .int .i64 0, .int .i64 0, .string (⟨#[]⟩ : ByteArray), .bool false, .slice none 0 0, .int .u64 t594.1, .int .u64 t600.1, .int .u64 0, .int .i64 a1, .bool (a0 == 6), .int .i64 x635]) (T := 63) KR 32 8 (.tmp 96) (.const (.int .u64 0)) (.int .u64 0) #[.int .i64 (rdL (0 : Int) ([t585.f0, t585.f1, t585.f2, t585.f3, t585.f4, t585.f5, t585.f6] : List Int) a0), .int .i64 0, .string (⟨#[]⟩ : ByteArray), .int .i64 0, .int .i64 0, .string (⟨#[]⟩ : ByteArray), .bool false, .slice none 0 0, .int .u64 0, .int .u64 t600.1, .int .u64 0, .int .i64 a1, .bool (a0 == 6), .int .i64 x635] rfl KR KR KR KR KR KR KR ?_; clear ha HW a; intro a W642 HW ha
                    refine endl ?_
                    exact thenN ⟨0, h, ha.sub (subs_cons KR (subs_cons KR (subs_cons KR (subs_cons KR (subs_nil _))))), HW.pick [0, 1] [] (by decide) (by decide) KR KR⟩
                  · skip
                    replace h := ite_neg' h hp641
                    refine condF ha KR KR (t := (a0 == 6)) (ieq_f hp641) ?_
                    refine wp_skip ?_
                    exact thenN ⟨t594.1, h, ha.sub (subs_cons KR (subs_cons KR (subs_cons KR (subs_cons KR (subs_nil _))))), HW.pick [0, 1] [] (by decide) (by decide) KR KR⟩
                · skip
                  intro a W644 hJ
                  obtain ⟨x643, h, ha, HW⟩ := hJ
                  replace h : prout_Change.j1 K a0 a1 t585 t600 t606 x635 x643 = some r := h
                  unfold prout_Change.j1 at h
                  refine hK638 _ _ ?_; clear hK638
                  refine wp_region_lit ?_
                  refine stepp ha 97 (.bool ((bandNot .u64 t606.1 16777216) == 0)) KR KR ?_; clear ha a; intro a ha
                  refine stepp ha 98 (.bool ((bandNot .u64 t606.1 16777216) == 0)) KR KR ?_; clear ha a; intro a ha
                  by_cases hp645 : (bandNot .u64 t606.1 16777216) = 0
                  · skip
                    replace h := ite_pos' h hp645
                    replace ha := ha.bool 98 KR (ieq_t hp645)
                    refine stepp ha 99 (.int .i64 a1) KR KR ?_; clear ha a; intro a ha
                    refine stepp ha 100 (.bool (a1 == 0)) KR KR ?_; clear ha a; intro a ha
                    refine stepp ha 101 (.bool (a1 == 0)) KR KR ?_; clear ha a; intro a ha
                    refine stepp ha 16 (.bool (a1 == 0)) KR KR ?_; clear ha a; intro a ha
                    refine endl ?_
                    refine blkN ?_
                    exact thenN ⟨(a1 == 0), x643, t600.1, 0, (a0 == 6), x635, h, ha.sub (subs_cons KR (subs_cons KR (subs_cons KR (subs_nil _)))), HW.pick [0, 1] [] (by decide) (by decide) KR KR⟩
                  · skip
                    replace h := ite_neg' h hp645
                    replace ha := ha.bool 98 KR (ieq_f hp645)
                    refine stepo ha 99 KR ?_; clear ha a; intro a ha
                    refine stepo ha 100 KR ?_; clear ha a; intro a ha
                    refine stepp ha 101 (.bool false) KR KR ?_; clear ha a; intro a ha
                    refine stepp ha 16 (.bool false) KR KR ?_; clear ha a; intro a ha
                    refine endl ?_
                    refine blkN ?_
                    exact thenN ⟨false, x643, t600.1, 0, (a0 == 6), x635, h, ha.sub (subs_cons KR (subs_cons KR (subs_cons KR (subs_nil _)))), HW.pick [0, 1] [] (by decide) (by decide) KR KR⟩
            · skip
              replace h := ite_neg' h hp623
              refine condF ha KR KR (t := ((rdL (0 : Int) ([t585.f0, t585.f1, t585.f2, t585.f3, t585.f4, t585.f5, t585.f6] : List Int) a0) == 8)) (ieq_f hp623) ?_
              refine wp_seq_k (fun K646 hK647 => ?_)
              refine wp_region_lit ?_
              refine stepp ha 103 (.bool ((rdL (0 : Int) ([t585.f0, t585.f1, t585.f2, t585.f3, t585.f4, t585.f5, t585.f6] : List Int) a0) == 12)) KR KR ?_; clear ha a; intro a ha
              refine stepp ha 102 (.bool ((rdL (0 : Int) ([t585.f0, t585.f1, t585.f2, t585.f3, t585.f4, t585.f5, t585.f6] : List Int) a0) == 12)) KR KR ?_; clear ha a; intro a ha
              refine endl ?_
              refine thenN (hK647 _ _ ?_); clear hK647
              by_cases hp648 : (rdL (0 : Int) ([t585.f0, t585.f1, t585.f2, t585.f3, t585.f4, t585.f5, t585.f6] : List Int) a0) = 12
              · skip
                replace h := ite_pos' h hp648
                refine condT ha KR KR (t := ((rdL (0 : Int) ([t585.f0, t585.f1, t585.f2, t585.f3, t585.f4, t585.f5, t585.f6] : List Int) a0) == 12)) (ieq_t hp648) ?_
                refine wp_seq_k (fun K649 hK650 => ?_)
                refine wp_region_lit ?_
                refine stepp ha 104 (.int .u64 t600.1) KR KR ?_; clear ha a; intro a ha
                refine stepp ha 105 (.pointer (some ⟨b589, 10, none⟩)) KR KR ?_; clear ha a; intro a ha
                refine stepst ha HW 0 (b := b589) (C := #[.int .i64 (rdL (0 : Int) ([t585.f0, t585.f1, t585.f2, t585.f3, t585.f4, t585.f5, t585.f6] : List Int) a0), .int .i64 0, .string (⟨#[]⟩ : ByteArray), .int .i64 0, .int .i64 0, .string (⟨#[]⟩ : ByteArray), .bool false, .slice none 0 0, .int .u64 t594.1, .int .u64 0, .int .u64 0, .int .i64 a1, .bool false, .int .i64 0]) (T := 63) KR 32 10 (.tmp 105) (.tmp 104) (.int .u64 t600.1) #[.int .i64 (rdL (0 : Int) ([t585.f0, t585.f1, t585.f2, t585.f3, t585.f4, t585.f5, t585.f6] : List Int) a0), .int .i64 0, .string (⟨#[]⟩ : ByteArray), .int .i64 0, .int .i64 0, .string (⟨#[]⟩ : ByteArray), .bool false, .slice none 0 0, .int .u64 t594.1, .int .u64 0, .int .u64 t600.1, .int .i64 a1, .bool false, .int .i64 0] rfl KR KR KR KR KR KR KR ?_; clear ha HW a; intro a W651 HW ha
                refine endl ?_
                refine thenN (hK650 _ _ ?_); clear hK650
                refine wp_region_lit ?_
                refine stepp ha 106 (.bool ((bandNot .u64 t606.1 16777216) == 0)) KR KR ?_; clear ha a; intro a ha
                refine stepp ha 107 (.bool ((bandNot .u64 t606.1 16777216) == 0)) KR KR ?_; clear ha a; intro a ha
                by_cases hp652 : (bandNot .u64 t606.1 16777216) = 0
                · skip
                  replace h := ite_pos' h hp652
                  replace ha := ha.bool 107 KR (ieq_t hp652)
                  refine stepp ha 108 (.bool ((band .u64 (t606.1.fdiv 16777216) 1) == 1)) KR KR ?_; clear ha a; intro a ha
                  refine stepp ha 109 (.bool (!((band .u64 (t606.1.fdiv 16777216) 1) == 1))) KR KR ?_; clear ha a; intro a ha
                  refine stepp ha 110 (.bool (!((band .u64 (t606.1.fdiv 16777216) 1) == 1))) KR KR ?_; clear ha a; intro a ha
                  refine stepp ha 16 (.bool (!((band .u64 (t606.1.fdiv 16777216) 1) == 1))) KR KR ?_; clear ha a; intro a ha
                  refine endl ?_
                  refine blkN ?_
                  exact thenN ⟨(!((band .u64 (t606.1.fdiv 16777216) 1) == 1)), t594.1, 0, t600.1, false, 0, h, ha.sub (subs_cons KR (subs_cons KR (subs_cons KR (subs_nil _)))), HW.pick [1, 0] [] (by decide) (by decide) KR KR⟩
                · skip
                  replace h := ite_neg' h hp652
                  replace ha := ha.bool 107 KR (ieq_f hp652)
                  refine stepo ha 108 KR ?_; clear ha a; intro a ha
                  refine stepo ha 109 KR ?_; clear ha a; intro a ha
                  refine stepp ha 110 (.bool false) KR KR ?_; clear ha a; intro a ha
                  refine stepp ha 16 (.bool false) KR KR ?_; clear ha a; intro a ha
                  refine endl ?_
                  refine blkN ?_
                  exact thenN ⟨false, t594.1, 0, t600.1, false, 0, h, ha.sub (subs_cons KR (subs_cons KR (subs_cons KR (subs_nil _)))), HW.pick [1, 0] [] (by decide) (by decide) KR KR⟩
              · skip
                replace h := ite_neg' h hp648
                refine condF ha KR KR (t := ((rdL (0 : Int) ([t585.f0, t585.f1, t585.f2, t585.f3, t585.f4, t585.f5, t585.f6] : List Int) a0) == 12)) (ieq_f hp648) ?_
                refine wp_region_lit ?_
                refine stepp ha 66 (.bool ((bandNot .u64 t606.1 16777216) == 0)) KR KR ?_; clear ha a; intro a ha
                refine stepp ha 67 (.bool ((bandNot .u64 t606.1 16777216) == 0)) KR KR ?_; clear ha a; intro a ha
                by_cases hp653 : (bandNot .u64 t606.1 16777216) = 0
                · skip
                  replace h := ite_pos' h hp653
                  replace ha := ha.bool 67 KR (ieq_t hp653)
                  refine stepp ha 68 (.bool ((band .u64 (t606.1.fdiv 16777216) 1) == 1)) KR KR ?_; clear ha a; intro a ha
                  refine stepp ha 69 (.bool (!((band .u64 (t606.1.fdiv 16777216) 1) == 1))) KR KR ?_; clear ha a; intro a ha
                  refine stepp ha 70 (.bool (!((band .u64 (t606.1.fdiv 16777216) 1) == 1))) KR KR ?_; clear ha a; intro a ha
                  refine stepp ha 71 (.bool (!((band .u64 (t606.1.fdiv 16777216) 1) == 1))) KR KR ?_; clear ha a; intro a ha
                  by_cases hp654 : (band .u64 (t606.1.fdiv 16777216) 1) = 1
                  · skip
                    replace h := ite_pos' h hp654
                    replace ha := ha.bool 71 KR (not_f (ieq_t hp654))
                    refine stepo ha 72 KR ?_; clear ha a; intro a ha
                    refine stepo ha 73 KR ?_; clear ha a; intro a ha
                    refine stepp ha 74 (.bool false) KR KR ?_; clear ha a; intro a ha
                    refine stepp ha 75 (.bool false) KR KR ?_; clear ha a; intro a ha
                    refine stepo ha 76 KR ?_; clear ha a; intro a ha
                    refine stepo ha 77 KR ?_; clear ha a; intro a ha
                    refine stepo ha 78 KR ?_; clear ha a; intro a ha
                    refine stepo ha 79 KR ?_; clear ha a; intro a ha
                    refine stepo ha 80 KR ?_; clear ha a; intro a ha
                    refine stepo ha 81 KR ?_; clear ha a; intro a ha
                    refine stepo ha 82 KR ?_; clear ha a; intro a ha
                    refine stepp ha 83 (.bool false) KR KR ?_; clear ha a; intro a ha
                    refine stepp ha 16 (.bool false) KR KR ?_; clear ha a; intro a ha
                    refine endl ?_
                    refine blkN ?_
                    exact thenN ⟨false, t594.1, 0, 0, false, 0, h, ha.sub (subs_cons KR (subs_cons KR (subs_cons KR (subs_nil _)))), HW.pick [1, 0] [] (by decide) (by decide) KR KR⟩
                  · skip
                    replace h := ite_neg' h hp654
                    replace ha := ha.bool 71 KR (not_t (ieq_f hp654))
                    refine stepp ha 72 (.int .u64 t600.1) KR KR ?_; clear ha a; intro a ha
                    refine stepp ha 73 (.bool (t600.1 == 0)) KR KR ?_; clear ha a; intro a ha
                    refine stepp ha 74 (.bool (t600.1 == 0)) KR KR ?_; clear ha a; intro a ha
                    refine stepp ha 75 (.bool (t600.1 == 0)) KR KR ?_; clear ha a; intro a ha
                    by_cases hp655 : t600.1 = 0
                    · skip
                      replace h := ite_pos' h hp655
                      replace ha := ha.bool 75 KR (ieq_t hp655)
                      refine stepp ha 76 (.int .i64 a1) KR KR ?_; clear ha a; intro a ha
                      refine stepp ha 77 (.bool (a1 == 0)) KR KR ?_; clear ha a; intro a ha
                      refine stepp ha 78 (.bool (a1 == 0)) KR KR ?_; clear ha a; intro a ha
                      by_cases hp656 : a1 = 0
                      · skip
                        replace h := ite_pos' h hp656
                        replace ha := ha.bool 78 KR (ieq_t hp656)
                        refine stepo ha 79 KR ?_; clear ha a; intro a ha
                        refine stepo ha 80 KR ?_; clear ha a; intro a ha
                        refine stepo ha 81 KR ?_; clear ha a; intro a ha
                        refine stepp ha 82 (.bool true) KR KR ?_; clear ha a; intro a ha
                        refine stepp ha 83 (.bool true) KR KR ?_; clear ha a; intro a ha
                        refine stepp ha 16 (.bool true) KR KR ?_; clear ha a; intro a ha
                        refine endl ?_
                        refine blkN ?_
                        exact thenN ⟨true, t594.1, 0, 0, false, 0, h, ha.sub (subs_cons KR (subs_cons KR (subs_cons KR (subs_nil _)))), HW.pick [1, 0] [] (by decide) (by decide) KR KR⟩
                      · skip
                        replace h := ite_neg' h hp656
                        replace ha := ha.bool 78 KR (ieq_f hp656)
                        refine stepp ha 79 (.pointer (some ⟨b589, 0, none⟩)) KR KR ?_; clear ha a; intro a ha
                        refine stepl ha 80 (HW.ca (i := 0) (b := b589) (C := #[.int .i64 (rdL (0 : Int) ([t585.f0, t585.f1, t585.f2, t585.f3, t585.f4, t585.f5, t585.f6] : List Int) a0), .int .i64 0, .string (⟨#[]⟩ : ByteArray), .int .i64 0, .int .i64 0, .string (⟨#[]⟩ : ByteArray), .bool false, .slice none 0 0, .int .u64 t594.1, .int .u64 0, .int .u64 0, .int .i64 a1, .bool false, .int .i64 0]) (T := 63) (fr := (0, 0)) KR) 3 0 (.tmp 79) (.int .i64 (rdL (0 : Int) ([t585.f0, t585.f1, t585.f2, t585.f3, t585.f4, t585.f5, t585.f6] : List Int) a0)) rfl KR KR KR ?_; clear ha a; intro a ha
                        refine stepp ha 81 (.bool ((rdL (0 : Int) ([t585.f0, t585.f1, t585.f2, t585.f3, t585.f4, t585.f5, t585.f6] : List Int) a0) != 11)) KR KR ?_; clear ha a; intro a ha
                        refine stepp ha 82 (.bool ((rdL (0 : Int) ([t585.f0, t585.f1, t585.f2, t585.f3, t585.f4, t585.f5, t585.f6] : List Int) a0) != 11)) KR KR ?_; clear ha a; intro a ha
                        refine stepp ha 83 (.bool ((rdL (0 : Int) ([t585.f0, t585.f1, t585.f2, t585.f3, t585.f4, t585.f5, t585.f6] : List Int) a0) != 11)) KR KR ?_; clear ha a; intro a ha
                        refine stepp ha 16 (.bool ((rdL (0 : Int) ([t585.f0, t585.f1, t585.f2, t585.f3, t585.f4, t585.f5, t585.f6] : List Int) a0) != 11)) KR KR ?_; clear ha a; intro a ha
                        refine endl ?_
                        refine blkN ?_
                        exact thenN ⟨((rdL (0 : Int) ([t585.f0, t585.f1, t585.f2, t585.f3, t585.f4, t585.f5, t585.f6] : List Int) a0) != 11), t594.1, 0, 0, false, 0, h, ha.sub (subs_cons KR (subs_cons KR (subs_cons KR (subs_nil _)))), HW.pick [1, 0] [] (by decide) (by decide) KR KR⟩
                    · skip
                      replace h := ite_neg' h hp655
                      replace ha := ha.bool 75 KR (ieq_f hp655)
                      refine stepo ha 76 KR ?_; clear ha a; intro a ha
                      refine stepo ha 77 KR ?_; clear ha a; intro a ha
                      refine stepo ha 78 KR ?_; clear ha a; intro a ha
                      refine stepo ha 79 KR ?_; clear ha a; intro a ha
                      refine stepo ha 80 KR ?_; clear ha a; intro a ha
                      refine stepo ha 81 KR ?_; clear ha a; intro a ha
                      refine stepo ha 82 KR ?_; clear ha a; intro a ha
                      refine stepp ha 83 (.bool false) KR KR ?_; clear ha a; intro a ha
                      refine stepp ha 16 (.bool false) KR KR ?_; clear ha a; intro a ha
                      refine endl ?_
                      refine blkN ?_
                      exact thenN ⟨false, t594.1, 0, 0, false, 0, h, ha.sub (subs_cons KR (subs_cons KR (subs_cons KR (subs_nil _)))), HW.pick [1, 0] [] (by decide) (by decide) KR KR⟩
                · skip
                  replace h := ite_neg' h hp653
                  replace ha := ha.bool 67 KR (ieq_f hp653)
                  refine stepo ha 68 KR ?_; clear ha a; intro a ha
                  refine stepo ha 69 KR ?_; clear ha a; intro a ha
                  refine stepp ha 70 (.bool false) KR KR ?_; clear ha a; intro a ha
                  refine stepp ha 71 (.bool false) KR KR ?_; clear ha a; intro a ha
                  refine stepo ha 72 KR ?_; clear ha a; intro a ha
                  refine stepo ha 73 KR ?_; clear ha a; intro a ha
                  refine stepp ha 74 (.bool false) KR KR ?_; clear ha a; intro a ha
                  refine stepp ha 75 (.bool false) KR KR ?_; clear ha a; intro a ha
                  refine stepo ha 76 KR ?_; clear ha a; intro a ha
                  refine stepo ha 77 KR ?_; clear ha a; intro a ha
                  refine stepo ha 78 KR ?_; clear ha a; intro a ha
                  refine stepo ha 79 KR ?_; clear ha a; intro a ha
                  refine stepo ha 80 KR ?_; clear ha a; intro a ha
                  refine stepo ha 81 KR ?_; clear ha a; intro a ha
                  refine stepo ha 82 KR ?_; clear ha a; intro a ha
                  refine stepp ha 83 (.bool false) KR KR ?_; clear ha a; intro a ha
                  refine stepp ha 16 (.bool false) KR KR ?_; clear ha a; intro a ha
                  refine endl ?_
                  refine blkN ?_
                  exact thenN ⟨false, t594.1, 0, 0, false, 0, h, ha.sub (subs_cons KR (subs_cons KR (subs_cons KR (subs_nil _)))), HW.pick [1, 0] [] (by decide) (by decide) KR KR⟩
          · skip
            intro a W663 hJ
            obtain ⟨x657, x658, x659, x660, x661, x662, h, ha, HW⟩ := hJ
            replace h : prout_Change.j2 K a0 a1 t585 x657 x658 x659 x660 x661 x662 = some r := h
            unfold prout_Change.j2 at h
            refine hK618 _ _ ?_; clear hK618
            refine wp_seq_k (fun K664 hK665 => ?_)
            refine wp_seq_k (fun K666 hK667 => ?_)
            refine wp_region_lit ?_
            refine stepp ha 111 (.bool x657) KR KR ?_; clear ha a; intro a ha
            refine stepp ha 112 (.bool (!x657)) KR KR ?_; clear ha a; intro a ha
            refine endl ?_
            refine thenN (hK667 _ _ ?_); clear hK667
            by_cases hp668 : x657 = true
            · skip
              replace h := ite_pos' h hp668
              refine condF ha KR KR (t := (!x657)) (not_f (hp668)) ?_
              refine wp_skip ?_
              refine thenN (hK665 _ _ ?_); clear hK665
              refine wp_seq_k (fun K673 hK674 => ?_)
              refine wp_region_lit ?_
              refine stepl ha 114 (HW.ca (i := 1) (b := b589) (C := #[.int .i64 (rdL (0 : Int) ([t585.f0, t585.f1, t585.f2, t585.f3, t585.f4, t585.f5, t585.f6] : List Int) a0), .int .i64 0, .string (⟨#[]⟩ : ByteArray), .int .i64 0, .int .i64 0, .string (⟨#[]⟩ : ByteArray), .bool false, .slice none 0 0, .int .u64 x658, .int .u64 x659, .int .u64 x660, .int .i64 a1, .bool x661, .int .i64 x662]) (T := 63) (fr := (0, 0)) KR) 63 0 (.tmp 8) (.agg #[.int .i64 (rdL (0 : Int) ([t585.f0, t585.f1, t585.f2, t585.f3, t585.f4, t585.f5, t585.f6] : List Int) a0), .int .i64 0, .string (⟨#[]⟩ : ByteArray), .int .i64 0, .int .i64 0, .string (⟨#[]⟩ : ByteArray), .bool false, .slice none 0 0, .int .u64 x658, .int .u64 x659, .int .u64 x660, .int .i64 a1, .bool x661, .int .i64 x662]) rfl KR KR KR ?_; clear ha a; intro a ha
              refine stepst ha HW 0 (b := b551) (C := #[.int .i64 0, .int .i64 0, .string (⟨#[]⟩ : ByteArray), .int .i64 0, .int .i64 0, .string (⟨#[]⟩ : ByteArray), .bool false, .slice none 0 0, .int .u64 0, .int .u64 0, .int .u64 0, .int .i64 0, .bool false, .int .i64 0]) (T := 63) KR 63 0 (.tmp 6) (.tmp 114) (.agg #[.int .i64 (rdL (0 : Int) ([t585.f0, t585.f1, t585.f2, t585.f3, t585.f4, t585.f5, t585.f6] : List Int) a0), .int .i64 0, .string (⟨#[]⟩ : ByteArray), .int .i64 0, .int .i64 0, .string (⟨#[]⟩ : ByteArray), .bool false, .slice none 0 0, .int .u64 x658, .int .u64 x659, .int .u64 x660, .int .i64 a1, .bool x661, .int .i64 x662]) #[.int .i64 (rdL (0 : Int) ([t585.f0, t585.f1, t585.f2, t585.f3, t585.f4, t585.f5, t585.f6] : List Int) a0), .int .i64 0, .string (⟨#[]⟩ : ByteArray), .int .i64 0, .int .i64 0, .string (⟨#[]⟩ : ByteArray), .bool false, .slice none 0 0, .int .u64 x658, .int .u64 x659, .int .u64 x660, .int .i64 a1, .bool x661, .int .i64 x662] rfl KR KR KR KR KR KR KR ?_; clear ha HW a; intro a W675 HW ha
              refine stepp ha 7 (.int .i64 0) KR KR ?_; clear ha a; intro a ha
              refine endl ?_
              refine thenN (hK674 _ _ ?_); clear hK674
              refine wp_ret ?_
              obtain rfl := Option.some.inj h
              replace HW := HW.nilo 112 2
              exact finv ha _ _ rfl (.cell (ad := ⟨b551, 0, none⟩) (v := .agg #[.int .i64 (rdL (0 : Int) ([t585.f0, t585.f1, t585.f2, t585.f3, t585.f4, t585.f5, t585.f6] : List Int) a0), .int .i64 0, .string (⟨#[]⟩ : ByteArray), .int .i64 0, .int .i64 0, .string (⟨#[]⟩ : ByteArray), .bool false, .slice none 0 0, .int .u64 x658, .int .u64 x659, .int .u64 x660, .int .i64 a1, .bool x661, .int .i64 x662]) KR (run_loadVar_ca0 (HW.ca (i := 0) (b := b551) (C := #[.int .i64 (rdL (0 : Int) ([t585.f0, t585.f1, t585.f2, t585.f3, t585.f4, t585.f5, t585.f6] : List Int) a0), .int .i64 0, .string (⟨#[]⟩ : ByteArray), .int .i64 0, .int .i64 0, .string (⟨#[]⟩ : ByteArray), .bool false, .slice none 0 0, .int .u64 x658, .int .u64 x659, .int .u64 x660, .int .i64 a1, .bool x661, .int .i64 x662]) (T := 63) (fr := (0, 0)) KR) 63 0 (.agg #[.int .i64 (rdL (0 : Int) ([t585.f0, t585.f1, t585.f2, t585.f3, t585.f4, t585.f5, t585.f6] : List Int) a0), .int .i64 0, .string (⟨#[]⟩ : ByteArray), .int .i64 0, .int .i64 0, .string (⟨#[]⟩ : ByteArray), .bool false, .slice none 0 0, .int .u64 x658, .int .u64 x659, .int .u64 x660, .int .i64 a1, .bool x661, .int .i64 x662]) KR) (.tmp (v := .int .i64 0) KR .nil)) (.tuple #[.agg #[.int .i64 (rdL (0 : Int) ([t585.f0, t585.f1, t585.f2, t585.f3, t585.f4, t585.f5, t585.f6] : List Int) a0), .int .i64 0, .string (⟨#[]⟩ : ByteArray), .int .i64 0, .int .i64 0, .string (⟨#[]⟩ : ByteArray), .bool false, .slice none 0 0, .int .u64 x658, .int .u64 x659, .int .u64 x660, .int .i64 a1, .bool x661, .int .i64 x662], .int .i64 0]) rfl ⟨none, 0, rfl, HW.pick [] [0] (by decide) (by decide) rfl KR⟩
            · skip
              replace h := ite_neg' h hp668
              refine condT ha KR KR (t := (!x657)) (not_t (bool_f hp668)) ?_
              refine wp_seq_k (fun K669 hK670 => ?_)
              refine wp_region_lit ?_
              refine stepp ha 113 (.agg #[.int .i64 0, .int .i64 0, .string (⟨#[]⟩ : ByteArray), .int .i64 0, .int .i64 0, .string (⟨#[]⟩ : ByteArray), .bool false, .slice none 0 0, .int .u64 0, .int .u64 0, .int .u64 0, .int .i64 0, .bool false, .int .i64 0]) KR KR ?_; clear ha a; intro a ha
              refine stepst ha HW 0 (b := b551) (C := #[.int .i64 0, .int .i64 0, .string (⟨#[]⟩ : ByteArray), .int .i64 0, .int .i64 0, .string (⟨#[]⟩ : ByteArray), .bool false, .slice none 0 0, .int .u64 0, .int .u64 0, .int .u64 0, .int .i64 0, .bool false, .int .i64 0]) (T := 63) KR 63 0 (.tmp 6) (.tmp 113) (.agg #[.int .i64 0, .int .i64 0, .string (⟨#[]⟩ : ByteArray), .int .i64 0, .int .i64 0, .string (⟨#[]⟩ : ByteArray), .bool false, .slice none 0 0, .int .u64 0, .int .u64 0, .int .u64 0, .int .i64 0, .bool false, .int .i64 0]) #[.int .i64 0, .int .i64 0, .string (⟨#[]⟩ : ByteArray), .int .i64 0, .int .i64 0, .string (⟨#[]⟩ : ByteArray), .bool false, .slice none 0 0, .int .u64 0, .int .u64 0, .int .u64 0, .int .i64 0, .bool false, .int .i64 0] rfl KR KR KR KR KR KR KR ?_; clear ha HW a; intro a W671 HW ha
              refine stepp ha 7 (.int .i64 180) KR KR ?_; clear ha a; intro a ha
              refine endl ?_
              refine thenN (hK670 _ _ ?_); clear hK670
              refine wp_ret ?_
              refine thenR ?_
              obtain rfl := Option.some.inj h
              replace HW := HW.nilo 112 2
              exact finv ha _ _ rfl (.cell (ad := ⟨b551, 0, none⟩) (v := .agg #[.int .i64 0, .int .i64 0, .string (⟨#[]⟩ : ByteArray), .int .i64 0, .int .i64 0, .string (⟨#[]⟩ : ByteArray), .bool false, .slice none 0 0, .int .u64 0, .int .u64 0, .int .u64 0, .int .i64 0, .bool false, .int .i64 0]) KR (run_loadVar_ca0 (HW.ca (i := 0) (b := b551) (C := #[.int .i64 0, .int .i64 0, .string (⟨#[]⟩ : ByteArray), .int .i64 0, .int .i64 0, .string (⟨#[]⟩ : ByteArray), .bool false, .slice none 0 0, .int .u64 0, .int .u64 0, .int .u64 0, .int .i64 0, .bool false, .int .i64 0]) (T := 63) (fr := (0, 0)) KR) 63 0 (.agg #[.int .i64 0, .int .i64 0, .string (⟨#[]⟩ : ByteArray), .int .i64 0, .int .i64 0, .string (⟨#[]⟩ : ByteArray), .bool false, .slice none 0 0, .int .u64 0, .int .u64 0, .int .u64 0, .int .i64 0, .bool false, .int .i64 0]) KR) (.tmp (v := .int .i64 180) KR .nil)) (.tuple #[.agg #[.int .i64 0, .int .i64 0, .string (⟨#[]⟩ : ByteArray), .int .i64 0, .int .i64 0, .string (⟨#[]⟩ : ByteArray), .bool false, .slice none 0 0, .int .u64 0, .int .u64 0, .int .u64 0, .int .i64 0, .bool false, .int .i64 0], .int .i64 180]) rfl ⟨none, 0, rfl, HW.pick [] [0] (by decide) (by decide) rfl KR⟩
        · skip
          replace h := ite_neg' h hp578
          refine condT ha KR KR (t := ((a2.size : Int) != 24)) (ineq_t hp578) ?_
          refine wp_seq_k (fun K579 hK580 => ?_)
          refine wp_region_lit ?_
          refine stepp ha 34 (.agg #[.int .i64 0, .int .i64 0, .string (⟨#[]⟩ : ByteArray), .int .i64 0, .int .i64 0, .string (⟨#[]⟩ : ByteArray), .bool false, .slice none 0 0, .int .u64 0, .int .u64 0, .int .u64 0, .int .i64 0, .bool false, .int .i64 0]) KR KR ?_; clear ha a; intro a ha
          refine stepst ha HW 0 (b := b551) (C := #[.int .i64 0, .int .i64 0, .string (⟨#[]⟩ : ByteArray), .int .i64 0, .int .i64 0, .string (⟨#[]⟩ : ByteArray), .bool false, .slice none 0 0, .int .u64 0, .int .u64 0, .int .u64 0, .int .i64 0, .bool false, .int .i64 0]) (T := 63) KR 63 0 (.tmp 6) (.tmp 34) (.agg #[.int .i64 0, .int .i64 0, .string (⟨#[]⟩ : ByteArray), .int .i64 0, .int .i64 0, .string (⟨#[]⟩ : ByteArray), .bool false, .slice none 0 0, .int .u64 0, .int .u64 0, .int .u64 0, .int .i64 0, .bool false, .int .i64 0]) #[.int .i64 0, .int .i64 0, .string (⟨#[]⟩ : ByteArray), .int .i64 0, .int .i64 0, .string (⟨#[]⟩ : ByteArray), .bool false, .slice none 0 0, .int .u64 0, .int .u64 0, .int .u64 0, .int .i64 0, .bool false, .int .i64 0] rfl KR KR KR KR KR KR KR ?_; clear ha HW a; intro a W581 HW ha
          refine stepp ha 7 (.int .i64 180) KR KR ?_; clear ha a; intro a ha
          refine endl ?_
          refine thenN (hK580 _ _ ?_); clear hK580
          refine wp_ret ?_
          refine thenR ?_
          obtain rfl := Option.some.inj h
          replace HW := HW.nilo 112 2
          exact finv ha _ _ rfl (.cell (ad := ⟨b551, 0, none⟩) (v := .agg #[.int .i64 0, .int .i64 0, .string (⟨#[]⟩ : ByteArray), .int .i64 0, .int .i64 0, .string (⟨#[]⟩ : ByteArray), .bool false, .slice none 0 0, .int .u64 0, .int .u64 0, .int .u64 0, .int .i64 0, .bool false, .int .i64 0]) KR (run_loadVar_ca0 (HW.ca (i := 0) (b := b551) (C := #[.int .i64 0, .int .i64 0, .string (⟨#[]⟩ : ByteArray), .int .i64 0, .int .i64 0, .string (⟨#[]⟩ : ByteArray), .bool false, .slice none 0 0, .int .u64 0, .int .u64 0, .int .u64 0, .int .i64 0, .bool false, .int .i64 0]) (T := 63) (fr := (0, 0)) KR) 63 0 (.agg #[.int .i64 0, .int .i64 0, .string (⟨#[]⟩ : ByteArray), .int .i64 0, .int .i64 0, .string (⟨#[]⟩ : ByteArray), .bool false, .slice none 0 0, .int .u64 0, .int .u64 0, .int .u64 0, .int .i64 0, .bool false, .int .i64 0]) KR) (.tmp (v := .int .i64 180) KR .nil)) (.tuple #[.agg #[.int .i64 0, .int .i64 0, .string (⟨#[]⟩ : ByteArray), .int .i64 0, .int .i64 0, .string (⟨#[]⟩ : ByteArray), .bool false, .slice none 0 0, .int .u64 0, .int .u64 0, .int .u64 0, .int .i64 0, .bool false, .int .i64 0], .int .i64 180]) rfl ⟨none, 0, rfl, HW.pick [] [0] (by decide) (by decide) rfl KR⟩
end Go.Proofs.YtpjcipadjegmlaaDoor.F
