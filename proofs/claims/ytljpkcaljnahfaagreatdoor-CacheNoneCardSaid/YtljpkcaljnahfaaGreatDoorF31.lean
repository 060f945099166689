/- headgate/headgateref08.Needs, headgate/store.good, sync/atomic.b32, math/bits.Mul32, math/bits.Mul64, math/bits.Mul, internal/stringslite.HasPrefix, strings.HasPrefix, strings.Repeat, headgate/frame.Sectors, headgate/fields.shifts, headgate/fields.put[uint64], headgate/fields.PutBig, headgate/fields.Pad, headgate/fields.PutLittle, headgate/crc.More, headgate/crc.Sum, headgate/crc.Digest, headgate/frame.Put: plain functions, and that the calls come to what they say. No condition. -/
import Derived.Test.YtljpkcaljnahfaaGreatDoorFT
import Derived.Test.YtljpkcaljnahfaaGreatDoorXShelf
namespace Go.Proofs.YtljpkcaljnahfaaGreatDoor.F
open Go Go.RowKit Go.Proofs.YtljpkcaljnahfaaGreatDoor.X
set_option linter.unusedVariables false
set_option linter.unusedSimpArgs false
/-! ### headgate/headgateref08.Needs: function 31 -/
def headgateref08_Needs.b0 (K : Nat) (a0 : List T_api_Unit) (again36 : Int → Int → Option Int) (x37 : Int) (x38 : Int) : Option Int :=
  if x38 < (a0.length : Int) then (if x38 < 8 then (asrt (0 ≤ x38) (again36 (IntKind.wrap .i64 (x37 + (IntKind.wrap .i64 (2 * (mx 0 (mn ((rdL T_api_Unit.z a0 x38).f0) 4096)))))) (IntKind.wrap .i64 (x38 + 1)))) else (some x37)) else (some x37)
def headgateref08_Needs.l0 (K : Nat) (a0 : List T_api_Unit) : Nat → Int → Int → Option Int
  | 0, _, _ => none
  | k_ + 1, x37, x38 => headgateref08_Needs.b0 K a0 (headgateref08_Needs.l0 K a0 k_) x37 x38
def headgateref08_Needs.f (K : Nat) (a0 : List T_api_Unit) : Option Int :=
  headgateref08_Needs.l0 K a0 K 576 0
set_option maxRecDepth 100000 in
set_option maxHeartbeats 4000000 in
theorem headgateref08_Needs.calls (K : Nat) (a0 : List T_api_Unit) (A0_0 : Option Addr) (c0_0 : Nat) (r : Int) (w : World) (hr0_0 : Rd 2 w (.slice A0_0 a0.length c0_0) a0.length (encs T_api_Unit.enc a0)) (h : headgateref08_Needs.f K a0 = some r) :
    Calls Tryz.prog 31 #[.slice A0_0 a0.length c0_0] w (fun e W' => e = .returned (.int .i64 r) ∧ Wd w W' [] [] ) := by
  refine sxstart (n := 26) (l := [(0, .slice A0_0 a0.length c0_0)]) Tryz.func31 rfl rfl (Nat.le_of_ble_eq_true KR) (subsA_cons rfl (subsA_nil _)) ?_
  intro a ha
  have HW := Wd.refl w
  unfold headgateref08_Needs.f at h
  refine wp_seq_k (fun K1 hK2 => ?_)
  refine wp_region_lit ?_
  refine stepp ha 2 (.int .i64 0) KR KR ?_; clear ha a; intro a ha
  refine endl ?_
  refine thenN (hK2 _ _ ?_); clear hK2
  refine wp_seq_k (fun K3 hK4 => ?_)
  refine wp_region_lit ?_
  refine stepp ha 3 (.int .i64 576) KR KR ?_; clear ha a; intro a ha
  refine endl ?_
  refine thenN (hK4 _ _ ?_); clear hK4
  refine wp_seq_k (fun K5 hK6 => ?_)
  refine wp_seq_k (fun K7 hK8 => ?_)
  refine wp_region_lit ?_
  refine stepp ha 4 (.int .i64 0) KR KR ?_; clear ha a; intro a ha
  refine endl ?_
  refine thenN (hK8 _ _ ?_); clear hK8
  refine wp_block ?_
  refine loopk (fun k => fun a W39 => ∃ (x37 : Int), ∃ (x38 : Int), headgateref08_Needs.l0 K a0 k x37 x38 = some r ∧ Has 26 [(0, .slice A0_0 a0.length c0_0), (3, .int .i64 x37), (4, .int .i64 x38)] a ∧ Wd w W39 [] []) K ?_ ?_
  · skip
    exact ⟨576, 0, h, ha.sub (subs_cons KR (subs_cons KR (subs_cons KR (subs_nil _)))), HW.pick [] [] (by decide) (by decide) KR KR⟩
  · skip
    intro k a W39 hI
    obtain ⟨x37, x38, h, ha, HW⟩ := hI
    cases k with
    | zero => exact (none_some (show none = some r from h)).elim
    | succ k40 =>
      replace h : headgateref08_Needs.b0 K a0 (headgateref08_Needs.l0 K a0 k40) x37 x38 = some r := h
      obtain ⟨again36, hag41⟩ : ∃ g_, g_ = headgateref08_Needs.l0 K a0 k40 := ⟨_, rfl⟩
      rw [← hag41] at h
      unfold headgateref08_Needs.b0 at h
      refine wp_seq_k (fun K42 hK43 => ?_)
      refine wp_seq_k (fun K44 hK45 => ?_)
      refine wp_region_lit ?_
      refine stepp ha 5 (.int .i64 x38) KR KR ?_; clear ha a; intro a ha
      refine stepp ha 6 (.slice A0_0 a0.length c0_0) KR KR ?_; clear ha a; intro a ha
      refine stepp ha 7 (.int .i64 (a0.length : Int)) KR KR ?_; clear ha a; intro a ha
      refine stepp ha 8 (.bool (decide (x38 < (a0.length : Int)))) KR KR ?_; clear ha a; intro a ha
      refine stepp ha 9 (.bool (decide (x38 < (a0.length : Int)))) KR KR ?_; clear ha a; intro a ha
      by_cases hp46 : x38 < (a0.length : Int)
      · skip
        replace h := ite_pos' h hp46
        replace ha := ha.bool 9 KR (decide_eq_true hp46)
        refine stepp ha 10 (.int .i64 x38) KR KR ?_; clear ha a; intro a ha
        refine stepp ha 11 (.bool (decide (x38 < 8))) KR KR ?_; clear ha a; intro a ha
        refine stepp ha 12 (.bool (decide (x38 < 8))) KR KR ?_; clear ha a; intro a ha
        refine endl ?_
        refine thenN (hK45 _ _ ?_); clear hK45
        by_cases hp47 : x38 < 8
        · skip
          replace h := ite_pos' h hp47
          refine condT ha KR KR (t := decide (x38 < 8)) (decide_eq_true hp47) ?_
          refine wp_skip ?_
          refine thenN (hK43 _ _ ?_); clear hK43
          refine wp_seq_k (fun K48 hK49 => ?_)
          refine wp_block ?_
          refine wp_region_lit ?_
          refine stepp ha 15 (.int .i64 x37) KR KR ?_; clear ha a; intro a ha
          refine stepp ha 16 (.slice A0_0 a0.length c0_0) KR KR ?_; clear ha a; intro a ha
          refine stepp ha 17 (.int .i64 x38) KR KR ?_; clear ha a; intro a ha
          obtain ⟨hA50, h_⟩ := asrt_some h; clear h; have h := h_; clear h_
          refine stepie T_api_Unit.enc T_api_Unit.z ha 18 (fun _ => rfl) (v := .slice A0_0 a0.length c0_0) (xs := a0) ((HW.rd0 hr0_0)) 29 42 (.tmp 16) (.tmp 17) .i64 x38 rfl KR KR KR KR hA50 (show (x38 : Int) < ((a0).length : Int) from hp46) KR ?_; clear ha a; intro b51 off52 a hC53 ha
          refine stepp ha 19 (.pointer (some ⟨b51, off52, none⟩)) KR KR ?_; clear ha a; intro a ha
          refine stepl ha 20 hC53 3 0 (.tmp 19) (.int .i64 ((rdL T_api_Unit.z a0 x38).f0)) rfl KR KR KR ?_; clear ha a; intro a ha
          refine stepmn ha 21 #[3, 3] (.tmp 20) (.const (.int .i64 4096)) .i64 ((rdL T_api_Unit.z a0 x38).f0) 4096 rfl KR KR KR ?_; clear ha a; intro a ha
          refine stepmx ha 22 #[3, 3] (.const (.int .i64 0)) (.tmp 21) .i64 0 (mn ((rdL T_api_Unit.z a0 x38).f0) 4096) rfl KR KR KR ?_; clear ha a; intro a ha
          refine stepp ha 23 (.int .i64 (IntKind.wrap .i64 (2 * (mx 0 (mn ((rdL T_api_Unit.z a0 x38).f0) 4096))))) KR KR ?_; clear ha a; intro a ha
          refine stepp ha 24 (.int .i64 (IntKind.wrap .i64 (x37 + (IntKind.wrap .i64 (2 * (mx 0 (mn ((rdL T_api_Unit.z a0 x38).f0) 4096))))))) KR KR ?_; clear ha a; intro a ha
          refine stepp ha 3 (.int .i64 (IntKind.wrap .i64 (x37 + (IntKind.wrap .i64 (2 * (mx 0 (mn ((rdL T_api_Unit.z a0 x38).f0) 4096))))))) KR KR ?_; clear ha a; intro a ha
          refine endl ?_
          refine blkN ?_
          refine thenN (hK49 _ _ ?_); clear hK49
          refine wp_region_lit ?_
          refine stepp ha 13 (.int .i64 x38) KR KR ?_; clear ha a; intro a ha
          refine stepp ha 14 (.int .i64 (IntKind.wrap .i64 (x38 + 1))) KR KR ?_; clear ha a; intro a ha
          refine stepp ha 4 (.int .i64 (IntKind.wrap .i64 (x38 + 1))) KR KR ?_; clear ha a; intro a ha
          refine endl ?_
          exact thenN ⟨k40, Nat.lt_succ_self k40, IntKind.wrap .i64 (x37 + (IntKind.wrap .i64 (2 * (mx 0 (mn ((rdL T_api_Unit.z a0 x38).f0) 4096))))), IntKind.wrap .i64 (x38 + 1), (by rw [← hag41]; exact h), ha.sub (subs_cons KR (subs_cons KR (subs_cons KR (subs_nil _)))), HW.pick [] [] (by decide) (by decide) KR KR⟩
        · skip
          replace h := ite_neg' h hp47
          refine condF ha KR KR (t := decide (x38 < 8)) (decide_eq_false hp47) ?_
          refine wp_exit ?_
          refine thenE ?_
          refine thenE ?_
          refine inBlk ?_
          refine thenN (hK6 _ _ ?_); clear hK6
          refine wp_seq_k (fun K54 hK55 => ?_)
          refine wp_region_lit ?_
          refine stepp ha 25 (.int .i64 x37) KR KR ?_; clear ha a; intro a ha
          refine stepp ha 2 (.int .i64 x37) KR KR ?_; clear ha a; intro a ha
          refine endl ?_
          refine thenN (hK55 _ _ ?_); clear hK55
          refine wp_ret ?_
          obtain rfl := Option.some.inj h
          exact finv ha _ _ rfl (.tmp (v := .int .i64 x37) KR .nil) (.int .i64 x37) rfl ⟨rfl, HW.pick [] [] (by decide) (by decide) rfl KR⟩
      · skip
        replace h := ite_neg' h hp46
        replace ha := ha.bool 9 KR (decide_eq_false hp46)
        refine stepo ha 10 KR ?_; clear ha a; intro a ha
        refine stepo ha 11 KR ?_; clear ha a; intro a ha
        refine stepp ha 12 (.bool false) KR KR ?_; clear ha a; intro a ha
        refine endl ?_
        refine thenN (hK45 _ _ ?_); clear hK45
        refine condF ha KR KR (t := false) (rfl) ?_
        refine wp_exit ?_
        refine thenE ?_
        refine thenE ?_
        refine inBlk ?_
        refine thenN (hK6 _ _ ?_); clear hK6
        refine wp_seq_k (fun K56 hK57 => ?_)
        refine wp_region_lit ?_
        refine stepp ha 25 (.int .i64 x37) KR KR ?_; clear ha a; intro a ha
        refine stepp ha 2 (.int .i64 x37) KR KR ?_; clear ha a; intro a ha
        refine endl ?_
        refine thenN (hK57 _ _ ?_); clear hK57
        refine wp_ret ?_
        obtain rfl := Option.some.inj h
        exact finv ha _ _ rfl (.tmp (v := .int .i64 x37) KR .nil) (.int .i64 x37) rfl ⟨rfl, HW.pick [] [] (by decide) (by decide) rfl KR⟩
/-! ### headgate/store.good: function 75 -/
def store_good.f (a0 : T_api_Unit) : Option Bool :=
  if a0.f0 ≥ 1 then (if a0.f0 ≤ 4096 then (some ((a0.f1.size : Int) == 16)) else (some false)) else (some false)
set_option maxRecDepth 100000 in
set_option maxHeartbeats 4000000 in
theorem store_good.calls (a0 : T_api_Unit)  (r : Bool) (w : World)  (h : store_good.f a0 = some r) :
    Calls Tryz.prog 75 #[.agg #[.int .i64 a0.f0, .string a0.f1]] w (fun e W' => e = .returned (.bool r) ∧ Wd w W' [] [] ) := by
  refine sxstart (n := 17) (l := [(0, .agg #[.int .i64 a0.f0, .string a0.f1])]) Tryz.func75 rfl rfl (Nat.le_of_ble_eq_true KR) (subsA_cons rfl (subsA_nil _)) ?_
  intro a ha
  have HW := Wd.refl w
  unfold store_good.f at h
  refine wp_seq_k (fun K58 hK59 => ?_)
  refine wp_region_lit ?_
  refine stepnew ha HW 1 #[.int .i64 a0.f0, .string a0.f1] 42 KR KR ?_; clear ha HW a; intro b60 a W61 HW ha
  refine stepp ha 2 (.bool false) KR KR ?_; clear ha a; intro a ha
  refine endl ?_
  refine thenN (hK59 _ _ ?_); clear hK59
  refine wp_seq_k (fun K62 hK63 => ?_)
  refine wp_region_lit ?_
  refine stepp ha 3 (.pointer (some ⟨b60, 0, none⟩)) KR KR ?_; clear ha a; intro a ha
  refine stepl ha 4 (HW.ca (i := 0) (b := b60) (C := #[.int .i64 a0.f0, .string a0.f1]) (T := 42) (fr := (0, 0)) KR) 3 0 (.tmp 3) (.int .i64 a0.f0) rfl KR KR KR ?_; clear ha a; intro a ha
  refine stepp ha 5 (.bool (decide (a0.f0 ≥ 1))) KR KR ?_; clear ha a; intro a ha
  refine stepp ha 6 (.bool (decide (a0.f0 ≥ 1))) KR KR ?_; clear ha a; intro a ha
  by_cases hp64 : a0.f0 ≥ 1
  · skip
    replace h := ite_pos' h hp64
    replace ha := ha.bool 6 KR (decide_eq_true hp64)
    refine stepp ha 7 (.pointer (some ⟨b60, 0, none⟩)) KR KR ?_; clear ha a; intro a ha
    refine stepl ha 8 (HW.ca (i := 0) (b := b60) (C := #[.int .i64 a0.f0, .string a0.f1]) (T := 42) (fr := (0, 0)) KR) 3 0 (.tmp 7) (.int .i64 a0.f0) rfl KR KR KR ?_; clear ha a; intro a ha
    refine stepp ha 9 (.bool (decide (a0.f0 ≤ 4096))) KR KR ?_; clear ha a; intro a ha
    refine stepp ha 10 (.bool (decide (a0.f0 ≤ 4096))) KR KR ?_; clear ha a; intro a ha
    refine stepp ha 11 (.bool (decide (a0.f0 ≤ 4096))) KR KR ?_; clear ha a; intro a ha
    by_cases hp65 : a0.f0 ≤ 4096
    · skip
      replace h := ite_pos' h hp65
      replace ha := ha.bool 11 KR (decide_eq_true hp65)
      refine stepp ha 12 (.pointer (some ⟨b60, 1, none⟩)) KR KR ?_; clear ha a; intro a ha
      refine stepl ha 13 (HW.ca (i := 0) (b := b60) (C := #[.int .i64 a0.f0, .string a0.f1]) (T := 42) (fr := (0, 0)) KR) 9 1 (.tmp 12) (.string a0.f1) rfl KR KR KR ?_; clear ha a; intro a ha
      refine stepp ha 14 (.int .i64 (a0.f1.size : Int)) KR KR ?_; clear ha a; intro a ha
      refine stepp ha 15 (.bool ((a0.f1.size : Int) == 16)) KR KR ?_; clear ha a; intro a ha
      refine stepp ha 16 (.bool ((a0.f1.size : Int) == 16)) KR KR ?_; clear ha a; intro a ha
      refine stepp ha 2 (.bool ((a0.f1.size : Int) == 16)) KR KR ?_; clear ha a; intro a ha
      refine endl ?_
      refine thenN (hK63 _ _ ?_); clear hK63
      refine wp_ret ?_
      obtain rfl := Option.some.inj h
      exact finv ha _ _ rfl (.tmp (v := .bool ((a0.f1.size : Int) == 16)) KR .nil) (.bool ((a0.f1.size : Int) == 16)) rfl ⟨rfl, HW.pick [] [] (by decide) (by decide) rfl KR⟩
    · skip
      replace h := ite_neg' h hp65
      replace ha := ha.bool 11 KR (decide_eq_false hp65)
      refine stepo ha 12 KR ?_; clear ha a; intro a ha
      refine stepo ha 13 KR ?_; clear ha a; intro a ha
      refine stepo ha 14 KR ?_; clear ha a; intro a ha
      refine stepo ha 15 KR ?_; clear ha a; intro a ha
      refine stepp ha 16 (.bool false) KR KR ?_; clear ha a; intro a ha
      refine stepp ha 2 (.bool false) KR KR ?_; clear ha a; intro a ha
      refine endl ?_
      refine thenN (hK63 _ _ ?_); clear hK63
      refine wp_ret ?_
      obtain rfl := Option.some.inj h
      exact finv ha _ _ rfl (.tmp (v := .bool false) KR .nil) (.bool false) rfl ⟨rfl, HW.pick [] [] (by decide) (by decide) rfl KR⟩
  · skip
    replace h := ite_neg' h hp64
    replace ha := ha.bool 6 KR (decide_eq_false hp64)
    refine stepo ha 7 KR ?_; clear ha a; intro a ha
    refine stepo ha 8 KR ?_; clear ha a; intro a ha
    refine stepo ha 9 KR ?_; clear ha a; intro a ha
    refine stepp ha 10 (.bool false) KR KR ?_; clear ha a; intro a ha
    refine stepp ha 11 (.bool false) KR KR ?_; clear ha a; intro a ha
    refine stepo ha 12 KR ?_; clear ha a; intro a ha
    refine stepo ha 13 KR ?_; clear ha a; intro a ha
    refine stepo ha 14 KR ?_; clear ha a; intro a ha
    refine stepo ha 15 KR ?_; clear ha a; intro a ha
    refine stepp ha 16 (.bool false) KR KR ?_; clear ha a; intro a ha
    refine stepp ha 2 (.bool false) KR KR ?_; clear ha a; intro a ha
    refine endl ?_
    refine thenN (hK63 _ _ ?_); clear hK63
    refine wp_ret ?_
    obtain rfl := Option.some.inj h
    exact finv ha _ _ rfl (.tmp (v := .bool false) KR .nil) (.bool false) rfl ⟨rfl, HW.pick [] [] (by decide) (by decide) rfl KR⟩
/-! ### sync/atomic.b32: function 167 -/
def atomic_b32.f (a0 : Bool) : Option Int :=
  if a0 = true then (some 1) else (some 0)
set_option maxRecDepth 100000 in
set_option maxHeartbeats 4000000 in
theorem atomic_b32.calls (a0 : Bool)  (r : Int) (w : World)  (h : atomic_b32.f a0 = some r) :
    Calls Tryz.prog 167 #[.bool a0] w (fun e W' => e = .returned (.int .u32 r) ∧ Wd w W' [] [] ) := by
  refine sxstart (n := 4) (l := [(0, .bool a0)]) Tryz.func167 rfl rfl (Nat.le_of_ble_eq_true KR) (subsA_cons rfl (subsA_nil _)) ?_
  intro a ha
  have HW := Wd.refl w
  unfold atomic_b32.f at h
  refine wp_seq_k (fun K66 hK67 => ?_)
  refine wp_region_lit ?_
  refine stepp ha 2 (.int .u32 0) KR KR ?_; clear ha a; intro a ha
  refine endl ?_
  refine thenN (hK67 _ _ ?_); clear hK67
  refine wp_seq_k (fun K68 hK69 => ?_)
  refine wp_seq_k (fun K70 hK71 => ?_)
  refine wp_region_lit ?_
  refine stepp ha 3 (.bool a0) KR KR ?_; clear ha a; intro a ha
  refine endl ?_
  refine thenN (hK71 _ _ ?_); clear hK71
  by_cases hp72 : a0 = true
  · skip
    replace h := ite_pos' h hp72
    refine condT ha KR KR (t := a0) (hp72) ?_
    refine wp_seq_k (fun K73 hK74 => ?_)
    refine wp_region_lit ?_
    refine stepp ha 2 (.int .u32 1) KR KR ?_; clear ha a; intro a ha
    refine endl ?_
    refine thenN (hK74 _ _ ?_); clear hK74
    refine wp_ret ?_
    refine thenR ?_
    obtain rfl := Option.some.inj h
    exact finv ha _ _ rfl (.tmp (v := .int .u32 1) KR .nil) (.int .u32 1) rfl ⟨rfl, HW.pick [] [] (by decide) (by decide) rfl KR⟩
  · skip
    replace h := ite_neg' h hp72
    refine condF ha KR KR (t := a0) (bool_f hp72) ?_
    refine wp_skip ?_
    refine thenN (hK69 _ _ ?_); clear hK69
    refine wp_seq_k (fun K75 hK76 => ?_)
    refine wp_region_lit ?_
    refine stepp ha 2 (.int .u32 0) KR KR ?_; clear ha a; intro a ha
    refine endl ?_
    refine thenN (hK76 _ _ ?_); clear hK76
    refine wp_ret ?_
    obtain rfl := Option.some.inj h
    exact finv ha _ _ rfl (.tmp (v := .int .u32 0) KR .nil) (.int .u32 0) rfl ⟨rfl, HW.pick [] [] (by decide) (by decide) rfl KR⟩
/-! ### math/bits.Mul32: function 139 -/
def bits_Mul32.f (a0 : Int) (a1 : Int) : Option (Int × Int) :=
  some (IntKind.wrap .u32 ((IntKind.wrap .u64 ((IntKind.wrap .u64 a0) * (IntKind.wrap .u64 a1))).fdiv 4294967296), IntKind.wrap .u32 (IntKind.wrap .u64 ((IntKind.wrap .u64 a0) * (IntKind.wrap .u64 a1))))
set_option maxRecDepth 100000 in
set_option maxHeartbeats 4000000 in
theorem bits_Mul32.calls (a0 : Int) (a1 : Int)  (r : Int × Int) (w : World)  (h : bits_Mul32.f a0 a1 = some r) :
    Calls Tryz.prog 139 #[.int .u32 a0, .int .u32 a1] w (fun e W' => e = .returned (.tuple #[.int .u32 r.1, .int .u32 r.2]) ∧ Wd w W' [] [] ) := by
  refine sxstart (n := 17) (l := [(0, .int .u32 a0), (1, .int .u32 a1)]) Tryz.func139 rfl rfl (Nat.le_of_ble_eq_true KR) (subsA_cons rfl (subsA_cons rfl (subsA_nil _))) ?_
  intro a ha
  have HW := Wd.refl w
  unfold bits_Mul32.f at h
  refine wp_seq_k (fun K77 hK78 => ?_)
  refine wp_region_lit ?_
  refine stepp ha 4 (.int .u32 0) KR KR ?_; clear ha a; intro a ha
  refine stepp ha 5 (.int .u32 0) KR KR ?_; clear ha a; intro a ha
  refine endl ?_
  refine thenN (hK78 _ _ ?_); clear hK78
  refine wp_seq_k (fun K79 hK80 => ?_)
  refine wp_region_lit ?_
  refine stepp ha 7 (.int .u32 a0) KR KR ?_; clear ha a; intro a ha
  refine stepp ha 8 (.int .u64 (IntKind.wrap .u64 a0)) KR KR ?_; clear ha a; intro a ha
  refine stepp ha 9 (.int .u32 a1) KR KR ?_; clear ha a; intro a ha
  refine stepp ha 10 (.int .u64 (IntKind.wrap .u64 a1)) KR KR ?_; clear ha a; intro a ha
  refine stepp ha 11 (.int .u64 (IntKind.wrap .u64 ((IntKind.wrap .u64 a0) * (IntKind.wrap .u64 a1)))) KR KR ?_; clear ha a; intro a ha
  refine stepp ha 6 (.int .u64 (IntKind.wrap .u64 ((IntKind.wrap .u64 a0) * (IntKind.wrap .u64 a1)))) KR KR ?_; clear ha a; intro a ha
  refine endl ?_
  refine thenN (hK80 _ _ ?_); clear hK80
  refine wp_seq_k (fun K81 hK82 => ?_)
  refine wp_region_lit ?_
  refine stepp ha 12 (.int .u64 (IntKind.wrap .u64 ((IntKind.wrap .u64 a0) * (IntKind.wrap .u64 a1)))) KR KR ?_; clear ha a; intro a ha
  refine stepp ha 13 (.int .u64 ((IntKind.wrap .u64 ((IntKind.wrap .u64 a0) * (IntKind.wrap .u64 a1))).fdiv 4294967296)) KR KR ?_; clear ha a; intro a ha
  refine stepp ha 14 (.int .u32 (IntKind.wrap .u32 ((IntKind.wrap .u64 ((IntKind.wrap .u64 a0) * (IntKind.wrap .u64 a1))).fdiv 4294967296))) KR KR ?_; clear ha a; intro a ha
  refine stepp ha 15 (.int .u64 (IntKind.wrap .u64 ((IntKind.wrap .u64 a0) * (IntKind.wrap .u64 a1)))) KR KR ?_; clear ha a; intro a ha
  refine stepp ha 16 (.int .u32 (IntKind.wrap .u32 (IntKind.wrap .u64 ((IntKind.wrap .u64 a0) * (IntKind.wrap .u64 a1))))) KR KR ?_; clear ha a; intro a ha
  refine stepp ha 4 (.int .u32 (IntKind.wrap .u32 ((IntKind.wrap .u64 ((IntKind.wrap .u64 a0) * (IntKind.wrap .u64 a1))).fdiv 4294967296))) KR KR ?_; clear ha a; intro a ha
  refine stepp ha 5 (.int .u32 (IntKind.wrap .u32 (IntKind.wrap .u64 ((IntKind.wrap .u64 a0) * (IntKind.wrap .u64 a1))))) KR KR ?_; clear ha a; intro a ha
  refine endl ?_
  refine thenN (hK82 _ _ ?_); clear hK82
  refine wp_ret ?_
  obtain rfl := Option.some.inj h
  exact finv ha _ _ rfl (.tmp (v := .int .u32 (IntKind.wrap .u32 ((IntKind.wrap .u64 ((IntKind.wrap .u64 a0) * (IntKind.wrap .u64 a1))).fdiv 4294967296))) KR (.tmp (v := .int .u32 (IntKind.wrap .u32 (IntKind.wrap .u64 ((IntKind.wrap .u64 a0) * (IntKind.wrap .u64 a1))))) KR .nil)) (.tuple #[.int .u32 (IntKind.wrap .u32 ((IntKind.wrap .u64 ((IntKind.wrap .u64 a0) * (IntKind.wrap .u64 a1))).fdiv 4294967296)), .int .u32 (IntKind.wrap .u32 (IntKind.wrap .u64 ((IntKind.wrap .u64 a0) * (IntKind.wrap .u64 a1))))]) rfl ⟨rfl, HW.pick [] [] (by decide) (by decide) rfl KR⟩
/-! ### math/bits.Mul64: function 140 -/
def bits_Mul64.f (a0 : Int) (a1 : Int) : Option (Int × Int) :=
  some (IntKind.wrap .u64 ((IntKind.wrap .u64 ((IntKind.wrap .u64 ((a0.fdiv 4294967296) * (a1.fdiv 4294967296))) + ((IntKind.wrap .u64 ((IntKind.wrap .u64 ((a0.fdiv 4294967296) * (band .u64 a1 4294967295))) + ((IntKind.wrap .u64 ((band .u64 a0 4294967295) * (band .u64 a1 4294967295))).fdiv 4294967296))).fdiv 4294967296))) + ((IntKind.wrap .u64 ((band .u64 (IntKind.wrap .u64 ((IntKind.wrap .u64 ((a0.fdiv 4294967296) * (band .u64 a1 4294967295))) + ((IntKind.wrap .u64 ((band .u64 a0 4294967295) * (band .u64 a1 4294967295))).fdiv 4294967296))) 4294967295) + (IntKind.wrap .u64 ((band .u64 a0 4294967295) * (a1.fdiv 4294967296))))).fdiv 4294967296)), IntKind.wrap .u64 (a0 * a1))
set_option maxRecDepth 100000 in
set_option maxHeartbeats 4000000 in
theorem bits_Mul64.calls (a0 : Int) (a1 : Int)  (r : Int × Int) (w : World)  (h : bits_Mul64.f a0 a1 = some r) :
    Calls Tryz.prog 140 #[.int .u64 a0, .int .u64 a1] w (fun e W' => e = .returned (.tuple #[.int .u64 r.1, .int .u64 r.2]) ∧ Wd w W' [] [] ) := by
  refine sxstart (n := 51) (l := [(0, .int .u64 a0), (1, .int .u64 a1)]) Tryz.func140 rfl rfl (Nat.le_of_ble_eq_true KR) (subsA_cons rfl (subsA_cons rfl (subsA_nil _))) ?_
  intro a ha
  have HW := Wd.refl w
  unfold bits_Mul64.f at h
  refine wp_seq_k (fun K83 hK84 => ?_)
  refine wp_region_lit ?_
  refine stepp ha 4 (.int .u64 0) KR KR ?_; clear ha a; intro a ha
  refine stepp ha 5 (.int .u64 0) KR KR ?_; clear ha a; intro a ha
  refine endl ?_
  refine thenN (hK84 _ _ ?_); clear hK84
  refine wp_seq_k (fun K85 hK86 => ?_)
  refine wp_region_lit ?_
  refine stepp ha 14 (.int .u64 a0) KR KR ?_; clear ha a; intro a ha
  refine stepp ha 15 (.int .u64 (band .u64 a0 4294967295)) KR KR ?_; clear ha a; intro a ha
  refine stepp ha 6 (.int .u64 (band .u64 a0 4294967295)) KR KR ?_; clear ha a; intro a ha
  refine endl ?_
  refine thenN (hK86 _ _ ?_); clear hK86
  refine wp_seq_k (fun K87 hK88 => ?_)
  refine wp_region_lit ?_
  refine stepp ha 16 (.int .u64 a0) KR KR ?_; clear ha a; intro a ha
  refine stepp ha 17 (.int .u64 (a0.fdiv 4294967296)) KR KR ?_; clear ha a; intro a ha
  refine stepp ha 7 (.int .u64 (a0.fdiv 4294967296)) KR KR ?_; clear ha a; intro a ha
  refine endl ?_
  refine thenN (hK88 _ _ ?_); clear hK88
  refine wp_seq_k (fun K89 hK90 => ?_)
  refine wp_region_lit ?_
  refine stepp ha 18 (.int .u64 a1) KR KR ?_; clear ha a; intro a ha
  refine stepp ha 19 (.int .u64 (band .u64 a1 4294967295)) KR KR ?_; clear ha a; intro a ha
  refine stepp ha 8 (.int .u64 (band .u64 a1 4294967295)) KR KR ?_; clear ha a; intro a ha
  refine endl ?_
  refine thenN (hK90 _ _ ?_); clear hK90
  refine wp_seq_k (fun K91 hK92 => ?_)
  refine wp_region_lit ?_
  refine stepp ha 20 (.int .u64 a1) KR KR ?_; clear ha a; intro a ha
  refine stepp ha 21 (.int .u64 (a1.fdiv 4294967296)) KR KR ?_; clear ha a; intro a ha
  refine stepp ha 9 (.int .u64 (a1.fdiv 4294967296)) KR KR ?_; clear ha a; intro a ha
  refine endl ?_
  refine thenN (hK92 _ _ ?_); clear hK92
  refine wp_seq_k (fun K93 hK94 => ?_)
  refine wp_region_lit ?_
  refine stepp ha 22 (.int .u64 (band .u64 a0 4294967295)) KR KR ?_; clear ha a; intro a ha
  refine stepp ha 23 (.int .u64 (band .u64 a1 4294967295)) KR KR ?_; clear ha a; intro a ha
  refine stepp ha 24 (.int .u64 (IntKind.wrap .u64 ((band .u64 a0 4294967295) * (band .u64 a1 4294967295)))) KR KR ?_; clear ha a; intro a ha
  refine stepp ha 10 (.int .u64 (IntKind.wrap .u64 ((band .u64 a0 4294967295) * (band .u64 a1 4294967295)))) KR KR ?_; clear ha a; intro a ha
  refine endl ?_
  refine thenN (hK94 _ _ ?_); clear hK94
  refine wp_seq_k (fun K95 hK96 => ?_)
  refine wp_region_lit ?_
  refine stepp ha 25 (.int .u64 (a0.fdiv 4294967296)) KR KR ?_; clear ha a; intro a ha
  refine stepp ha 26 (.int .u64 (band .u64 a1 4294967295)) KR KR ?_; clear ha a; intro a ha
  refine stepp ha 27 (.int .u64 (IntKind.wrap .u64 ((a0.fdiv 4294967296) * (band .u64 a1 4294967295)))) KR KR ?_; clear ha a; intro a ha
  refine stepp ha 28 (.int .u64 (IntKind.wrap .u64 ((band .u64 a0 4294967295) * (band .u64 a1 4294967295)))) KR KR ?_; clear ha a; intro a ha
  refine stepp ha 29 (.int .u64 ((IntKind.wrap .u64 ((band .u64 a0 4294967295) * (band .u64 a1 4294967295))).fdiv 4294967296)) KR KR ?_; clear ha a; intro a ha
  refine stepp ha 30 (.int .u64 (IntKind.wrap .u64 ((IntKind.wrap .u64 ((a0.fdiv 4294967296) * (band .u64 a1 4294967295))) + ((IntKind.wrap .u64 ((band .u64 a0 4294967295) * (band .u64 a1 4294967295))).fdiv 4294967296)))) KR KR ?_; clear ha a; intro a ha
  refine stepp ha 11 (.int .u64 (IntKind.wrap .u64 ((IntKind.wrap .u64 ((a0.fdiv 4294967296) * (band .u64 a1 4294967295))) + ((IntKind.wrap .u64 ((band .u64 a0 4294967295) * (band .u64 a1 4294967295))).fdiv 4294967296)))) KR KR ?_; clear ha a; intro a ha
  refine endl ?_
  refine thenN (hK96 _ _ ?_); clear hK96
  refine wp_seq_k (fun K97 hK98 => ?_)
  refine wp_region_lit ?_
  refine stepp ha 31 (.int .u64 (IntKind.wrap .u64 ((IntKind.wrap .u64 ((a0.fdiv 4294967296) * (band .u64 a1 4294967295))) + ((IntKind.wrap .u64 ((band .u64 a0 4294967295) * (band .u64 a1 4294967295))).fdiv 4294967296)))) KR KR ?_; clear ha a; intro a ha
  refine stepp ha 32 (.int .u64 (band .u64 (IntKind.wrap .u64 ((IntKind.wrap .u64 ((a0.fdiv 4294967296) * (band .u64 a1 4294967295))) + ((IntKind.wrap .u64 ((band .u64 a0 4294967295) * (band .u64 a1 4294967295))).fdiv 4294967296))) 4294967295)) KR KR ?_; clear ha a; intro a ha
  refine stepp ha 12 (.int .u64 (band .u64 (IntKind.wrap .u64 ((IntKind.wrap .u64 ((a0.fdiv 4294967296) * (band .u64 a1 4294967295))) + ((IntKind.wrap .u64 ((band .u64 a0 4294967295) * (band .u64 a1 4294967295))).fdiv 4294967296))) 4294967295)) KR KR ?_; clear ha a; intro a ha
  refine endl ?_
  refine thenN (hK98 _ _ ?_); clear hK98
  refine wp_seq_k (fun K99 hK100 => ?_)
  refine wp_region_lit ?_
  refine stepp ha 33 (.int .u64 (IntKind.wrap .u64 ((IntKind.wrap .u64 ((a0.fdiv 4294967296) * (band .u64 a1 4294967295))) + ((IntKind.wrap .u64 ((band .u64 a0 4294967295) * (band .u64 a1 4294967295))).fdiv 4294967296)))) KR KR ?_; clear ha a; intro a ha
  refine stepp ha 34 (.int .u64 ((IntKind.wrap .u64 ((IntKind.wrap .u64 ((a0.fdiv 4294967296) * (band .u64 a1 4294967295))) + ((IntKind.wrap .u64 ((band .u64 a0 4294967295) * (band .u64 a1 4294967295))).fdiv 4294967296))).fdiv 4294967296)) KR KR ?_; clear ha a; intro a ha
  refine stepp ha 13 (.int .u64 ((IntKind.wrap .u64 ((IntKind.wrap .u64 ((a0.fdiv 4294967296) * (band .u64 a1 4294967295))) + ((IntKind.wrap .u64 ((band .u64 a0 4294967295) * (band .u64 a1 4294967295))).fdiv 4294967296))).fdiv 4294967296)) KR KR ?_; clear ha a; intro a ha
  refine endl ?_
  refine thenN (hK100 _ _ ?_); clear hK100
  refine wp_seq_k (fun K101 hK102 => ?_)
  refine wp_region_lit ?_
  refine stepp ha 35 (.int .u64 (band .u64 (IntKind.wrap .u64 ((IntKind.wrap .u64 ((a0.fdiv 4294967296) * (band .u64 a1 4294967295))) + ((IntKind.wrap .u64 ((band .u64 a0 4294967295) * (band .u64 a1 4294967295))).fdiv 4294967296))) 4294967295)) KR KR ?_; clear ha a; intro a ha
  refine stepp ha 36 (.int .u64 (band .u64 a0 4294967295)) KR KR ?_; clear ha a; intro a ha
  refine stepp ha 37 (.int .u64 (a1.fdiv 4294967296)) KR KR ?_; clear ha a; intro a ha
  refine stepp ha 38 (.int .u64 (IntKind.wrap .u64 ((band .u64 a0 4294967295) * (a1.fdiv 4294967296)))) KR KR ?_; clear ha a; intro a ha
  refine stepp ha 39 (.int .u64 (IntKind.wrap .u64 ((band .u64 (IntKind.wrap .u64 ((IntKind.wrap .u64 ((a0.fdiv 4294967296) * (band .u64 a1 4294967295))) + ((IntKind.wrap .u64 ((band .u64 a0 4294967295) * (band .u64 a1 4294967295))).fdiv 4294967296))) 4294967295) + (IntKind.wrap .u64 ((band .u64 a0 4294967295) * (a1.fdiv 4294967296)))))) KR KR ?_; clear ha a; intro a ha
  refine stepp ha 12 (.int .u64 (IntKind.wrap .u64 ((band .u64 (IntKind.wrap .u64 ((IntKind.wrap .u64 ((a0.fdiv 4294967296) * (band .u64 a1 4294967295))) + ((IntKind.wrap .u64 ((band .u64 a0 4294967295) * (band .u64 a1 4294967295))).fdiv 4294967296))) 4294967295) + (IntKind.wrap .u64 ((band .u64 a0 4294967295) * (a1.fdiv 4294967296)))))) KR KR ?_; clear ha a; intro a ha
  refine endl ?_
  refine thenN (hK102 _ _ ?_); clear hK102
  refine wp_seq_k (fun K103 hK104 => ?_)
  refine wp_region_lit ?_
  refine stepp ha 40 (.int .u64 (a0.fdiv 4294967296)) KR KR ?_; clear ha a; intro a ha
  refine stepp ha 41 (.int .u64 (a1.fdiv 4294967296)) KR KR ?_; clear ha a; intro a ha
  refine stepp ha 42 (.int .u64 (IntKind.wrap .u64 ((a0.fdiv 4294967296) * (a1.fdiv 4294967296)))) KR KR ?_; clear ha a; intro a ha
  refine stepp ha 43 (.int .u64 ((IntKind.wrap .u64 ((IntKind.wrap .u64 ((a0.fdiv 4294967296) * (band .u64 a1 4294967295))) + ((IntKind.wrap .u64 ((band .u64 a0 4294967295) * (band .u64 a1 4294967295))).fdiv 4294967296))).fdiv 4294967296)) KR KR ?_; clear ha a; intro a ha
  refine stepp ha 44 (.int .u64 (IntKind.wrap .u64 ((IntKind.wrap .u64 ((a0.fdiv 4294967296) * (a1.fdiv 4294967296))) + ((IntKind.wrap .u64 ((IntKind.wrap .u64 ((a0.fdiv 4294967296) * (band .u64 a1 4294967295))) + ((IntKind.wrap .u64 ((band .u64 a0 4294967295) * (band .u64 a1 4294967295))).fdiv 4294967296))).fdiv 4294967296)))) KR KR ?_; clear ha a; intro a ha
  refine stepp ha 45 (.int .u64 (IntKind.wrap .u64 ((band .u64 (IntKind.wrap .u64 ((IntKind.wrap .u64 ((a0.fdiv 4294967296) * (band .u64 a1 4294967295))) + ((IntKind.wrap .u64 ((band .u64 a0 4294967295) * (band .u64 a1 4294967295))).fdiv 4294967296))) 4294967295) + (IntKind.wrap .u64 ((band .u64 a0 4294967295) * (a1.fdiv 4294967296)))))) KR KR ?_; clear ha a; intro a ha
  refine stepp ha 46 (.int .u64 ((IntKind.wrap .u64 ((band .u64 (IntKind.wrap .u64 ((IntKind.wrap .u64 ((a0.fdiv 4294967296) * (band .u64 a1 4294967295))) + ((IntKind.wrap .u64 ((band .u64 a0 4294967295) * (band .u64 a1 4294967295))).fdiv 4294967296))) 4294967295) + (IntKind.wrap .u64 ((band .u64 a0 4294967295) * (a1.fdiv 4294967296))))).fdiv 4294967296)) KR KR ?_; clear ha a; intro a ha
  refine stepp ha 47 (.int .u64 (IntKind.wrap .u64 ((IntKind.wrap .u64 ((IntKind.wrap .u64 ((a0.fdiv 4294967296) * (a1.fdiv 4294967296))) + ((IntKind.wrap .u64 ((IntKind.wrap .u64 ((a0.fdiv 4294967296) * (band .u64 a1 4294967295))) + ((IntKind.wrap .u64 ((band .u64 a0 4294967295) * (band .u64 a1 4294967295))).fdiv 4294967296))).fdiv 4294967296))) + ((IntKind.wrap .u64 ((band .u64 (IntKind.wrap .u64 ((IntKind.wrap .u64 ((a0.fdiv 4294967296) * (band .u64 a1 4294967295))) + ((IntKind.wrap .u64 ((band .u64 a0 4294967295) * (band .u64 a1 4294967295))).fdiv 4294967296))) 4294967295) + (IntKind.wrap .u64 ((band .u64 a0 4294967295) * (a1.fdiv 4294967296))))).fdiv 4294967296)))) KR KR ?_; clear ha a; intro a ha
  refine stepp ha 4 (.int .u64 (IntKind.wrap .u64 ((IntKind.wrap .u64 ((IntKind.wrap .u64 ((a0.fdiv 4294967296) * (a1.fdiv 4294967296))) + ((IntKind.wrap .u64 ((IntKind.wrap .u64 ((a0.fdiv 4294967296) * (band .u64 a1 4294967295))) + ((IntKind.wrap .u64 ((band .u64 a0 4294967295) * (band .u64 a1 4294967295))).fdiv 4294967296))).fdiv 4294967296))) + ((IntKind.wrap .u64 ((band .u64 (IntKind.wrap .u64 ((IntKind.wrap .u64 ((a0.fdiv 4294967296) * (band .u64 a1 4294967295))) + ((IntKind.wrap .u64 ((band .u64 a0 4294967295) * (band .u64 a1 4294967295))).fdiv 4294967296))) 4294967295) + (IntKind.wrap .u64 ((band .u64 a0 4294967295) * (a1.fdiv 4294967296))))).fdiv 4294967296)))) KR KR ?_; clear ha a; intro a ha
  refine endl ?_
  refine thenN (hK104 _ _ ?_); clear hK104
  refine wp_seq_k (fun K105 hK106 => ?_)
  refine wp_region_lit ?_
  refine stepp ha 48 (.int .u64 a0) KR KR ?_; clear ha a; intro a ha
  refine stepp ha 49 (.int .u64 a1) KR KR ?_; clear ha a; intro a ha
  refine stepp ha 50 (.int .u64 (IntKind.wrap .u64 (a0 * a1))) KR KR ?_; clear ha a; intro a ha
  refine stepp ha 5 (.int .u64 (IntKind.wrap .u64 (a0 * a1))) KR KR ?_; clear ha a; intro a ha
  refine endl ?_
  refine thenN (hK106 _ _ ?_); clear hK106
  refine wp_ret ?_
  obtain rfl := Option.some.inj h
  exact finv ha _ _ rfl (.tmp (v := .int .u64 (IntKind.wrap .u64 ((IntKind.wrap .u64 ((IntKind.wrap .u64 ((a0.fdiv 4294967296) * (a1.fdiv 4294967296))) + ((IntKind.wrap .u64 ((IntKind.wrap .u64 ((a0.fdiv 4294967296) * (band .u64 a1 4294967295))) + ((IntKind.wrap .u64 ((band .u64 a0 4294967295) * (band .u64 a1 4294967295))).fdiv 4294967296))).fdiv 4294967296))) + ((IntKind.wrap .u64 ((band .u64 (IntKind.wrap .u64 ((IntKind.wrap .u64 ((a0.fdiv 4294967296) * (band .u64 a1 4294967295))) + ((IntKind.wrap .u64 ((band .u64 a0 4294967295) * (band .u64 a1 4294967295))).fdiv 4294967296))) 4294967295) + (IntKind.wrap .u64 ((band .u64 a0 4294967295) * (a1.fdiv 4294967296))))).fdiv 4294967296)))) KR (.tmp (v := .int .u64 (IntKind.wrap .u64 (a0 * a1))) KR .nil)) (.tuple #[.int .u64 (IntKind.wrap .u64 ((IntKind.wrap .u64 ((IntKind.wrap .u64 ((a0.fdiv 4294967296) * (a1.fdiv 4294967296))) + ((IntKind.wrap .u64 ((IntKind.wrap .u64 ((a0.fdiv 4294967296) * (band .u64 a1 4294967295))) + ((IntKind.wrap .u64 ((band .u64 a0 4294967295) * (band .u64 a1 4294967295))).fdiv 4294967296))).fdiv 4294967296))) + ((IntKind.wrap .u64 ((band .u64 (IntKind.wrap .u64 ((IntKind.wrap .u64 ((a0.fdiv 4294967296) * (band .u64 a1 4294967295))) + ((IntKind.wrap .u64 ((band .u64 a0 4294967295) * (band .u64 a1 4294967295))).fdiv 4294967296))) 4294967295) + (IntKind.wrap .u64 ((band .u64 a0 4294967295) * (a1.fdiv 4294967296))))).fdiv 4294967296))), .int .u64 (IntKind.wrap .u64 (a0 * a1))]) rfl ⟨rfl, HW.pick [] [] (by decide) (by decide) rfl KR⟩
/-! ### math/bits.Mul: function 111 -/
def bits_Mul.f (a0 : Int) (a1 : Int) : Option (Int × Int) :=
  (bits_Mul64.f a0 a1).bind fun t113 => (some (t113.1, t113.2))
set_option maxRecDepth 100000 in
set_option maxHeartbeats 4000000 in
theorem bits_Mul.calls (a0 : Int) (a1 : Int)  (r : Int × Int) (w : World)  (h : bits_Mul.f a0 a1 = some r) :
    Calls Tryz.prog 111 #[.int .u64 a0, .int .u64 a1] w (fun e W' => e = .returned (.tuple #[.int .u64 r.1, .int .u64 r.2]) ∧ Wd w W' [] [] ) := by
  refine sxstart (n := 30) (l := [(0, .int .u64 a0), (1, .int .u64 a1)]) Tryz.func111 rfl rfl (Nat.le_of_ble_eq_true KR) (subsA_cons rfl (subsA_cons rfl (subsA_nil _))) ?_
  intro a ha
  have HW := Wd.refl w
  unfold bits_Mul.f at h
  refine wp_seq_k (fun K107 hK108 => ?_)
  refine wp_region_lit ?_
  refine stepp ha 4 (.int .u64 0) KR KR ?_; clear ha a; intro a ha
  refine stepp ha 5 (.int .u64 0) KR KR ?_; clear ha a; intro a ha
  refine endl ?_
  refine thenN (hK108 _ _ ?_); clear hK108
  refine wp_seq_k (fun K109 hK110 => ?_)
  refine condF ha KR KR (t := false) (rfl) ?_
  refine wp_skip ?_
  refine thenN (hK110 _ _ ?_); clear hK110
  refine wp_seq_k (fun K111 hK112 => ?_)
  refine wp_region_lit ?_
  refine stepp ha 23 (.int .u64 a0) KR KR ?_; clear ha a; intro a ha
  refine stepp ha 24 (.int .u64 a1) KR KR ?_; clear ha a; intro a ha
  obtain ⟨t113, ht114, h_⟩ := bind_some' h; clear h; have h := h_; clear h_
  refine stepc ha 25 KR KR (bits_Mul64.calls a0 a1 t113 _ ht114) ?_; clear ha a; rintro e W115 ⟨rfl, HX116⟩
  refine ⟨_, rfl, ?_⟩; intro a ha; replace HW := HW.callw HX116; clear HX116
  refine stepp ha 22 (.tuple #[.int .u64 t113.1, .int .u64 t113.2]) KR KR ?_; clear ha a; intro a ha
  refine stepp ha 26 (.int .u64 t113.1) KR KR ?_; clear ha a; intro a ha
  refine stepp ha 27 (.int .u64 t113.2) KR KR ?_; clear ha a; intro a ha
  refine stepp ha 8 (.int .u64 t113.1) KR KR ?_; clear ha a; intro a ha
  refine stepp ha 9 (.int .u64 t113.2) KR KR ?_; clear ha a; intro a ha
  refine endl ?_
  refine thenN (hK112 _ _ ?_); clear hK112
  refine wp_seq_k (fun K117 hK118 => ?_)
  refine wp_region_lit ?_
  refine stepp ha 28 (.int .u64 t113.1) KR KR ?_; clear ha a; intro a ha
  refine stepp ha 29 (.int .u64 t113.2) KR KR ?_; clear ha a; intro a ha
  refine stepp ha 4 (.int .u64 t113.1) KR KR ?_; clear ha a; intro a ha
  refine stepp ha 5 (.int .u64 t113.2) KR KR ?_; clear ha a; intro a ha
  refine endl ?_
  refine thenN (hK118 _ _ ?_); clear hK118
  refine wp_ret ?_
  obtain rfl := Option.some.inj h
  exact finv ha _ _ rfl (.tmp (v := .int .u64 t113.1) KR (.tmp (v := .int .u64 t113.2) KR .nil)) (.tuple #[.int .u64 t113.1, .int .u64 t113.2]) rfl ⟨rfl, HW.pick [] [] (by decide) (by decide) rfl KR⟩
/-! ### internal/stringslite.HasPrefix: function 141 -/
def stringslite_HasPrefix.f (a0 : ByteArray) (a1 : ByteArray) : Option Bool :=
  if (a0.size : Int) ≥ (a1.size : Int) then (asrt (0 ≤ (a1.size : Int)) (asrt ((a1.size : Int) ≤ (a0.size : Int)) (some ((a0.extract 0 ((a1.size : Int) : Int).toNat).toList == a1.toList)))) else (some false)
set_option maxRecDepth 100000 in
set_option maxHeartbeats 4000000 in
theorem stringslite_HasPrefix.calls (a0 : ByteArray) (a1 : ByteArray)  (r : Bool) (w : World)  (h : stringslite_HasPrefix.f a0 a1 = some r) :
    Calls Tryz.prog 141 #[.string a0, .string a1] w (fun e W' => e = .returned (.bool r) ∧ Wd w W' [] [] ) := by
  refine sxstart (n := 18) (l := [(0, .string a0), (1, .string a1)]) Tryz.func141 rfl rfl (Nat.le_of_ble_eq_true KR) (subsA_cons rfl (subsA_cons rfl (subsA_nil _))) ?_
  intro a ha
  have HW := Wd.refl w
  unfold stringslite_HasPrefix.f at h
  refine wp_seq_k (fun K119 hK120 => ?_)
  refine wp_region_lit ?_
  refine stepp ha 4 (.bool false) KR KR ?_; clear ha a; intro a ha
  refine endl ?_
  refine thenN (hK120 _ _ ?_); clear hK120
  refine wp_seq_k (fun K121 hK122 => ?_)
  refine wp_region_lit ?_
  refine stepp ha 5 (.string a0) KR KR ?_; clear ha a; intro a ha
  refine stepp ha 6 (.int .i64 (a0.size : Int)) KR KR ?_; clear ha a; intro a ha
  refine stepp ha 7 (.string a1) KR KR ?_; clear ha a; intro a ha
  refine stepp ha 8 (.int .i64 (a1.size : Int)) KR KR ?_; clear ha a; intro a ha
  refine stepp ha 9 (.bool (decide ((a0.size : Int) ≥ (a1.size : Int)))) KR KR ?_; clear ha a; intro a ha
  refine stepp ha 10 (.bool (decide ((a0.size : Int) ≥ (a1.size : Int)))) KR KR ?_; clear ha a; intro a ha
  by_cases hp123 : (a0.size : Int) ≥ (a1.size : Int)
  · skip
    replace h := ite_pos' h hp123
    replace ha := ha.bool 10 KR (decide_eq_true hp123)
    refine stepp ha 11 (.string a0) KR KR ?_; clear ha a; intro a ha
    refine stepp ha 12 (.string a1) KR KR ?_; clear ha a; intro a ha
    refine stepp ha 13 (.int .i64 (a1.size : Int)) KR KR ?_; clear ha a; intro a ha
    obtain ⟨hA124, h_⟩ := asrt_some h; clear h; have h := h_; clear h_
    obtain ⟨hA125, h_⟩ := asrt_some h; clear h; have h := h_; clear h_
    refine stepssh ha 14 9 (.tmp 11) (.tmp 13) a0 .i64 (a1.size : Int) rfl KR KR KR hA124 (show ((a1.size : Int) : Int) ≤ ((a0).size : Int) from hA125) KR ?_; clear ha a; intro a ha
    refine stepp ha 15 (.string a1) KR KR ?_; clear ha a; intro a ha
    refine stepp ha 16 (.bool ((a0.extract 0 ((a1.size : Int) : Int).toNat).toList == a1.toList)) KR KR ?_; clear ha a; intro a ha
    refine stepp ha 17 (.bool ((a0.extract 0 ((a1.size : Int) : Int).toNat).toList == a1.toList)) KR KR ?_; clear ha a; intro a ha
    refine stepp ha 4 (.bool ((a0.extract 0 ((a1.size : Int) : Int).toNat).toList == a1.toList)) KR KR ?_; clear ha a; intro a ha
    refine endl ?_
    refine thenN (hK122 _ _ ?_); clear hK122
    refine wp_ret ?_
    obtain rfl := Option.some.inj h
    exact finv ha _ _ rfl (.tmp (v := .bool ((a0.extract 0 ((a1.size : Int) : Int).toNat).toList == a1.toList)) KR .nil) (.bool ((a0.extract 0 ((a1.size : Int) : Int).toNat).toList == a1.toList)) rfl ⟨rfl, HW.pick [] [] (by decide) (by decide) rfl KR⟩
  · skip
    replace h := ite_neg' h hp123
    replace ha := ha.bool 10 KR (decide_eq_false hp123)
    refine stepo ha 11 KR ?_; clear ha a; intro a ha
    refine stepo ha 12 KR ?_; clear ha a; intro a ha
    refine stepo ha 13 KR ?_; clear ha a; intro a ha
    refine stepo ha 14 KR ?_; clear ha a; intro a ha
    refine stepo ha 15 KR ?_; clear ha a; intro a ha
    refine stepo ha 16 KR ?_; clear ha a; intro a ha
    refine stepp ha 17 (.bool false) KR KR ?_; clear ha a; intro a ha
    refine stepp ha 4 (.bool false) KR KR ?_; clear ha a; intro a ha
    refine endl ?_
    refine thenN (hK122 _ _ ?_); clear hK122
    refine wp_ret ?_
    obtain rfl := Option.some.inj h
    exact finv ha _ _ rfl (.tmp (v := .bool false) KR .nil) (.bool false) rfl ⟨rfl, HW.pick [] [] (by decide) (by decide) rfl KR⟩
/-! ### strings.HasPrefix: function 112, by the library's contract -/
def strings_HasPrefix.f (a0 : ByteArray) (a1 : ByteArray) : Option Bool :=
  some (Lib.hasPrefix a0.data.toList a1.data.toList)
theorem strings_HasPrefix.calls (a0 : ByteArray) (a1 : ByteArray)  (r : Bool) (w : World) (h : strings_HasPrefix.f a0 a1 = some r) :
    Calls Tryz.prog 112 #[.string a0, .string a1] w (fun e W' => e = .returned (.bool r) ∧ Wd w W' [] []) := by
  obtain rfl := Option.some.inj h
  exact (Tryz.strings_HasPrefix a0 a1 w).mono fun e W' ⟨he, hb⟩ => ⟨he, hb ▸ Wd.refl w⟩
/-! ### strings.Repeat: function 73, by the library's contract -/
def strings_Repeat.f (a0 : ByteArray) (a1 : Int) : Option ByteArray :=
  asrt (0 ≤ a1) (asrt (a1 ≤ 9223372036854775807) (asrt (a0.size * a1.toNat ≤ 140737488355328) (some ⟨(Lib.repeatL a0.data.toList a1.toNat).toArray⟩)))
theorem strings_Repeat.calls (a0 : ByteArray) (a1 : Int)  (r : ByteArray) (w : World) (h : strings_Repeat.f a0 a1 = some r) :
    Calls Tryz.prog 73 #[.string a0, .int .i64 a1] w (fun e W' => e = .returned (.string r) ∧ Wd w W' [] []) := by
  unfold strings_Repeat.f at h
  obtain ⟨h0, h⟩ := asrt_some h
  obtain ⟨h1, h⟩ := asrt_some h
  obtain ⟨h2, h⟩ := asrt_some h
  obtain rfl := Option.some.inj h
  obtain ⟨c, rfl⟩ := Int.eq_ofNat_of_zero_le h0
  exact (Tryz.strings_Repeat a0 c w (by omega) h2).mono fun e W' ⟨he, hb⟩ => ⟨he, (Wd.refl w).call hb⟩
/-! ### headgate/frame.Sectors: function 116 -/
def frame_Sectors.f (a0 : Int) : Option Int :=
  if a0 < 0 then (some 0) else (if a0 > 65536 then (some 0) else (some (IntKind.wrap .i64 (Int.tdiv (IntKind.wrap .i64 ((IntKind.wrap .i64 ((IntKind.wrap .i64 (a0 + 24)) + 512)) - 1)) 512))))
set_option maxRecDepth 100000 in
set_option maxHeartbeats 4000000 in
theorem frame_Sectors.calls (a0 : Int)  (r : Int) (w : World)  (h : frame_Sectors.f a0 = some r) :
    Calls Tryz.prog 116 #[.int .i64 a0] w (fun e W' => e = .returned (.int .i64 r) ∧ Wd w W' [] [] ) := by
  refine sxstart (n := 14) (l := [(0, .int .i64 a0)]) Tryz.func116 rfl rfl (Nat.le_of_ble_eq_true KR) (subsA_cons rfl (subsA_nil _)) ?_
  intro a ha
  have HW := Wd.refl w
  unfold frame_Sectors.f at h
  refine wp_seq_k (fun K126 hK127 => ?_)
  refine wp_region_lit ?_
  refine stepp ha 2 (.int .i64 0) KR KR ?_; clear ha a; intro a ha
  refine endl ?_
  refine thenN (hK127 _ _ ?_); clear hK127
  refine wp_seq_k (fun K128 hK129 => ?_)
  refine wp_seq_k (fun K130 hK131 => ?_)
  refine wp_region_lit ?_
  refine stepp ha 3 (.int .i64 a0) KR KR ?_; clear ha a; intro a ha
  refine stepp ha 4 (.bool (decide (a0 < 0))) KR KR ?_; clear ha a; intro a ha
  refine stepp ha 5 (.bool (decide (a0 < 0))) KR KR ?_; clear ha a; intro a ha
  by_cases hp132 : a0 < 0
  · skip
    replace h := ite_pos' h hp132
    replace ha := ha.bool 5 KR (decide_eq_true hp132)
    refine stepo ha 6 KR ?_; clear ha a; intro a ha
    refine stepo ha 7 KR ?_; clear ha a; intro a ha
    refine stepp ha 8 (.bool true) KR KR ?_; clear ha a; intro a ha
    refine endl ?_
    refine thenN (hK131 _ _ ?_); clear hK131
    refine condT ha KR KR (t := true) (rfl) ?_
    refine wp_seq_k (fun K133 hK134 => ?_)
    refine wp_region_lit ?_
    refine stepp ha 2 (.int .i64 0) KR KR ?_; clear ha a; intro a ha
    refine endl ?_
    refine thenN (hK134 _ _ ?_); clear hK134
    refine wp_ret ?_
    refine thenR ?_
    obtain rfl := Option.some.inj h
    exact finv ha _ _ rfl (.tmp (v := .int .i64 0) KR .nil) (.int .i64 0) rfl ⟨rfl, HW.pick [] [] (by decide) (by decide) rfl KR⟩
  · skip
    replace h := ite_neg' h hp132
    replace ha := ha.bool 5 KR (decide_eq_false hp132)
    refine stepp ha 6 (.int .i64 a0) KR KR ?_; clear ha a; intro a ha
    refine stepp ha 7 (.bool (decide (a0 > 65536))) KR KR ?_; clear ha a; intro a ha
    refine stepp ha 8 (.bool (decide (a0 > 65536))) KR KR ?_; clear ha a; intro a ha
    refine endl ?_
    refine thenN (hK131 _ _ ?_); clear hK131
    by_cases hp135 : a0 > 65536
    · skip
      replace h := ite_pos' h hp135
      refine condT ha KR KR (t := decide (a0 > 65536)) (decide_eq_true hp135) ?_
      refine wp_seq_k (fun K136 hK137 => ?_)
      refine wp_region_lit ?_
      refine stepp ha 2 (.int .i64 0) KR KR ?_; clear ha a; intro a ha
      refine endl ?_
      refine thenN (hK137 _ _ ?_); clear hK137
      refine wp_ret ?_
      refine thenR ?_
      obtain rfl := Option.some.inj h
      exact finv ha _ _ rfl (.tmp (v := .int .i64 0) KR .nil) (.int .i64 0) rfl ⟨rfl, HW.pick [] [] (by decide) (by decide) rfl KR⟩
    · skip
      replace h := ite_neg' h hp135
      refine condF ha KR KR (t := decide (a0 > 65536)) (decide_eq_false hp135) ?_
      refine wp_skip ?_
      refine thenN (hK129 _ _ ?_); clear hK129
      refine wp_seq_k (fun K138 hK139 => ?_)
      refine wp_region_lit ?_
      refine stepp ha 9 (.int .i64 a0) KR KR ?_; clear ha a; intro a ha
      refine stepp ha 10 (.int .i64 (IntKind.wrap .i64 (a0 + 24))) KR KR ?_; clear ha a; intro a ha
      refine stepp ha 11 (.int .i64 (IntKind.wrap .i64 ((IntKind.wrap .i64 (a0 + 24)) + 512))) KR KR ?_; clear ha a; intro a ha
      refine stepp ha 12 (.int .i64 (IntKind.wrap .i64 ((IntKind.wrap .i64 ((IntKind.wrap .i64 (a0 + 24)) + 512)) - 1))) KR KR ?_; clear ha a; intro a ha
      refine stepp ha 13 (.int .i64 (IntKind.wrap .i64 (Int.tdiv (IntKind.wrap .i64 ((IntKind.wrap .i64 ((IntKind.wrap .i64 (a0 + 24)) + 512)) - 1)) 512))) KR KR ?_; clear ha a; intro a ha
      refine stepp ha 2 (.int .i64 (IntKind.wrap .i64 (Int.tdiv (IntKind.wrap .i64 ((IntKind.wrap .i64 ((IntKind.wrap .i64 (a0 + 24)) + 512)) - 1)) 512))) KR KR ?_; clear ha a; intro a ha
      refine endl ?_
      refine thenN (hK139 _ _ ?_); clear hK139
      refine wp_ret ?_
      obtain rfl := Option.some.inj h
      exact finv ha _ _ rfl (.tmp (v := .int .i64 (IntKind.wrap .i64 (Int.tdiv (IntKind.wrap .i64 ((IntKind.wrap .i64 ((IntKind.wrap .i64 (a0 + 24)) + 512)) - 1)) 512))) KR .nil) (.int .i64 (IntKind.wrap .i64 (Int.tdiv (IntKind.wrap .i64 ((IntKind.wrap .i64 ((IntKind.wrap .i64 (a0 + 24)) + 512)) - 1)) 512))) rfl ⟨rfl, HW.pick [] [] (by decide) (by decide) rfl KR⟩
/-! ### headgate/fields.shifts: function 152 -/
def fields_shifts.b0 (K : Nat) (a0 : Int) (a1 : Bool) (again217 : (List Int) → Int → Option (List Int)) (x218 : List Int) (x222 : Int) : Option (List Int) :=
  if x222 < a0 then (if a1 = true then (asrt (x218.length + ([IntKind.wrap .i64 (8 * (IntKind.wrap .i64 ((IntKind.wrap .i64 (a0 - 1)) - x222)))] : List Int).length ≤ 17592186044416) (again217 (x218 ++ ([IntKind.wrap .i64 (8 * (IntKind.wrap .i64 ((IntKind.wrap .i64 (a0 - 1)) - x222)))] : List Int)) (IntKind.wrap .i64 (x222 + 1)))) else (asrt (x218.length + ([IntKind.wrap .i64 (8 * x222)] : List Int).length ≤ 17592186044416) (again217 (x218 ++ ([IntKind.wrap .i64 (8 * x222)] : List Int)) (IntKind.wrap .i64 (x222 + 1))))) else (some x218)
def fields_shifts.l0 (K : Nat) (a0 : Int) (a1 : Bool) : Nat → (List Int) → Int → Option (List Int)
  | 0, _, _ => none
  | k_ + 1, x218, x222 => fields_shifts.b0 K a0 a1 (fields_shifts.l0 K a0 a1 k_) x218 x222
def fields_shifts.f (K : Nat) (a0 : Int) (a1 : Bool) : Option (List Int) :=
  fields_shifts.l0 K a0 a1 K ([] : List Int) 0
set_option maxRecDepth 100000 in
set_option maxHeartbeats 4000000 in
theorem fields_shifts.calls (K : Nat) (a0 : Int) (a1 : Bool)  (r : List Int) (w : World)  (h : fields_shifts.f K a0 a1 = some r) :
    Calls Tryz.prog 152 #[.int .i64 a0, .bool a1] w (fun e W' => ∃ A_0 c_0, e = .returned (.slice A_0 r.length c_0) ∧ Wd w W' [] [⟨3, 1, .slice A_0 r.length c_0, r.length, encs (encI .i64) r⟩] ) := by
  refine sxstart (n := 27) (l := [(0, .int .i64 a0), (1, .bool a1)]) Tryz.func152 rfl rfl (Nat.le_of_ble_eq_true KR) (subsA_cons rfl (subsA_cons rfl (subsA_nil _))) ?_
  intro a ha
  have HW := Wd.refl w
  unfold fields_shifts.f at h
  refine wp_seq_k (fun K140 hK141 => ?_)
  refine wp_region_lit ?_
  refine stepp ha 4 (.slice none 0 0) KR KR ?_; clear ha a; intro a ha
  refine endl ?_
  refine thenN (hK141 _ _ ?_); clear hK141
  refine wp_seq_k (fun K142 hK143 => ?_)
  refine wp_region_lit ?_
  refine stepp ha 5 (.slice none 0 0) KR KR ?_; clear ha a; intro a ha
  refine endl ?_
  refine thenN (hK143 _ _ ?_); clear hK143
  refine wp_seq_k (fun K144 hK145 => ?_)
  refine wp_seq_k (fun K146 hK147 => ?_)
  refine wp_region_lit ?_
  refine stepp ha 7 (.int .i64 a0) KR KR ?_; clear ha a; intro a ha
  refine stepp ha 8 (.int .i64 0) KR KR ?_; clear ha a; intro a ha
  refine endl ?_
  refine thenN (hK147 _ _ ?_); clear hK147
  refine wp_block ?_
  refine loopk (fun k => fun a W223 => ∃ (x218 : List Int), ∃ A219, ∃ c220, ∃ (x222 : Int), fields_shifts.l0 K a0 a1 k x218 x222 = some r ∧ Has 27 [(0, .int .i64 a0), (1, .bool a1), (5, .slice A219 x218.length c220), (7, .int .i64 a0), (8, .int .i64 x222)] a ∧ Wd w W223 [] [⟨3, 1, .slice A219 x218.length c220, x218.length, encs (encI .i64) x218⟩]) K ?_ ?_
  · skip
    replace HW := HW.nilo 3 1
    exact ⟨([] : List Int), none, 0, 0, h, ha.sub (subs_cons KR (subs_cons KR (subs_cons KR (subs_cons KR (subs_cons KR (subs_nil _)))))), HW.pick [] [0] (by decide) (by decide) KR KR⟩
  · skip
    intro k a W223 hI
    obtain ⟨x218, A219, c220, x222, h, ha, HW⟩ := hI
    cases k with
    | zero => exact (none_some (show none = some r from h)).elim
    | succ k224 =>
      replace h : fields_shifts.b0 K a0 a1 (fields_shifts.l0 K a0 a1 k224) x218 x222 = some r := h
      obtain ⟨again217, hag225⟩ : ∃ g_, g_ = fields_shifts.l0 K a0 a1 k224 := ⟨_, rfl⟩
      rw [← hag225] at h
      unfold fields_shifts.b0 at h
      refine wp_seq_k (fun K226 hK227 => ?_)
      refine wp_region_lit ?_
      refine stepp ha 9 (.bool (decide (x222 < a0))) KR KR ?_; clear ha a; intro a ha
      refine endl ?_
      refine thenN (hK227 _ _ ?_); clear hK227
      refine wp_seq_k (fun K228 hK229 => ?_)
      by_cases hp230 : x222 < a0
      · skip
        replace h := ite_pos' h hp230
        refine condT ha KR KR (t := decide (x222 < a0)) (decide_eq_true hp230) ?_
        refine wp_skip ?_
        refine thenN (hK229 _ _ ?_); clear hK229
        refine wp_seq_k (fun K231 hK232 => ?_)
        refine wp_block ?_
        refine wp_seq_k (fun K233 hK234 => ?_)
        refine wp_region_lit ?_
        refine stepp ha 10 (.int .i64 x222) KR KR ?_; clear ha a; intro a ha
        refine stepp ha 6 (.int .i64 x222) KR KR ?_; clear ha a; intro a ha
        refine endl ?_
        refine thenN (hK234 _ _ ?_); clear hK234
        refine wp_seq_k (fun K235 hK236 => ?_)
        refine wp_region_lit ?_
        refine stepp ha 11 (.bool a1) KR KR ?_; clear ha a; intro a ha
        refine endl ?_
        refine thenN (hK236 _ _ ?_); clear hK236
        by_cases hp237 : a1 = true
        · skip
          replace h := ite_pos' h hp237
          refine condT ha KR KR (t := a1) (hp237) ?_
          refine wp_region_lit ?_
          refine stepp ha 12 (.slice A219 x218.length c220) KR KR ?_; clear ha a; intro a ha
          refine stepp ha 13 (.int .i64 a0) KR KR ?_; clear ha a; intro a ha
          refine stepp ha 14 (.int .i64 (IntKind.wrap .i64 (a0 - 1))) KR KR ?_; clear ha a; intro a ha
          refine stepp ha 15 (.int .i64 x222) KR KR ?_; clear ha a; intro a ha
          refine stepp ha 16 (.int .i64 (IntKind.wrap .i64 ((IntKind.wrap .i64 (a0 - 1)) - x222))) KR KR ?_; clear ha a; intro a ha
          refine stepp ha 17 (.int .i64 (IntKind.wrap .i64 (8 * (IntKind.wrap .i64 ((IntKind.wrap .i64 (a0 - 1)) - x222))))) KR KR ?_; clear ha a; intro a ha
          refine stepbs ha HW 18 3 1 1 #[.int .i64 (IntKind.wrap .i64 (8 * (IntKind.wrap .i64 ((IntKind.wrap .i64 (a0 - 1)) - x222))))] [.int .i64 (IntKind.wrap .i64 (8 * (IntKind.wrap .i64 ((IntKind.wrap .i64 (a0 - 1)) - x222))))] (by decide) KR KR KR KR ?_; clear ha HW a; intro b238 a W239 HW ha
          replace HW : Wd w W239 [] [⟨3, 1, .slice (some ⟨b238, 0, none⟩) ([IntKind.wrap .i64 (8 * (IntKind.wrap .i64 ((IntKind.wrap .i64 (a0 - 1)) - x222)))] : List Int).length 1, ([IntKind.wrap .i64 (8 * (IntKind.wrap .i64 ((IntKind.wrap .i64 (a0 - 1)) - x222)))] : List Int).length, encs (encI .i64) ([IntKind.wrap .i64 (8 * (IntKind.wrap .i64 ((IntKind.wrap .i64 (a0 - 1)) - x222)))] : List Int)⟩, ⟨3, 1, .slice A219 x218.length c220, x218.length, encs (encI .i64) x218⟩] := HW
          replace ha := ha.turn 18 (v := .slice (some ⟨b238, 0, none⟩) ([IntKind.wrap .i64 (8 * (IntKind.wrap .i64 ((IntKind.wrap .i64 (a0 - 1)) - x222)))] : List Int).length 1) KR rfl
          obtain ⟨hA241, h_⟩ := asrt_some h; clear h; have h := h_; clear h_
          refine stepape (encI .i64) ha HW 19 1 58 3 (.tmp 12) (.tmp 18) (.int .i64 0) 1 8 (.slice A219 x218.length c220) x218 (.slice (some ⟨b238, 0, none⟩) ([IntKind.wrap .i64 (8 * (IntKind.wrap .i64 ((IntKind.wrap .i64 (a0 - 1)) - x222)))] : List Int).length 1) ([IntKind.wrap .i64 (8 * (IntKind.wrap .i64 ((IntKind.wrap .i64 (a0 - 1)) - x222)))] : List Int) KR rfl KR KR (HW.rdo (i := 0) (q := ⟨3, 1, .slice (some ⟨b238, 0, none⟩) ([IntKind.wrap .i64 (8 * (IntKind.wrap .i64 ((IntKind.wrap .i64 (a0 - 1)) - x222)))] : List Int).length 1, ([IntKind.wrap .i64 (8 * (IntKind.wrap .i64 ((IntKind.wrap .i64 (a0 - 1)) - x222)))] : List Int).length, encs (encI .i64) ([IntKind.wrap .i64 (8 * (IntKind.wrap .i64 ((IntKind.wrap .i64 (a0 - 1)) - x222)))] : List Int)⟩) KR) (fun _ => rfl) KR KR KR (by decide) (by have := hA241; unfold maxLen; omega) (by have := hA241; omega) KR ?_; clear ha HW a; intro A242 c243 a W244 HW ha
          refine stepp ha 5 (.slice A242 (x218 ++ ([IntKind.wrap .i64 (8 * (IntKind.wrap .i64 ((IntKind.wrap .i64 (a0 - 1)) - x222)))] : List Int)).length c243) KR KR ?_; clear ha a; intro a ha
          refine endl ?_
          refine blkN ?_
          refine thenN (hK232 _ _ ?_); clear hK232
          refine wp_region_lit ?_
          refine stepp ha 25 (.int .i64 (IntKind.wrap .i64 (x222 + 1))) KR KR ?_; clear ha a; intro a ha
          refine stepp ha 8 (.int .i64 (IntKind.wrap .i64 (x222 + 1))) KR KR ?_; clear ha a; intro a ha
          refine endl ?_
          exact thenN ⟨k224, Nat.lt_succ_self k224, x218 ++ ([IntKind.wrap .i64 (8 * (IntKind.wrap .i64 ((IntKind.wrap .i64 (a0 - 1)) - x222)))] : List Int), A242, c243, IntKind.wrap .i64 (x222 + 1), (by rw [← hag225]; exact h), ha.sub (subs_cons KR (subs_cons KR (subs_cons KR (subs_cons KR (subs_cons KR (subs_nil _)))))), HW.pick [] [1] (by decide) (by decide) KR KR⟩
        · skip
          replace h := ite_neg' h hp237
          refine condF ha KR KR (t := a1) (bool_f hp237) ?_
          refine wp_region_lit ?_
          refine stepp ha 20 (.slice A219 x218.length c220) KR KR ?_; clear ha a; intro a ha
          refine stepp ha 21 (.int .i64 x222) KR KR ?_; clear ha a; intro a ha
          refine stepp ha 22 (.int .i64 (IntKind.wrap .i64 (8 * x222))) KR KR ?_; clear ha a; intro a ha
          refine stepbs ha HW 23 3 1 1 #[.int .i64 (IntKind.wrap .i64 (8 * x222))] [.int .i64 (IntKind.wrap .i64 (8 * x222))] (by decide) KR KR KR KR ?_; clear ha HW a; intro b247 a W248 HW ha
          replace HW : Wd w W248 [] [⟨3, 1, .slice (some ⟨b247, 0, none⟩) ([IntKind.wrap .i64 (8 * x222)] : List Int).length 1, ([IntKind.wrap .i64 (8 * x222)] : List Int).length, encs (encI .i64) ([IntKind.wrap .i64 (8 * x222)] : List Int)⟩, ⟨3, 1, .slice A219 x218.length c220, x218.length, encs (encI .i64) x218⟩] := HW
          replace ha := ha.turn 23 (v := .slice (some ⟨b247, 0, none⟩) ([IntKind.wrap .i64 (8 * x222)] : List Int).length 1) KR rfl
          obtain ⟨hA250, h_⟩ := asrt_some h; clear h; have h := h_; clear h_
          refine stepape (encI .i64) ha HW 24 1 58 3 (.tmp 20) (.tmp 23) (.int .i64 0) 1 8 (.slice A219 x218.length c220) x218 (.slice (some ⟨b247, 0, none⟩) ([IntKind.wrap .i64 (8 * x222)] : List Int).length 1) ([IntKind.wrap .i64 (8 * x222)] : List Int) KR rfl KR KR (HW.rdo (i := 0) (q := ⟨3, 1, .slice (some ⟨b247, 0, none⟩) ([IntKind.wrap .i64 (8 * x222)] : List Int).length 1, ([IntKind.wrap .i64 (8 * x222)] : List Int).length, encs (encI .i64) ([IntKind.wrap .i64 (8 * x222)] : List Int)⟩) KR) (fun _ => rfl) KR KR KR (by decide) (by have := hA250; unfold maxLen; omega) (by have := hA250; omega) KR ?_; clear ha HW a; intro A251 c252 a W253 HW ha
          refine stepp ha 5 (.slice A251 (x218 ++ ([IntKind.wrap .i64 (8 * x222)] : List Int)).length c252) KR KR ?_; clear ha a; intro a ha
          refine endl ?_
          refine blkN ?_
          refine thenN (hK232 _ _ ?_); clear hK232
          refine wp_region_lit ?_
          refine stepp ha 25 (.int .i64 (IntKind.wrap .i64 (x222 + 1))) KR KR ?_; clear ha a; intro a ha
          refine stepp ha 8 (.int .i64 (IntKind.wrap .i64 (x222 + 1))) KR KR ?_; clear ha a; intro a ha
          refine endl ?_
          exact thenN ⟨k224, Nat.lt_succ_self k224, x218 ++ ([IntKind.wrap .i64 (8 * x222)] : List Int), A251, c252, IntKind.wrap .i64 (x222 + 1), (by rw [← hag225]; exact h), ha.sub (subs_cons KR (subs_cons KR (subs_cons KR (subs_cons KR (subs_cons KR (subs_nil _)))))), HW.pick [] [1] (by decide) (by decide) KR KR⟩
      · skip
        replace h := ite_neg' h hp230
        refine condF ha KR KR (t := decide (x222 < a0)) (decide_eq_false hp230) ?_
        refine wp_exit ?_
        refine thenE ?_
        refine thenE ?_
        refine inBlk ?_
        refine thenN (hK145 _ _ ?_); clear hK145
        refine wp_seq_k (fun K256 hK257 => ?_)
        refine wp_region_lit ?_
        refine stepp ha 26 (.slice A219 x218.length c220) KR KR ?_; clear ha a; intro a ha
        refine stepp ha 4 (.slice A219 x218.length c220) KR KR ?_; clear ha a; intro a ha
        refine endl ?_
        refine thenN (hK257 _ _ ?_); clear hK257
        refine wp_ret ?_
        obtain rfl := Option.some.inj h
        exact finv ha _ _ rfl (.tmp (v := .slice A219 x218.length c220) KR .nil) (.slice A219 x218.length c220) rfl ⟨A219, c220, rfl, HW.pick [] [0] (by decide) (by decide) rfl KR⟩
/-! ### headgate/fields.put[uint64]: function 133 -/
def fields_put_uint64.b0 (K : Nat) (a0 : Int) (t276 : List Int) (again337 : (List Int) → Int → Option ByteArray) (x338 : List Int) (x342 : Int) : Option ByteArray :=
  if x342 < (t276.length : Int) then (asrt (0 ≤ x342) (asrt (0 ≤ (rdL (0 : Int) t276 x342)) (asrt (x338.length + ([IntKind.wrap .u8 (sshr .u64 a0 (rdL (0 : Int) t276 x342))] : List Int).length ≤ 140737488355328) (again337 (x338 ++ ([IntKind.wrap .u8 (sshr .u64 a0 (rdL (0 : Int) t276 x342))] : List Int)) (IntKind.wrap .i64 (x342 + 1)))))) else (some (strOfNums x338))
def fields_put_uint64.l0 (K : Nat) (a0 : Int) (t276 : List Int) : Nat → (List Int) → Int → Option ByteArray
  | 0, _, _ => none
  | k_ + 1, x338, x342 => fields_put_uint64.b0 K a0 t276 (fields_put_uint64.l0 K a0 t276 k_) x338 x342
def fields_put_uint64.f (K : Nat) (a0 : Int) (a1 : Int) (a2 : Bool) : Option ByteArray :=
  if a1 < 1 then (some (⟨#[]⟩ : ByteArray)) else (if a1 > 8 then (some (⟨#[]⟩ : ByteArray)) else ((fields_shifts.f K a1 a2).bind fun t276 => (fields_put_uint64.l0 K a0 t276 K ([] : List Int) 0)))
set_option maxRecDepth 100000 in
set_option maxHeartbeats 4000000 in
theorem fields_put_uint64.calls (K : Nat) (a0 : Int) (a1 : Int) (a2 : Bool)  (r : ByteArray) (w : World)  (h : fields_put_uint64.f K a0 a1 a2 = some r) :
    Calls Tryz.prog 133 #[.int .u64 a0, .int .i64 a1, .bool a2] w (fun e W' => e = .returned (.string r) ∧ Wd w W' [] [] ) := by
  refine sxstart (n := 34) (l := [(0, .int .u64 a0), (1, .int .i64 a1), (2, .bool a2)]) Tryz.func133 rfl rfl (Nat.le_of_ble_eq_true KR) (subsA_cons rfl (subsA_cons rfl (subsA_cons rfl (subsA_nil _)))) ?_
  intro a ha
  have HW := Wd.refl w
  unfold fields_put_uint64.f at h
  refine wp_seq_k (fun K258 hK259 => ?_)
  refine wp_region_lit ?_
  refine stepp ha 6 (.string (⟨#[]⟩ : ByteArray)) KR KR ?_; clear ha a; intro a ha
  refine endl ?_
  refine thenN (hK259 _ _ ?_); clear hK259
  refine wp_seq_k (fun K260 hK261 => ?_)
  refine wp_seq_k (fun K262 hK263 => ?_)
  refine wp_region_lit ?_
  refine stepp ha 10 (.int .i64 a1) KR KR ?_; clear ha a; intro a ha
  refine stepp ha 11 (.bool (decide (a1 < 1))) KR KR ?_; clear ha a; intro a ha
  refine stepp ha 12 (.bool (decide (a1 < 1))) KR KR ?_; clear ha a; intro a ha
  by_cases hp264 : a1 < 1
  · skip
    replace h := ite_pos' h hp264
    replace ha := ha.bool 12 KR (decide_eq_true hp264)
    refine stepo ha 13 KR ?_; clear ha a; intro a ha
    refine stepo ha 14 KR ?_; clear ha a; intro a ha
    refine stepp ha 15 (.bool true) KR KR ?_; clear ha a; intro a ha
    refine endl ?_
    refine thenN (hK263 _ _ ?_); clear hK263
    refine condT ha KR KR (t := true) (rfl) ?_
    refine wp_seq_k (fun K265 hK266 => ?_)
    refine wp_region_lit ?_
    refine stepp ha 6 (.string (⟨#[]⟩ : ByteArray)) KR KR ?_; clear ha a; intro a ha
    refine endl ?_
    refine thenN (hK266 _ _ ?_); clear hK266
    refine wp_ret ?_
    refine thenR ?_
    obtain rfl := Option.some.inj h
    exact finv ha _ _ rfl (.tmp (v := .string (⟨#[]⟩ : ByteArray)) KR .nil) (.string (⟨#[]⟩ : ByteArray)) rfl ⟨rfl, HW.pick [] [] (by decide) (by decide) rfl KR⟩
  · skip
    replace h := ite_neg' h hp264
    replace ha := ha.bool 12 KR (decide_eq_false hp264)
    refine stepp ha 13 (.int .i64 a1) KR KR ?_; clear ha a; intro a ha
    refine stepp ha 14 (.bool (decide (a1 > 8))) KR KR ?_; clear ha a; intro a ha
    refine stepp ha 15 (.bool (decide (a1 > 8))) KR KR ?_; clear ha a; intro a ha
    refine endl ?_
    refine thenN (hK263 _ _ ?_); clear hK263
    by_cases hp267 : a1 > 8
    · skip
      replace h := ite_pos' h hp267
      refine condT ha KR KR (t := decide (a1 > 8)) (decide_eq_true hp267) ?_
      refine wp_seq_k (fun K268 hK269 => ?_)
      refine wp_region_lit ?_
      refine stepp ha 6 (.string (⟨#[]⟩ : ByteArray)) KR KR ?_; clear ha a; intro a ha
      refine endl ?_
      refine thenN (hK269 _ _ ?_); clear hK269
      refine wp_ret ?_
      refine thenR ?_
      obtain rfl := Option.some.inj h
      exact finv ha _ _ rfl (.tmp (v := .string (⟨#[]⟩ : ByteArray)) KR .nil) (.string (⟨#[]⟩ : ByteArray)) rfl ⟨rfl, HW.pick [] [] (by decide) (by decide) rfl KR⟩
    · skip
      replace h := ite_neg' h hp267
      refine condF ha KR KR (t := decide (a1 > 8)) (decide_eq_false hp267) ?_
      refine wp_skip ?_
      refine thenN (hK261 _ _ ?_); clear hK261
      refine wp_seq_k (fun K270 hK271 => ?_)
      refine wp_region_lit ?_
      refine stepp ha 7 (.slice none 0 0) KR KR ?_; clear ha a; intro a ha
      refine endl ?_
      refine thenN (hK271 _ _ ?_); clear hK271
      refine wp_seq_k (fun K272 hK273 => ?_)
      refine wp_seq_k (fun K274 hK275 => ?_)
      refine wp_region_lit ?_
      refine stepp ha 16 (.int .i64 a1) KR KR ?_; clear ha a; intro a ha
      refine stepp ha 17 (.bool a2) KR KR ?_; clear ha a; intro a ha
      obtain ⟨t276, ht277, h_⟩ := bind_some' h; clear h; have h := h_; clear h_
      refine stepc ha 18 KR KR (fields_shifts.calls K a1 a2 t276 _ ht277) ?_; clear ha a; rintro e W281 ⟨A278, c279, rfl, HX282⟩
      refine ⟨_, rfl, ?_⟩; intro a ha; replace HW := HW.callw HX282; clear HX282
      refine stepp ha 19 (.int .i64 (t276.length : Int)) KR KR ?_; clear ha a; intro a ha
      refine stepp ha 20 (.int .i64 0) KR KR ?_; clear ha a; intro a ha
      refine endl ?_
      refine thenN (hK275 _ _ ?_); clear hK275
      refine wp_block ?_
      refine loopk (fun k => fun a W343 => ∃ (x338 : List Int), ∃ A339, ∃ c340, ∃ (x342 : Int), fields_put_uint64.l0 K a0 t276 k x338 x342 = some r ∧ Has 34 [(0, .int .u64 a0), (7, .slice A339 x338.length c340), (18, .slice A278 t276.length c279), (19, .int .i64 (t276.length : Int)), (20, .int .i64 x342)] a ∧ Wd w W343 [] [⟨5, 1, .slice A339 x338.length c340, x338.length, encs (encI .u8) x338⟩, ⟨3, 1, .slice A278 t276.length c279, t276.length, encs (encI .i64) t276⟩]) K ?_ ?_
      · skip
        replace HW := HW.nilo 5 1
        exact ⟨([] : List Int), none, 0, 0, h, ha.sub (subs_cons KR (subs_cons KR (subs_cons KR (subs_cons KR (subs_cons KR (subs_nil _)))))), HW.pick [] [0, 1] (by decide) (by decide) KR KR⟩
      · skip
        intro k a W343 hI
        obtain ⟨x338, A339, c340, x342, h, ha, HW⟩ := hI
        cases k with
        | zero => exact (none_some (show none = some r from h)).elim
        | succ k344 =>
          replace h : fields_put_uint64.b0 K a0 t276 (fields_put_uint64.l0 K a0 t276 k344) x338 x342 = some r := h
          obtain ⟨again337, hag345⟩ : ∃ g_, g_ = fields_put_uint64.l0 K a0 t276 k344 := ⟨_, rfl⟩
          rw [← hag345] at h
          unfold fields_put_uint64.b0 at h
          refine wp_seq_k (fun K346 hK347 => ?_)
          refine wp_region_lit ?_
          refine stepp ha 21 (.bool (decide (x342 < (t276.length : Int)))) KR KR ?_; clear ha a; intro a ha
          refine endl ?_
          refine thenN (hK347 _ _ ?_); clear hK347
          refine wp_seq_k (fun K348 hK349 => ?_)
          by_cases hp350 : x342 < (t276.length : Int)
          · skip
            replace h := ite_pos' h hp350
            refine condT ha KR KR (t := decide (x342 < (t276.length : Int))) (decide_eq_true hp350) ?_
            refine wp_skip ?_
            refine thenN (hK349 _ _ ?_); clear hK349
            refine wp_seq_k (fun K351 hK352 => ?_)
            refine wp_block ?_
            refine wp_seq_k (fun K353 hK354 => ?_)
            refine wp_region_lit ?_
            obtain ⟨hA355, h_⟩ := asrt_some h; clear h; have h := h_; clear h_
            refine stepie (encI .i64) (0 : Int) ha 22 (fun _ => rfl) (v := .slice A278 t276.length c279) (xs := t276) (HW.rdo (i := 1) (q := ⟨3, 1, .slice A278 t276.length c279, t276.length, encs (encI .i64) t276⟩) KR) 58 3 (.tmp 18) (.tmp 20) .i64 x342 rfl KR KR KR KR hA355 (show (x342 : Int) < ((t276).length : Int) from hp350) KR ?_; clear ha a; intro b356 off357 a hC358 ha
            refine stepl ha 23 hC358 3 0 (.tmp 22) (.int .i64 (rdL (0 : Int) t276 x342)) rfl KR KR KR ?_; clear ha a; intro a ha
            refine stepp ha 9 (.int .i64 (rdL (0 : Int) t276 x342)) KR KR ?_; clear ha a; intro a ha
            refine endl ?_
            refine thenN (hK354 _ _ ?_); clear hK354
            refine wp_region_lit ?_
            refine stepp ha 24 (.slice A339 x338.length c340) KR KR ?_; clear ha a; intro a ha
            refine stepp ha 25 (.int .u64 a0) KR KR ?_; clear ha a; intro a ha
            refine stepp ha 26 (.int .i64 (rdL (0 : Int) t276 x342)) KR KR ?_; clear ha a; intro a ha
            obtain ⟨hA359, h_⟩ := asrt_some h; clear h; have h := h_; clear h_
            refine stepshr ha 27 176 3 (.tmp 25) (.tmp 26) .u64 .i64 a0 (rdL (0 : Int) t276 x342) rfl KR KR hA359 KR ?_; clear ha a; intro a ha
            refine stepp ha 28 (.int .u8 (IntKind.wrap .u8 (sshr .u64 a0 (rdL (0 : Int) t276 x342)))) KR KR ?_; clear ha a; intro a ha
            refine stepbs ha HW 29 5 1 1 #[.int .u8 (IntKind.wrap .u8 (sshr .u64 a0 (rdL (0 : Int) t276 x342)))] [.int .u8 (IntKind.wrap .u8 (sshr .u64 a0 (rdL (0 : Int) t276 x342)))] (by decide) KR KR KR KR ?_; clear ha HW a; intro b360 a W361 HW ha
            replace HW : Wd w W361 [] [⟨5, 1, .slice (some ⟨b360, 0, none⟩) ([IntKind.wrap .u8 (sshr .u64 a0 (rdL (0 : Int) t276 x342))] : List Int).length 1, ([IntKind.wrap .u8 (sshr .u64 a0 (rdL (0 : Int) t276 x342))] : List Int).length, encs (encI .u8) ([IntKind.wrap .u8 (sshr .u64 a0 (rdL (0 : Int) t276 x342))] : List Int)⟩, ⟨5, 1, .slice A339 x338.length c340, x338.length, encs (encI .u8) x338⟩, ⟨3, 1, .slice A278 t276.length c279, t276.length, encs (encI .i64) t276⟩] := HW
            replace ha := ha.turn 29 (v := .slice (some ⟨b360, 0, none⟩) ([IntKind.wrap .u8 (sshr .u64 a0 (rdL (0 : Int) t276 x342))] : List Int).length 1) KR rfl
            obtain ⟨hA363, h_⟩ := asrt_some h; clear h; have h := h_; clear h_
            refine stepape (encI .u8) ha HW 30 1 105 5 (.tmp 24) (.tmp 29) (.int .u8 0) 1 1 (.slice A339 x338.length c340) x338 (.slice (some ⟨b360, 0, none⟩) ([IntKind.wrap .u8 (sshr .u64 a0 (rdL (0 : Int) t276 x342))] : List Int).length 1) ([IntKind.wrap .u8 (sshr .u64 a0 (rdL (0 : Int) t276 x342))] : List Int) KR rfl KR KR (HW.rdo (i := 0) (q := ⟨5, 1, .slice (some ⟨b360, 0, none⟩) ([IntKind.wrap .u8 (sshr .u64 a0 (rdL (0 : Int) t276 x342))] : List Int).length 1, ([IntKind.wrap .u8 (sshr .u64 a0 (rdL (0 : Int) t276 x342))] : List Int).length, encs (encI .u8) ([IntKind.wrap .u8 (sshr .u64 a0 (rdL (0 : Int) t276 x342))] : List Int)⟩) KR) (fun _ => rfl) KR KR KR (by decide) (by have := hA363; unfold maxLen; omega) (by have := hA363; omega) KR ?_; clear ha HW a; intro A364 c365 a W366 HW ha
            refine stepp ha 7 (.slice A364 (x338 ++ ([IntKind.wrap .u8 (sshr .u64 a0 (rdL (0 : Int) t276 x342))] : List Int)).length c365) KR KR ?_; clear ha a; intro a ha
            refine endl ?_
            refine blkN ?_
            refine thenN (hK352 _ _ ?_); clear hK352
            refine wp_region_lit ?_
            refine stepp ha 31 (.int .i64 (IntKind.wrap .i64 (x342 + 1))) KR KR ?_; clear ha a; intro a ha
            refine stepp ha 20 (.int .i64 (IntKind.wrap .i64 (x342 + 1))) KR KR ?_; clear ha a; intro a ha
            refine endl ?_
            exact thenN ⟨k344, Nat.lt_succ_self k344, x338 ++ ([IntKind.wrap .u8 (sshr .u64 a0 (rdL (0 : Int) t276 x342))] : List Int), A364, c365, IntKind.wrap .i64 (x342 + 1), (by rw [← hag345]; exact h), ha.sub (subs_cons KR (subs_cons KR (subs_cons KR (subs_cons KR (subs_cons KR (subs_nil _)))))), HW.pick [] [1, 2] (by decide) (by decide) KR KR⟩
          · skip
            replace h := ite_neg' h hp350
            refine condF ha KR KR (t := decide (x342 < (t276.length : Int))) (decide_eq_false hp350) ?_
            refine wp_exit ?_
            refine thenE ?_
            refine thenE ?_
            refine inBlk ?_
            refine thenN (hK273 _ _ ?_); clear hK273
            refine wp_seq_k (fun K369 hK370 => ?_)
            refine wp_region_lit ?_
            refine stepp ha 32 (.slice A339 x338.length c340) KR KR ?_; clear ha a; intro a ha
            refine stepbt ha 33 105 9 5 (.tmp 32) (v := .slice A339 x338.length c340) (xs := x338) (HW.rdo (i := 0) (q := ⟨5, 1, .slice A339 x338.length c340, x338.length, encs (encI .u8) x338⟩) KR) rfl KR KR KR KR KR ?_; clear ha a; intro a ha
            refine stepp ha 6 (.string (strOfNums x338)) KR KR ?_; clear ha a; intro a ha
            refine endl ?_
            refine thenN (hK370 _ _ ?_); clear hK370
            refine wp_ret ?_
            obtain rfl := Option.some.inj h
            exact finv ha _ _ rfl (.tmp (v := .string (strOfNums x338)) KR .nil) (.string (strOfNums x338)) rfl ⟨rfl, HW.pick [] [] (by decide) (by decide) rfl KR⟩
/-! ### headgate/fields.PutBig: function 94 -/
def fields_PutBig.f (K : Nat) (a0 : Int) (a1 : Int) : Option ByteArray :=
  (fields_put_uint64.f K a0 a1 true).bind fun t375 => (some t375)
set_option maxRecDepth 100000 in
set_option maxHeartbeats 4000000 in
theorem fields_PutBig.calls (K : Nat) (a0 : Int) (a1 : Int)  (r : ByteArray) (w : World)  (h : fields_PutBig.f K a0 a1 = some r) :
    Calls Tryz.prog 94 #[.int .u64 a0, .int .i64 a1] w (fun e W' => e = .returned (.string r) ∧ Wd w W' [] [] ) := by
  refine sxstart (n := 8) (l := [(0, .int .u64 a0), (1, .int .i64 a1)]) Tryz.func94 rfl rfl (Nat.le_of_ble_eq_true KR) (subsA_cons rfl (subsA_cons rfl (subsA_nil _))) ?_
  intro a ha
  have HW := Wd.refl w
  unfold fields_PutBig.f at h
  refine wp_seq_k (fun K371 hK372 => ?_)
  refine wp_region_lit ?_
  refine stepp ha 4 (.string (⟨#[]⟩ : ByteArray)) KR KR ?_; clear ha a; intro a ha
  refine endl ?_
  refine thenN (hK372 _ _ ?_); clear hK372
  refine wp_seq_k (fun K373 hK374 => ?_)
  refine wp_region_lit ?_
  refine stepp ha 5 (.int .u64 a0) KR KR ?_; clear ha a; intro a ha
  refine stepp ha 6 (.int .i64 a1) KR KR ?_; clear ha a; intro a ha
  obtain ⟨t375, ht376, h_⟩ := bind_some' h; clear h; have h := h_; clear h_
  refine stepc ha 7 KR KR (fields_put_uint64.calls K a0 a1 true t375 _ ht376) ?_; clear ha a; rintro e W377 ⟨rfl, HX378⟩
  refine ⟨_, rfl, ?_⟩; intro a ha; replace HW := HW.callw HX378; clear HX378
  refine stepp ha 4 (.string t375) KR KR ?_; clear ha a; intro a ha
  refine endl ?_
  refine thenN (hK374 _ _ ?_); clear hK374
  refine wp_ret ?_
  obtain rfl := Option.some.inj h
  exact finv ha _ _ rfl (.tmp (v := .string t375) KR .nil) (.string t375) rfl ⟨rfl, HW.pick [] [] (by decide) (by decide) rfl KR⟩
/-! ### headgate/fields.Pad: function 158 -/
def fields_Pad.f (a0 : ByteArray) (a1 : Int) : Option ByteArray :=
  if a1 < 1 then (some a0) else (if a1 > 4096 then (some a0) else (asrt (¬ a1 = 0) (if (Int.tmod (a0.size : Int) a1) = 0 then (some a0) else (asrt (0 ≤ (IntKind.wrap .i64 (a1 - (Int.tmod (a0.size : Int) a1)))) (asrt ((IntKind.wrap .i64 (a1 - (Int.tmod (a0.size : Int) a1))) ≤ 281474976710656) (asrt (a0.size + (strOfNums (List.replicate (IntKind.wrap .i64 (a1 - (Int.tmod (a0.size : Int) a1)) : Int).toNat (0 : Int))).size ≤ 9223372036854775807) (some (a0 ++ (strOfNums (List.replicate (IntKind.wrap .i64 (a1 - (Int.tmod (a0.size : Int) a1)) : Int).toNat (0 : Int)))))))))))
set_option maxRecDepth 100000 in
set_option maxHeartbeats 4000000 in
theorem fields_Pad.calls (a0 : ByteArray) (a1 : Int)  (r : ByteArray) (w : World)  (h : fields_Pad.f a0 a1 = some r) :
    Calls Tryz.prog 158 #[.string a0, .int .i64 a1] w (fun e W' => e = .returned (.string r) ∧ Wd w W' [] [] ) := by
  refine sxstart (n := 29) (l := [(0, .string a0), (1, .int .i64 a1)]) Tryz.func158 rfl rfl (Nat.le_of_ble_eq_true KR) (subsA_cons rfl (subsA_cons rfl (subsA_nil _))) ?_
  intro a ha
  have HW := Wd.refl w
  unfold fields_Pad.f at h
  refine wp_seq_k (fun K379 hK380 => ?_)
  refine wp_region_lit ?_
  refine stepp ha 4 (.string (⟨#[]⟩ : ByteArray)) KR KR ?_; clear ha a; intro a ha
  refine endl ?_
  refine thenN (hK380 _ _ ?_); clear hK380
  refine wp_seq_k (fun K381 hK382 => ?_)
  refine wp_seq_k (fun K383 hK384 => ?_)
  refine wp_region_lit ?_
  refine stepp ha 5 (.int .i64 a1) KR KR ?_; clear ha a; intro a ha
  refine stepp ha 6 (.bool (decide (a1 < 1))) KR KR ?_; clear ha a; intro a ha
  refine stepp ha 7 (.bool (decide (a1 < 1))) KR KR ?_; clear ha a; intro a ha
  by_cases hp385 : a1 < 1
  · skip
    replace h := ite_pos' h hp385
    replace ha := ha.bool 7 KR (decide_eq_true hp385)
    refine stepo ha 8 KR ?_; clear ha a; intro a ha
    refine stepo ha 9 KR ?_; clear ha a; intro a ha
    refine stepp ha 10 (.bool true) KR KR ?_; clear ha a; intro a ha
    refine stepp ha 11 (.bool true) KR KR ?_; clear ha a; intro a ha
    refine stepo ha 12 KR ?_; clear ha a; intro a ha
    refine stepo ha 13 KR ?_; clear ha a; intro a ha
    refine stepo ha 14 KR ?_; clear ha a; intro a ha
    refine stepo ha 15 KR ?_; clear ha a; intro a ha
    refine stepo ha 16 KR ?_; clear ha a; intro a ha
    refine stepp ha 17 (.bool true) KR KR ?_; clear ha a; intro a ha
    refine endl ?_
    refine thenN (hK384 _ _ ?_); clear hK384
    refine condT ha KR KR (t := true) (rfl) ?_
    refine wp_seq_k (fun K388 hK389 => ?_)
    refine wp_region_lit ?_
    refine stepp ha 18 (.string a0) KR KR ?_; clear ha a; intro a ha
    refine stepp ha 4 (.string a0) KR KR ?_; clear ha a; intro a ha
    refine endl ?_
    refine thenN (hK389 _ _ ?_); clear hK389
    refine wp_ret ?_
    refine thenR ?_
    obtain rfl := Option.some.inj h
    exact finv ha _ _ rfl (.tmp (v := .string a0) KR .nil) (.string a0) rfl ⟨rfl, HW.pick [] [] (by decide) (by decide) rfl KR⟩
  · skip
    replace h := ite_neg' h hp385
    replace ha := ha.bool 7 KR (decide_eq_false hp385)
    refine stepp ha 8 (.int .i64 a1) KR KR ?_; clear ha a; intro a ha
    refine stepp ha 9 (.bool (decide (a1 > 4096))) KR KR ?_; clear ha a; intro a ha
    refine stepp ha 10 (.bool (decide (a1 > 4096))) KR KR ?_; clear ha a; intro a ha
    refine stepp ha 11 (.bool (decide (a1 > 4096))) KR KR ?_; clear ha a; intro a ha
    by_cases hp386 : a1 > 4096
    · skip
      replace h := ite_pos' h hp386
      replace ha := ha.bool 11 KR (decide_eq_true hp386)
      refine stepo ha 12 KR ?_; clear ha a; intro a ha
      refine stepo ha 13 KR ?_; clear ha a; intro a ha
      refine stepo ha 14 KR ?_; clear ha a; intro a ha
      refine stepo ha 15 KR ?_; clear ha a; intro a ha
      refine stepo ha 16 KR ?_; clear ha a; intro a ha
      refine stepp ha 17 (.bool true) KR KR ?_; clear ha a; intro a ha
      refine endl ?_
      refine thenN (hK384 _ _ ?_); clear hK384
      refine condT ha KR KR (t := true) (rfl) ?_
      refine wp_seq_k (fun K390 hK391 => ?_)
      refine wp_region_lit ?_
      refine stepp ha 18 (.string a0) KR KR ?_; clear ha a; intro a ha
      refine stepp ha 4 (.string a0) KR KR ?_; clear ha a; intro a ha
      refine endl ?_
      refine thenN (hK391 _ _ ?_); clear hK391
      refine wp_ret ?_
      refine thenR ?_
      obtain rfl := Option.some.inj h
      exact finv ha _ _ rfl (.tmp (v := .string a0) KR .nil) (.string a0) rfl ⟨rfl, HW.pick [] [] (by decide) (by decide) rfl KR⟩
    · skip
      replace h := ite_neg' h hp386
      replace ha := ha.bool 11 KR (decide_eq_false hp386)
      refine stepp ha 12 (.string a0) KR KR ?_; clear ha a; intro a ha
      refine stepp ha 13 (.int .i64 (a0.size : Int)) KR KR ?_; clear ha a; intro a ha
      refine stepp ha 14 (.int .i64 a1) KR KR ?_; clear ha a; intro a ha
      obtain ⟨hA387, h_⟩ := asrt_some h; clear h; have h := h_; clear h_
      refine steprem ha 15 3 3 (.tmp 13) (.tmp 14) .i64 (a0.size : Int) a1 rfl KR KR hA387 KR ?_; clear ha a; intro a ha
      refine stepp ha 16 (.bool ((Int.tmod (a0.size : Int) a1) == 0)) KR KR ?_; clear ha a; intro a ha
      refine stepp ha 17 (.bool ((Int.tmod (a0.size : Int) a1) == 0)) KR KR ?_; clear ha a; intro a ha
      refine endl ?_
      refine thenN (hK384 _ _ ?_); clear hK384
      by_cases hp392 : (Int.tmod (a0.size : Int) a1) = 0
      · skip
        replace h := ite_pos' h hp392
        refine condT ha KR KR (t := ((Int.tmod (a0.size : Int) a1) == 0)) (ieq_t hp392) ?_
        refine wp_seq_k (fun K393 hK394 => ?_)
        refine wp_region_lit ?_
        refine stepp ha 18 (.string a0) KR KR ?_; clear ha a; intro a ha
        refine stepp ha 4 (.string a0) KR KR ?_; clear ha a; intro a ha
        refine endl ?_
        refine thenN (hK394 _ _ ?_); clear hK394
        refine wp_ret ?_
        refine thenR ?_
        obtain rfl := Option.some.inj h
        exact finv ha _ _ rfl (.tmp (v := .string a0) KR .nil) (.string a0) rfl ⟨rfl, HW.pick [] [] (by decide) (by decide) rfl KR⟩
      · skip
        replace h := ite_neg' h hp392
        refine condF ha KR KR (t := ((Int.tmod (a0.size : Int) a1) == 0)) (ieq_f hp392) ?_
        refine wp_skip ?_
        refine thenN (hK382 _ _ ?_); clear hK382
        refine wp_seq_k (fun K395 hK396 => ?_)
        refine wp_region_lit ?_
        refine stepp ha 19 (.string a0) KR KR ?_; clear ha a; intro a ha
        refine stepp ha 20 (.int .i64 a1) KR KR ?_; clear ha a; intro a ha
        refine stepp ha 21 (.string a0) KR KR ?_; clear ha a; intro a ha
        refine stepp ha 22 (.int .i64 (a0.size : Int)) KR KR ?_; clear ha a; intro a ha
        refine stepp ha 23 (.int .i64 a1) KR KR ?_; clear ha a; intro a ha
        refine steprem ha 24 3 3 (.tmp 22) (.tmp 23) .i64 (a0.size : Int) a1 rfl KR KR hA387 KR ?_; clear ha a; intro a ha
        refine stepp ha 25 (.int .i64 (IntKind.wrap .i64 (a1 - (Int.tmod (a0.size : Int) a1)))) KR KR ?_; clear ha a; intro a ha
        obtain ⟨hA397, h_⟩ := asrt_some h; clear h; have h := h_; clear h_
        obtain ⟨hA398, h_⟩ := asrt_some h; clear h; have h := h_; clear h_
        refine stepmk (encI .u8) (0 : Int) ha HW 26 105 5 (.tmp 25) (.tmp 25) .i64 .i64 (IntKind.wrap .i64 (a1 - (Int.tmod (a0.size : Int) a1))) (.int .u8 0) 1 rfl KR KR KR KR rfl rfl hA397 (by have := hA398; omega) (by have := hA398; omega) KR ?_; clear ha HW a; intro b399 a W400 HW ha
        refine stepbt ha 27 105 9 5 (.tmp 26) (v := .slice (some ⟨b399, 0, none⟩) (List.replicate (IntKind.wrap .i64 (a1 - (Int.tmod (a0.size : Int) a1)) : Int).toNat (0 : Int)).length ((IntKind.wrap .i64 (a1 - (Int.tmod (a0.size : Int) a1)) : Int).toNat)) (xs := List.replicate (IntKind.wrap .i64 (a1 - (Int.tmod (a0.size : Int) a1)) : Int).toNat (0 : Int)) (HW.rdo (i := 0) (q := ⟨5, 1, .slice (some ⟨b399, 0, none⟩) (List.replicate (IntKind.wrap .i64 (a1 - (Int.tmod (a0.size : Int) a1)) : Int).toNat (0 : Int)).length ((IntKind.wrap .i64 (a1 - (Int.tmod (a0.size : Int) a1)) : Int).toNat), (List.replicate (IntKind.wrap .i64 (a1 - (Int.tmod (a0.size : Int) a1)) : Int).toNat (0 : Int)).length, encs (encI .u8) (List.replicate (IntKind.wrap .i64 (a1 - (Int.tmod (a0.size : Int) a1)) : Int).toNat (0 : Int))⟩) KR) rfl KR KR KR KR KR ?_; clear ha a; intro a ha
        obtain ⟨hA402, h_⟩ := asrt_some h; clear h; have h := h_; clear h_
        refine stepsa ha 28 9 9 (.tmp 19) (.tmp 27) a0 (strOfNums (List.replicate (IntKind.wrap .i64 (a1 - (Int.tmod (a0.size : Int) a1)) : Int).toNat (0 : Int))) rfl KR KR (show (a0).size + (strOfNums (List.replicate (IntKind.wrap .i64 (a1 - (Int.tmod (a0.size : Int) a1)) : Int).toNat (0 : Int))).size ≤ 9223372036854775807 from hA402) KR ?_; clear ha a; intro a ha
        refine stepp ha 4 (.string (a0 ++ (strOfNums (List.replicate (IntKind.wrap .i64 (a1 - (Int.tmod (a0.size : Int) a1)) : Int).toNat (0 : Int))))) KR KR ?_; clear ha a; intro a ha
        refine endl ?_
        refine thenN (hK396 _ _ ?_); clear hK396
        refine wp_ret ?_
        obtain rfl := Option.some.inj h
        exact finv ha _ _ rfl (.tmp (v := .string (a0 ++ (strOfNums (List.replicate (IntKind.wrap .i64 (a1 - (Int.tmod (a0.size : Int) a1)) : Int).toNat (0 : Int))))) KR .nil) (.string (a0 ++ (strOfNums (List.replicate (IntKind.wrap .i64 (a1 - (Int.tmod (a0.size : Int) a1)) : Int).toNat (0 : Int))))) rfl ⟨rfl, HW.pick [] [] (by decide) (by decide) rfl KR⟩
/-! ### headgate/fields.PutLittle: function 168 -/
def fields_PutLittle.f (K : Nat) (a0 : Int) (a1 : Int) : Option ByteArray :=
  (fields_put_uint64.f K a0 a1 false).bind fun t407 => (some t407)
set_option maxRecDepth 100000 in
set_option maxHeartbeats 4000000 in
theorem fields_PutLittle.calls (K : Nat) (a0 : Int) (a1 : Int)  (r : ByteArray) (w : World)  (h : fields_PutLittle.f K a0 a1 = some r) :
    Calls Tryz.prog 168 #[.int .u64 a0, .int .i64 a1] w (fun e W' => e = .returned (.string r) ∧ Wd w W' [] [] ) := by
  refine sxstart (n := 8) (l := [(0, .int .u64 a0), (1, .int .i64 a1)]) Tryz.func168 rfl rfl (Nat.le_of_ble_eq_true KR) (subsA_cons rfl (subsA_cons rfl (subsA_nil _))) ?_
  intro a ha
  have HW := Wd.refl w
  unfold fields_PutLittle.f at h
  refine wp_seq_k (fun K403 hK404 => ?_)
  refine wp_region_lit ?_
  refine stepp ha 4 (.string (⟨#[]⟩ : ByteArray)) KR KR ?_; clear ha a; intro a ha
  refine endl ?_
  refine thenN (hK404 _ _ ?_); clear hK404
  refine wp_seq_k (fun K405 hK406 => ?_)
  refine wp_region_lit ?_
  refine stepp ha 5 (.int .u64 a0) KR KR ?_; clear ha a; intro a ha
  refine stepp ha 6 (.int .i64 a1) KR KR ?_; clear ha a; intro a ha
  obtain ⟨t407, ht408, h_⟩ := bind_some' h; clear h; have h := h_; clear h_
  refine stepc ha 7 KR KR (fields_put_uint64.calls K a0 a1 false t407 _ ht408) ?_; clear ha a; rintro e W409 ⟨rfl, HX410⟩
  refine ⟨_, rfl, ?_⟩; intro a ha; replace HW := HW.callw HX410; clear HX410
  refine stepp ha 4 (.string t407) KR KR ?_; clear ha a; intro a ha
  refine endl ?_
  refine thenN (hK406 _ _ ?_); clear hK406
  refine wp_ret ?_
  obtain rfl := Option.some.inj h
  exact finv ha _ _ rfl (.tmp (v := .string t407) KR .nil) (.string t407) rfl ⟨rfl, HW.pick [] [] (by decide) (by decide) rfl KR⟩
/-! ### headgate/crc.More: function 185 -/
def crc_More.b0 (K : Nat) (a1 : ByteArray) (again459 : Int → Int → Option Int) (x460 : Int) (x461 : Int) : Option Int :=
  if x461 < (a1.size : Int) then (asrt (0 ≤ x461) (asrt (0 ≤ (band .u32 (bxor .u32 x460 (IntKind.wrap .u32 (bt a1 x461))) 15)) (asrt ((band .u32 (bxor .u32 x460 (IntKind.wrap .u32 (bt a1 x461))) 15) < 16) (asrt (0 ≤ (band .u32 (bxor .u32 ((bxor .u32 x460 (IntKind.wrap .u32 (bt a1 x461))).fdiv 16) (rdL (0 : Int) G_crc_steps (band .u32 (bxor .u32 x460 (IntKind.wrap .u32 (bt a1 x461))) 15))) 15)) (asrt ((band .u32 (bxor .u32 ((bxor .u32 x460 (IntKind.wrap .u32 (bt a1 x461))).fdiv 16) (rdL (0 : Int) G_crc_steps (band .u32 (bxor .u32 x460 (IntKind.wrap .u32 (bt a1 x461))) 15))) 15) < 16) (again459 (bxor .u32 ((bxor .u32 ((bxor .u32 x460 (IntKind.wrap .u32 (bt a1 x461))).fdiv 16) (rdL (0 : Int) G_crc_steps (band .u32 (bxor .u32 x460 (IntKind.wrap .u32 (bt a1 x461))) 15))).fdiv 16) (rdL (0 : Int) G_crc_steps (band .u32 (bxor .u32 ((bxor .u32 x460 (IntKind.wrap .u32 (bt a1 x461))).fdiv 16) (rdL (0 : Int) G_crc_steps (band .u32 (bxor .u32 x460 (IntKind.wrap .u32 (bt a1 x461))) 15))) 15))) (IntKind.wrap .i64 (x461 + 1)))))))) else (some (bxor .u32 4294967295 x460))
def crc_More.l0 (K : Nat) (a1 : ByteArray) : Nat → Int → Int → Option Int
  | 0, _, _ => none
  | k_ + 1, x460, x461 => crc_More.b0 K a1 (crc_More.l0 K a1 k_) x460 x461
def crc_More.f (K : Nat) (a0 : Int) (a1 : ByteArray) : Option Int :=
  crc_More.l0 K a1 K (bxor .u32 4294967295 a0) 0
set_option maxRecDepth 100000 in
set_option maxHeartbeats 4000000 in
theorem crc_More.calls (K : Nat) (a0 : Int) (a1 : ByteArray)  (r : Int) (w : World) (hG1 : CA w 1 0 (encs (encI .u32) G_crc_steps).toArray) (h : crc_More.f K a0 a1 = some r) :
    Calls Tryz.prog 185 #[.int .u32 a0, .string a1] w (fun e W' => e = .returned (.int .u32 r) ∧ Wd w W' [] [] ) := by
  refine sxstart (n := 36) (l := [(0, .int .u32 a0), (1, .string a1)]) Tryz.func185 rfl rfl (Nat.le_of_ble_eq_true KR) (subsA_cons rfl (subsA_cons rfl (subsA_nil _))) ?_
  intro a ha
  have HW := Wd.refl w
  unfold crc_More.f at h
  refine wp_seq_k (fun K411 hK412 => ?_)
  refine wp_region_lit ?_
  refine stepp ha 4 (.int .u32 0) KR KR ?_; clear ha a; intro a ha
  refine endl ?_
  refine thenN (hK412 _ _ ?_); clear hK412
  refine wp_seq_k (fun K413 hK414 => ?_)
  refine wp_region_lit ?_
  refine stepp ha 6 (.int .u32 a0) KR KR ?_; clear ha a; intro a ha
  refine stepp ha 7 (.int .u32 (bxor .u32 4294967295 a0)) KR KR ?_; clear ha a; intro a ha
  refine stepp ha 0 (.int .u32 (bxor .u32 4294967295 a0)) KR KR ?_; clear ha a; intro a ha
  refine endl ?_
  refine thenN (hK414 _ _ ?_); clear hK414
  refine wp_seq_k (fun K415 hK416 => ?_)
  refine wp_seq_k (fun K417 hK418 => ?_)
  refine wp_region_lit ?_
  refine stepp ha 8 (.string a1) KR KR ?_; clear ha a; intro a ha
  refine stepp ha 9 (.int .i64 (a1.size : Int)) KR KR ?_; clear ha a; intro a ha
  refine stepp ha 10 (.int .i64 0) KR KR ?_; clear ha a; intro a ha
  refine endl ?_
  refine thenN (hK418 _ _ ?_); clear hK418
  refine wp_block ?_
  refine loopk (fun k => fun a W462 => ∃ (x460 : Int), ∃ (x461 : Int), crc_More.l0 K a1 k x460 x461 = some r ∧ Has 36 [(0, .int .u32 x460), (1, .string a1), (9, .int .i64 (a1.size : Int)), (10, .int .i64 x461)] a ∧ Wd w W462 [] []) K ?_ ?_
  · skip
    exact ⟨bxor .u32 4294967295 a0, 0, h, ha.sub (subs_cons KR (subs_cons KR (subs_cons KR (subs_cons KR (subs_nil _))))), HW.pick [] [] (by decide) (by decide) KR KR⟩
  · skip
    intro k a W462 hI
    obtain ⟨x460, x461, h, ha, HW⟩ := hI
    cases k with
    | zero => exact (none_some (show none = some r from h)).elim
    | succ k463 =>
      replace h : crc_More.b0 K a1 (crc_More.l0 K a1 k463) x460 x461 = some r := h
      obtain ⟨again459, hag464⟩ : ∃ g_, g_ = crc_More.l0 K a1 k463 := ⟨_, rfl⟩
      rw [← hag464] at h
      unfold crc_More.b0 at h
      refine wp_seq_k (fun K465 hK466 => ?_)
      refine wp_region_lit ?_
      refine stepp ha 11 (.bool (decide (x461 < (a1.size : Int)))) KR KR ?_; clear ha a; intro a ha
      refine endl ?_
      refine thenN (hK466 _ _ ?_); clear hK466
      refine wp_seq_k (fun K467 hK468 => ?_)
      by_cases hp469 : x461 < (a1.size : Int)
      · skip
        replace h := ite_pos' h hp469
        refine condT ha KR KR (t := decide (x461 < (a1.size : Int))) (decide_eq_true hp469) ?_
        refine wp_skip ?_
        refine thenN (hK468 _ _ ?_); clear hK468
        refine wp_seq_k (fun K470 hK471 => ?_)
        refine wp_block ?_
        refine wp_seq_k (fun K472 hK473 => ?_)
        refine wp_region_lit ?_
        refine stepp ha 12 (.int .i64 x461) KR KR ?_; clear ha a; intro a ha
        refine stepp ha 5 (.int .i64 x461) KR KR ?_; clear ha a; intro a ha
        refine endl ?_
        refine thenN (hK473 _ _ ?_); clear hK473
        refine wp_seq_k (fun K474 hK475 => ?_)
        refine wp_region_lit ?_
        refine stepp ha 13 (.int .u32 x460) KR KR ?_; clear ha a; intro a ha
        refine stepp ha 14 (.string a1) KR KR ?_; clear ha a; intro a ha
        refine stepp ha 15 (.int .i64 x461) KR KR ?_; clear ha a; intro a ha
        obtain ⟨hA476, h_⟩ := asrt_some h; clear h; have h := h_; clear h_
        refine stepsi ha 16 9 (.tmp 14) (.tmp 15) a1 .i64 x461 rfl KR KR KR hA476 (show (x461 : Int) < ((a1).size : Int) from hp469) KR ?_; clear ha a; intro a ha
        refine stepp ha 17 (.int .u32 (IntKind.wrap .u32 (bt a1 x461))) KR KR ?_; clear ha a; intro a ha
        refine stepp ha 18 (.int .u32 (bxor .u32 x460 (IntKind.wrap .u32 (bt a1 x461)))) KR KR ?_; clear ha a; intro a ha
        refine stepp ha 0 (.int .u32 (bxor .u32 x460 (IntKind.wrap .u32 (bt a1 x461)))) KR KR ?_; clear ha a; intro a ha
        refine endl ?_
        refine thenN (hK475 _ _ ?_); clear hK475
        refine wp_seq_k (fun K477 hK478 => ?_)
        refine wp_region_lit ?_
        refine stepp ha 19 (.int .u32 (bxor .u32 x460 (IntKind.wrap .u32 (bt a1 x461)))) KR KR ?_; clear ha a; intro a ha
        refine stepp ha 20 (.int .u32 ((bxor .u32 x460 (IntKind.wrap .u32 (bt a1 x461))).fdiv 16)) KR KR ?_; clear ha a; intro a ha
        refine stepp ha 21 (.int .u32 (bxor .u32 x460 (IntKind.wrap .u32 (bt a1 x461)))) KR KR ?_; clear ha a; intro a ha
        refine stepp ha 22 (.int .u32 (band .u32 (bxor .u32 x460 (IntKind.wrap .u32 (bt a1 x461))) 15)) KR KR ?_; clear ha a; intro a ha
        obtain ⟨hA479, h_⟩ := asrt_some h; clear h; have h := h_; clear h_
        obtain ⟨hA480, h_⟩ := asrt_some h; clear h; have h := h_; clear h_
        refine stepiw ha 23 (sz := 1) 1 0 269 16 147 (.global 1) (.tmp 22) .u32 (band .u32 (bxor .u32 x460 (IntKind.wrap .u32 (bt a1 x461))) 15) rfl KR KR KR KR hA479 hA480 KR ?_; clear ha a; intro a ha
        refine stepl ha 24 (CA.el (encI .u32) (0 : Int) (fun _ => rfl) (HW.ca0 hG1) G_crc_steps rfl (len := 16) rfl hA479 hA480) 147 0 (.tmp 23) (.int .u32 (rdL (0 : Int) G_crc_steps (band .u32 (bxor .u32 x460 (IntKind.wrap .u32 (bt a1 x461))) 15))) rfl KR KR KR ?_; clear ha a; intro a ha
        refine stepp ha 25 (.int .u32 (bxor .u32 ((bxor .u32 x460 (IntKind.wrap .u32 (bt a1 x461))).fdiv 16) (rdL (0 : Int) G_crc_steps (band .u32 (bxor .u32 x460 (IntKind.wrap .u32 (bt a1 x461))) 15)))) KR KR ?_; clear ha a; intro a ha
        refine stepp ha 0 (.int .u32 (bxor .u32 ((bxor .u32 x460 (IntKind.wrap .u32 (bt a1 x461))).fdiv 16) (rdL (0 : Int) G_crc_steps (band .u32 (bxor .u32 x460 (IntKind.wrap .u32 (bt a1 x461))) 15)))) KR KR ?_; clear ha a; intro a ha
        refine endl ?_
        refine thenN (hK478 _ _ ?_); clear hK478
        refine wp_region_lit ?_
        refine stepp ha 26 (.int .u32 (bxor .u32 ((bxor .u32 x460 (IntKind.wrap .u32 (bt a1 x461))).fdiv 16) (rdL (0 : Int) G_crc_steps (band .u32 (bxor .u32 x460 (IntKind.wrap .u32 (bt a1 x461))) 15)))) KR KR ?_; clear ha a; intro a ha
        refine stepp ha 27 (.int .u32 ((bxor .u32 ((bxor .u32 x460 (IntKind.wrap .u32 (bt a1 x461))).fdiv 16) (rdL (0 : Int) G_crc_steps (band .u32 (bxor .u32 x460 (IntKind.wrap .u32 (bt a1 x461))) 15))).fdiv 16)) KR KR ?_; clear ha a; intro a ha
        refine stepp ha 28 (.int .u32 (bxor .u32 ((bxor .u32 x460 (IntKind.wrap .u32 (bt a1 x461))).fdiv 16) (rdL (0 : Int) G_crc_steps (band .u32 (bxor .u32 x460 (IntKind.wrap .u32 (bt a1 x461))) 15)))) KR KR ?_; clear ha a; intro a ha
        refine stepp ha 29 (.int .u32 (band .u32 (bxor .u32 ((bxor .u32 x460 (IntKind.wrap .u32 (bt a1 x461))).fdiv 16) (rdL (0 : Int) G_crc_steps (band .u32 (bxor .u32 x460 (IntKind.wrap .u32 (bt a1 x461))) 15))) 15)) KR KR ?_; clear ha a; intro a ha
        obtain ⟨hA481, h_⟩ := asrt_some h; clear h; have h := h_; clear h_
        obtain ⟨hA482, h_⟩ := asrt_some h; clear h; have h := h_; clear h_
        refine stepiw ha 30 (sz := 1) 1 0 269 16 147 (.global 1) (.tmp 29) .u32 (band .u32 (bxor .u32 ((bxor .u32 x460 (IntKind.wrap .u32 (bt a1 x461))).fdiv 16) (rdL (0 : Int) G_crc_steps (band .u32 (bxor .u32 x460 (IntKind.wrap .u32 (bt a1 x461))) 15))) 15) rfl KR KR KR KR hA481 hA482 KR ?_; clear ha a; intro a ha
        refine stepl ha 31 (CA.el (encI .u32) (0 : Int) (fun _ => rfl) (HW.ca0 hG1) G_crc_steps rfl (len := 16) rfl hA481 hA482) 147 0 (.tmp 30) (.int .u32 (rdL (0 : Int) G_crc_steps (band .u32 (bxor .u32 ((bxor .u32 x460 (IntKind.wrap .u32 (bt a1 x461))).fdiv 16) (rdL (0 : Int) G_crc_steps (band .u32 (bxor .u32 x460 (IntKind.wrap .u32 (bt a1 x461))) 15))) 15))) rfl KR KR KR ?_; clear ha a; intro a ha
        refine stepp ha 32 (.int .u32 (bxor .u32 ((bxor .u32 ((bxor .u32 x460 (IntKind.wrap .u32 (bt a1 x461))).fdiv 16) (rdL (0 : Int) G_crc_steps (band .u32 (bxor .u32 x460 (IntKind.wrap .u32 (bt a1 x461))) 15))).fdiv 16) (rdL (0 : Int) G_crc_steps (band .u32 (bxor .u32 ((bxor .u32 x460 (IntKind.wrap .u32 (bt a1 x461))).fdiv 16) (rdL (0 : Int) G_crc_steps (band .u32 (bxor .u32 x460 (IntKind.wrap .u32 (bt a1 x461))) 15))) 15)))) KR KR ?_; clear ha a; intro a ha
        refine stepp ha 0 (.int .u32 (bxor .u32 ((bxor .u32 ((bxor .u32 x460 (IntKind.wrap .u32 (bt a1 x461))).fdiv 16) (rdL (0 : Int) G_crc_steps (band .u32 (bxor .u32 x460 (IntKind.wrap .u32 (bt a1 x461))) 15))).fdiv 16) (rdL (0 : Int) G_crc_steps (band .u32 (bxor .u32 ((bxor .u32 x460 (IntKind.wrap .u32 (bt a1 x461))).fdiv 16) (rdL (0 : Int) G_crc_steps (band .u32 (bxor .u32 x460 (IntKind.wrap .u32 (bt a1 x461))) 15))) 15)))) KR KR ?_; clear ha a; intro a ha
        refine endl ?_
        refine blkN ?_
        refine thenN (hK471 _ _ ?_); clear hK471
        refine wp_region_lit ?_
        refine stepp ha 33 (.int .i64 (IntKind.wrap .i64 (x461 + 1))) KR KR ?_; clear ha a; intro a ha
        refine stepp ha 10 (.int .i64 (IntKind.wrap .i64 (x461 + 1))) KR KR ?_; clear ha a; intro a ha
        refine endl ?_
        exact thenN ⟨k463, Nat.lt_succ_self k463, bxor .u32 ((bxor .u32 ((bxor .u32 x460 (IntKind.wrap .u32 (bt a1 x461))).fdiv 16) (rdL (0 : Int) G_crc_steps (band .u32 (bxor .u32 x460 (IntKind.wrap .u32 (bt a1 x461))) 15))).fdiv 16) (rdL (0 : Int) G_crc_steps (band .u32 (bxor .u32 ((bxor .u32 x460 (IntKind.wrap .u32 (bt a1 x461))).fdiv 16) (rdL (0 : Int) G_crc_steps (band .u32 (bxor .u32 x460 (IntKind.wrap .u32 (bt a1 x461))) 15))) 15)), IntKind.wrap .i64 (x461 + 1), (by rw [← hag464]; exact h), ha.sub (subs_cons KR (subs_cons KR (subs_cons KR (subs_cons KR (subs_nil _))))), HW.pick [] [] (by decide) (by decide) KR KR⟩
      · skip
        replace h := ite_neg' h hp469
        refine condF ha KR KR (t := decide (x461 < (a1.size : Int))) (decide_eq_false hp469) ?_
        refine wp_exit ?_
        refine thenE ?_
        refine thenE ?_
        refine inBlk ?_
        refine thenN (hK416 _ _ ?_); clear hK416
        refine wp_seq_k (fun K483 hK484 => ?_)
        refine wp_region_lit ?_
        refine stepp ha 34 (.int .u32 x460) KR KR ?_; clear ha a; intro a ha
        refine stepp ha 35 (.int .u32 (bxor .u32 4294967295 x460)) KR KR ?_; clear ha a; intro a ha
        refine stepp ha 4 (.int .u32 (bxor .u32 4294967295 x460)) KR KR ?_; clear ha a; intro a ha
        refine endl ?_
        refine thenN (hK484 _ _ ?_); clear hK484
        refine wp_ret ?_
        obtain rfl := Option.some.inj h
        exact finv ha _ _ rfl (.tmp (v := .int .u32 (bxor .u32 4294967295 x460)) KR .nil) (.int .u32 (bxor .u32 4294967295 x460)) rfl ⟨rfl, HW.pick [] [] (by decide) (by decide) rfl KR⟩
/-! ### headgate/crc.Sum: function 169 -/
def crc_Sum.f (K : Nat) (a0 : ByteArray) : Option Int :=
  (crc_More.f K 0 a0).bind fun t489 => (some t489)
set_option maxRecDepth 100000 in
set_option maxHeartbeats 4000000 in
theorem crc_Sum.calls (K : Nat) (a0 : ByteArray)  (r : Int) (w : World) (hG1 : CA w 1 0 (encs (encI .u32) G_crc_steps).toArray) (h : crc_Sum.f K a0 = some r) :
    Calls Tryz.prog 169 #[.string a0] w (fun e W' => e = .returned (.int .u32 r) ∧ Wd w W' [] [] ) := by
  refine sxstart (n := 5) (l := [(0, .string a0)]) Tryz.func169 rfl rfl (Nat.le_of_ble_eq_true KR) (subsA_cons rfl (subsA_nil _)) ?_
  intro a ha
  have HW := Wd.refl w
  unfold crc_Sum.f at h
  refine wp_seq_k (fun K485 hK486 => ?_)
  refine wp_region_lit ?_
  refine stepp ha 2 (.int .u32 0) KR KR ?_; clear ha a; intro a ha
  refine endl ?_
  refine thenN (hK486 _ _ ?_); clear hK486
  refine wp_seq_k (fun K487 hK488 => ?_)
  refine wp_region_lit ?_
  refine stepp ha 3 (.string a0) KR KR ?_; clear ha a; intro a ha
  obtain ⟨t489, ht490, h_⟩ := bind_some' h; clear h; have h := h_; clear h_
  refine stepc ha 4 KR KR (crc_More.calls K 0 a0 t489 _ (HW.ca0 hG1) ht490) ?_; clear ha a; rintro e W491 ⟨rfl, HX492⟩
  refine ⟨_, rfl, ?_⟩; intro a ha; replace HW := HW.callw HX492; clear HX492
  refine stepp ha 2 (.int .u32 t489) KR KR ?_; clear ha a; intro a ha
  refine endl ?_
  refine thenN (hK488 _ _ ?_); clear hK488
  refine wp_ret ?_
  obtain rfl := Option.some.inj h
  exact finv ha _ _ rfl (.tmp (v := .int .u32 t489) KR .nil) (.int .u32 t489) rfl ⟨rfl, HW.pick [] [] (by decide) (by decide) rfl KR⟩
/-! ### headgate/crc.Digest: function 159 -/
def crc_Digest.f (K : Nat) (a0 : ByteArray) : Option ByteArray :=
  (crc_Sum.f K a0).bind fun t497 => ((fields_PutLittle.f K (IntKind.wrap .u64 t497) 4).bind fun t501 => (some t501))
set_option maxRecDepth 100000 in
set_option maxHeartbeats 4000000 in
theorem crc_Digest.calls (K : Nat) (a0 : ByteArray)  (r : ByteArray) (w : World) (hG1 : CA w 1 0 (encs (encI .u32) G_crc_steps).toArray) (h : crc_Digest.f K a0 = some r) :
    Calls Tryz.prog 159 #[.string a0] w (fun e W' => e = .returned (.string r) ∧ Wd w W' [] [] ) := by
  refine sxstart (n := 7) (l := [(0, .string a0)]) Tryz.func159 rfl rfl (Nat.le_of_ble_eq_true KR) (subsA_cons rfl (subsA_nil _)) ?_
  intro a ha
  have HW := Wd.refl w
  unfold crc_Digest.f at h
  refine wp_seq_k (fun K493 hK494 => ?_)
  refine wp_region_lit ?_
  refine stepp ha 2 (.string (⟨#[]⟩ : ByteArray)) KR KR ?_; clear ha a; intro a ha
  refine endl ?_
  refine thenN (hK494 _ _ ?_); clear hK494
  refine wp_seq_k (fun K495 hK496 => ?_)
  refine wp_region_lit ?_
  refine stepp ha 3 (.string a0) KR KR ?_; clear ha a; intro a ha
  obtain ⟨t497, ht498, h_⟩ := bind_some' h; clear h; have h := h_; clear h_
  refine stepc ha 4 KR KR (crc_Sum.calls K a0 t497 _ (HW.ca0 hG1) ht498) ?_; clear ha a; rintro e W499 ⟨rfl, HX500⟩
  refine ⟨_, rfl, ?_⟩; intro a ha; replace HW := HW.callw HX500; clear HX500
  refine stepp ha 5 (.int .u64 (IntKind.wrap .u64 t497)) KR KR ?_; clear ha a; intro a ha
  obtain ⟨t501, ht502, h_⟩ := bind_some' h; clear h; have h := h_; clear h_
  refine stepc ha 6 KR KR (fields_PutLittle.calls K (IntKind.wrap .u64 t497) 4 t501 _ ht502) ?_; clear ha a; rintro e W503 ⟨rfl, HX504⟩
  refine ⟨_, rfl, ?_⟩; intro a ha; replace HW := HW.callw HX504; clear HX504
  refine stepp ha 2 (.string t501) KR KR ?_; clear ha a; intro a ha
  refine endl ?_
  refine thenN (hK496 _ _ ?_); clear hK496
  refine wp_ret ?_
  obtain rfl := Option.some.inj h
  exact finv ha _ _ rfl (.tmp (v := .string t501) KR .nil) (.string t501) rfl ⟨rfl, HW.pick [] [] (by decide) (by decide) rfl KR⟩
/-! ### headgate/frame.Put: function 145 -/
def frame_Put.f (K : Nat) (a0 : Int) (a1 : ByteArray) : Option (ByteArray × Int) :=
  if (a1.size : Int) > 65536 then (some ((⟨#[]⟩ : ByteArray), 2)) else ((fields_PutBig.f K a0 8).bind fun t516 => (asrt (4 + t516.size ≤ 9223372036854775807) ((fields_PutBig.f K (IntKind.wrap .u64 (a1.size : Int)) 4).bind fun t521 => (asrt (((⟨#[72, 71, 70, 82]⟩ : ByteArray) ++ t516).size + t521.size ≤ 9223372036854775807) ((crc_Digest.f K (((⟨#[72, 71, 70, 82]⟩ : ByteArray) ++ t516) ++ t521)).bind fun t528 => (asrt ((((⟨#[72, 71, 70, 82]⟩ : ByteArray) ++ t516) ++ t521).size + t528.size ≤ 9223372036854775807) (asrt (((((⟨#[72, 71, 70, 82]⟩ : ByteArray) ++ t516) ++ t521) ++ t528).size + a1.size ≤ 9223372036854775807) ((crc_Digest.f K a1).bind fun t534 => (asrt ((((((⟨#[72, 71, 70, 82]⟩ : ByteArray) ++ t516) ++ t521) ++ t528) ++ a1).size + t534.size ≤ 9223372036854775807) ((fields_Pad.f ((((((⟨#[72, 71, 70, 82]⟩ : ByteArray) ++ t516) ++ t521) ++ t528) ++ a1) ++ t534) 512).bind fun t539 => (some (t539, 0))))))))))))
set_option maxRecDepth 100000 in
set_option maxHeartbeats 4000000 in
theorem frame_Put.calls (K : Nat) (a0 : Int) (a1 : ByteArray)  (r : ByteArray × Int) (w : World) (hG1 : CA w 1 0 (encs (encI .u32) G_crc_steps).toArray) (h : frame_Put.f K a0 a1 = some r) :
    Calls Tryz.prog 145 #[.int .u64 a0, .string a1] w (fun e W' => e = .returned (.tuple #[.string r.1, .int .i64 r.2]) ∧ Wd w W' [] [] ) := by
  refine sxstart (n := 28) (l := [(0, .int .u64 a0), (1, .string a1)]) Tryz.func145 rfl rfl (Nat.le_of_ble_eq_true KR) (subsA_cons rfl (subsA_cons rfl (subsA_nil _))) ?_
  intro a ha
  have HW := Wd.refl w
  unfold frame_Put.f at h
  refine wp_seq_k (fun K505 hK506 => ?_)
  refine wp_region_lit ?_
  refine stepp ha 4 (.string (⟨#[]⟩ : ByteArray)) KR KR ?_; clear ha a; intro a ha
  refine stepp ha 5 (.int .i64 0) KR KR ?_; clear ha a; intro a ha
  refine endl ?_
  refine thenN (hK506 _ _ ?_); clear hK506
  refine wp_seq_k (fun K507 hK508 => ?_)
  refine wp_seq_k (fun K509 hK510 => ?_)
  refine wp_region_lit ?_
  refine stepp ha 7 (.string a1) KR KR ?_; clear ha a; intro a ha
  refine stepp ha 8 (.int .i64 (a1.size : Int)) KR KR ?_; clear ha a; intro a ha
  refine stepp ha 9 (.bool (decide ((a1.size : Int) > 65536))) KR KR ?_; clear ha a; intro a ha
  refine endl ?_
  refine thenN (hK510 _ _ ?_); clear hK510
  by_cases hp511 : (a1.size : Int) > 65536
  · skip
    replace h := ite_pos' h hp511
    refine condT ha KR KR (t := decide ((a1.size : Int) > 65536)) (decide_eq_true hp511) ?_
    refine wp_seq_k (fun K512 hK513 => ?_)
    refine wp_region_lit ?_
    refine stepp ha 4 (.string (⟨#[]⟩ : ByteArray)) KR KR ?_; clear ha a; intro a ha
    refine stepp ha 5 (.int .i64 2) KR KR ?_; clear ha a; intro a ha
    refine endl ?_
    refine thenN (hK513 _ _ ?_); clear hK513
    refine wp_ret ?_
    refine thenR ?_
    obtain rfl := Option.some.inj h
    exact finv ha _ _ rfl (.tmp (v := .string (⟨#[]⟩ : ByteArray)) KR (.tmp (v := .int .i64 2) KR .nil)) (.tuple #[.string (⟨#[]⟩ : ByteArray), .int .i64 2]) rfl ⟨rfl, HW.pick [] [] (by decide) (by decide) rfl KR⟩
  · skip
    replace h := ite_neg' h hp511
    refine condF ha KR KR (t := decide ((a1.size : Int) > 65536)) (decide_eq_false hp511) ?_
    refine wp_skip ?_
    refine thenN (hK508 _ _ ?_); clear hK508
    refine wp_seq_k (fun K514 hK515 => ?_)
    refine wp_region_lit ?_
    refine stepp ha 10 (.int .u64 a0) KR KR ?_; clear ha a; intro a ha
    obtain ⟨t516, ht517, h_⟩ := bind_some' h; clear h; have h := h_; clear h_
    refine stepc ha 11 KR KR (fields_PutBig.calls K a0 8 t516 _ ht517) ?_; clear ha a; rintro e W518 ⟨rfl, HX519⟩
    refine ⟨_, rfl, ?_⟩; intro a ha; replace HW := HW.callw HX519; clear HX519
    obtain ⟨hA520, h_⟩ := asrt_some h; clear h; have h := h_; clear h_
    refine stepsa ha 12 9 9 (.const (.string (⟨#[72, 71, 70, 82]⟩ : ByteArray))) (.tmp 11) (⟨#[72, 71, 70, 82]⟩ : ByteArray) t516 rfl KR KR (show ((⟨#[72, 71, 70, 82]⟩ : ByteArray)).size + (t516).size ≤ 9223372036854775807 from hA520) KR ?_; clear ha a; intro a ha
    refine stepp ha 13 (.string a1) KR KR ?_; clear ha a; intro a ha
    refine stepp ha 14 (.int .i64 (a1.size : Int)) KR KR ?_; clear ha a; intro a ha
    refine stepp ha 15 (.int .u64 (IntKind.wrap .u64 (a1.size : Int))) KR KR ?_; clear ha a; intro a ha
    obtain ⟨t521, ht522, h_⟩ := bind_some' h; clear h; have h := h_; clear h_
    refine stepc ha 16 KR KR (fields_PutBig.calls K (IntKind.wrap .u64 (a1.size : Int)) 4 t521 _ ht522) ?_; clear ha a; rintro e W523 ⟨rfl, HX524⟩
    refine ⟨_, rfl, ?_⟩; intro a ha; replace HW := HW.callw HX524; clear HX524
    obtain ⟨hA525, h_⟩ := asrt_some h; clear h; have h := h_; clear h_
    refine stepsa ha 17 9 9 (.tmp 12) (.tmp 16) ((⟨#[72, 71, 70, 82]⟩ : ByteArray) ++ t516) t521 rfl KR KR (show ((⟨#[72, 71, 70, 82]⟩ : ByteArray) ++ t516).size + (t521).size ≤ 9223372036854775807 from hA525) KR ?_; clear ha a; intro a ha
    refine stepp ha 6 (.string (((⟨#[72, 71, 70, 82]⟩ : ByteArray) ++ t516) ++ t521)) KR KR ?_; clear ha a; intro a ha
    refine endl ?_
    refine thenN (hK515 _ _ ?_); clear hK515
    refine wp_seq_k (fun K526 hK527 => ?_)
    refine wp_region_lit ?_
    refine stepp ha 18 (.string (((⟨#[72, 71, 70, 82]⟩ : ByteArray) ++ t516) ++ t521)) KR KR ?_; clear ha a; intro a ha
    refine stepp ha 19 (.string (((⟨#[72, 71, 70, 82]⟩ : ByteArray) ++ t516) ++ t521)) KR KR ?_; clear ha a; intro a ha
    obtain ⟨t528, ht529, h_⟩ := bind_some' h; clear h; have h := h_; clear h_
    refine stepc ha 20 KR KR (crc_Digest.calls K (((⟨#[72, 71, 70, 82]⟩ : ByteArray) ++ t516) ++ t521) t528 _ (HW.ca0 hG1) ht529) ?_; clear ha a; rintro e W530 ⟨rfl, HX531⟩
    refine ⟨_, rfl, ?_⟩; intro a ha; replace HW := HW.callw HX531; clear HX531
    obtain ⟨hA532, h_⟩ := asrt_some h; clear h; have h := h_; clear h_
    refine stepsa ha 21 9 9 (.tmp 18) (.tmp 20) (((⟨#[72, 71, 70, 82]⟩ : ByteArray) ++ t516) ++ t521) t528 rfl KR KR (show (((⟨#[72, 71, 70, 82]⟩ : ByteArray) ++ t516) ++ t521).size + (t528).size ≤ 9223372036854775807 from hA532) KR ?_; clear ha a; intro a ha
    refine stepp ha 22 (.string a1) KR KR ?_; clear ha a; intro a ha
    obtain ⟨hA533, h_⟩ := asrt_some h; clear h; have h := h_; clear h_
    refine stepsa ha 23 9 9 (.tmp 21) (.tmp 22) ((((⟨#[72, 71, 70, 82]⟩ : ByteArray) ++ t516) ++ t521) ++ t528) a1 rfl KR KR (show ((((⟨#[72, 71, 70, 82]⟩ : ByteArray) ++ t516) ++ t521) ++ t528).size + (a1).size ≤ 9223372036854775807 from hA533) KR ?_; clear ha a; intro a ha
    refine stepp ha 24 (.string a1) KR KR ?_; clear ha a; intro a ha
    obtain ⟨t534, ht535, h_⟩ := bind_some' h; clear h; have h := h_; clear h_
    refine stepc ha 25 KR KR (crc_Digest.calls K a1 t534 _ (HW.ca0 hG1) ht535) ?_; clear ha a; rintro e W536 ⟨rfl, HX537⟩
    refine ⟨_, rfl, ?_⟩; intro a ha; replace HW := HW.callw HX537; clear HX537
    obtain ⟨hA538, h_⟩ := asrt_some h; clear h; have h := h_; clear h_
    refine stepsa ha 26 9 9 (.tmp 23) (.tmp 25) (((((⟨#[72, 71, 70, 82]⟩ : ByteArray) ++ t516) ++ t521) ++ t528) ++ a1) t534 rfl KR KR (show (((((⟨#[72, 71, 70, 82]⟩ : ByteArray) ++ t516) ++ t521) ++ t528) ++ a1).size + (t534).size ≤ 9223372036854775807 from hA538) KR ?_; clear ha a; intro a ha
    obtain ⟨t539, ht540, h_⟩ := bind_some' h; clear h; have h := h_; clear h_
    refine stepc ha 27 KR KR (fields_Pad.calls ((((((⟨#[72, 71, 70, 82]⟩ : ByteArray) ++ t516) ++ t521) ++ t528) ++ a1) ++ t534) 512 t539 _ ht540) ?_; clear ha a; rintro e W541 ⟨rfl, HX542⟩
    refine ⟨_, rfl, ?_⟩; intro a ha; replace HW := HW.callw HX542; clear HX542
    refine stepp ha 4 (.string t539) KR KR ?_; clear ha a; intro a ha
    refine stepp ha 5 (.int .i64 0) KR KR ?_; clear ha a; intro a ha
    refine endl ?_
    refine thenN (hK527 _ _ ?_); clear hK527
    refine wp_ret ?_
    obtain rfl := Option.some.inj h
    exact finv ha _ _ rfl (.tmp (v := .string t539) KR (.tmp (v := .int .i64 0) KR .nil)) (.tuple #[.string t539, .int .i64 0]) rfl ⟨rfl, HW.pick [] [] (by decide) (by decide) rfl KR⟩
end Go.Proofs.YtljpkcaljnahfaaGreatDoor.F
