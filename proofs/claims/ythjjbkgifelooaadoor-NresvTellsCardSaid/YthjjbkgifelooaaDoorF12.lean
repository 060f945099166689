/- headgate/headgatelaw10.Large, headgate/headgatekeep.CopyTable, headgate/nresv.Reported$1, headgate/nresv.Reported, headgate/headgateref10.Registered: plain functions, and that the calls come to what they say. No condition. -/
import Derived.Test.YthjjbkgifelooaaDoorFT
import Derived.Test.YthjjbkgifelooaaDoorF48
import Derived.Test.YthjjbkgifelooaaDoorF77
namespace Go.Proofs.YthjjbkgifelooaaDoor.F
open Go Go.RowKit Go.Proofs.YthjjbkgifelooaaDoor.X
set_option linter.unusedVariables false
set_option linter.unusedSimpArgs false
/-! ### headgate/headgatelaw10.Large: function 12 -/
def headgatelaw10_Large.b0 (K : Nat) (a0 : T_api_Table) (again54 : Int → Option Bool) (x55 : Int) : Option Bool :=
  if x55 < (a0.f0.length : Int) then (asrt (0 ≤ x55) (if (((rdL T_api_Reg.z a0.f0 x55).f0).size : Int) > 1000 then (some true) else (again54 (IntKind.wrap .i64 (x55 + 1))))) else (some false)
def headgatelaw10_Large.l0 (K : Nat) (a0 : T_api_Table) : Nat → Int → Option Bool
  | 0, _ => none
  | k_ + 1, x55 => headgatelaw10_Large.b0 K a0 (headgatelaw10_Large.l0 K a0 k_) x55
def headgatelaw10_Large.f (K : Nat) (a0 : T_api_Table) : Option Bool :=
  if (a0.f0.length : Int) > 200 then (some true) else (if (a0.f1.f1.size : Int) > 1000 then (some true) else (headgatelaw10_Large.l0 K a0 K 0))
set_option maxRecDepth 100000 in
set_option maxHeartbeats 4000000 in
theorem headgatelaw10_Large.calls (K : Nat) (a0 : T_api_Table) (A0_0 : Option Addr) (c0_0 : Nat) (r : Bool) (w : World) (hr0_0 : Rd 2 w (.slice A0_0 a0.f0.length c0_0) a0.f0.length (encs T_api_Reg.enc a0.f0)) (h : headgatelaw10_Large.f K a0 = some r) :
    Calls Tryd.prog 12 #[.agg #[.slice A0_0 a0.f0.length c0_0, .int .i64 a0.f1.f0, .string a0.f1.f1, .int .u32 a0.f2, .bool a0.f3]] w (fun e W' => e = .returned (.bool r) ∧ Wd w W' [] [] ) := by
  refine sxstart (n := 30) (l := [(0, .agg #[.slice A0_0 a0.f0.length c0_0, .int .i64 a0.f1.f0, .string a0.f1.f1, .int .u32 a0.f2, .bool a0.f3])]) Tryd.func12 rfl rfl (Nat.le_of_ble_eq_true KR) (subsA_cons rfl (subsA_nil _)) ?_
  intro a ha
  have HW := Wd.refl w
  unfold headgatelaw10_Large.f at h
  refine wp_seq_k (fun K1 hK2 => ?_)
  refine wp_region_lit ?_
  refine stepnew ha HW 1 #[.slice A0_0 a0.f0.length c0_0, .int .i64 a0.f1.f0, .string a0.f1.f1, .int .u32 a0.f2, .bool a0.f3] 27 KR KR ?_; clear ha HW a; intro b3 a W4 HW ha
  refine stepp ha 2 (.bool false) KR KR ?_; clear ha a; intro a ha
  refine endl ?_
  refine thenN (hK2 _ _ ?_); clear hK2
  refine wp_seq_k (fun K5 hK6 => ?_)
  refine wp_seq_k (fun K7 hK8 => ?_)
  refine wp_region_lit ?_
  refine stepp ha 4 (.pointer (some ⟨b3, 0, none⟩)) KR KR ?_; clear ha a; intro a ha
  refine stepl ha 5 (HW.ca (i := 0) (b := b3) (C := #[.slice A0_0 a0.f0.length c0_0, .int .i64 a0.f1.f0, .string a0.f1.f1, .int .u32 a0.f2, .bool a0.f3]) (T := 27) (fr := (0, 0)) KR) 22 0 (.tmp 4) (.slice A0_0 a0.f0.length c0_0) rfl KR KR KR ?_; clear ha a; intro a ha
  refine stepp ha 6 (.int .i64 (a0.f0.length : Int)) KR KR ?_; clear ha a; intro a ha
  refine stepp ha 7 (.bool (decide ((a0.f0.length : Int) > 200))) KR KR ?_; clear ha a; intro a ha
  refine stepp ha 8 (.bool (decide ((a0.f0.length : Int) > 200))) KR KR ?_; clear ha a; intro a ha
  by_cases hp9 : (a0.f0.length : Int) > 200
  · skip
    replace h := ite_pos' h hp9
    replace ha := ha.bool 8 KR (decide_eq_true hp9)
    refine stepo ha 9 KR ?_; clear ha a; intro a ha
    refine stepo ha 10 KR ?_; clear ha a; intro a ha
    refine stepo ha 11 KR ?_; clear ha a; intro a ha
    refine stepo ha 12 KR ?_; clear ha a; intro a ha
    refine stepo ha 13 KR ?_; clear ha a; intro a ha
    refine stepp ha 14 (.bool true) KR KR ?_; clear ha a; intro a ha
    refine endl ?_
    refine thenN (hK8 _ _ ?_); clear hK8
    refine condT ha KR KR (t := true) (rfl) ?_
    refine wp_seq_k (fun K10 hK11 => ?_)
    refine wp_region_lit ?_
    refine stepp ha 2 (.bool true) KR KR ?_; clear ha a; intro a ha
    refine endl ?_
    refine thenN (hK11 _ _ ?_); clear hK11
    refine wp_ret ?_
    refine thenR ?_
    obtain rfl := Option.some.inj h
    exact finv ha _ _ rfl (.tmp (v := .bool true) KR .nil) (.bool true) rfl ⟨rfl, HW.pick [] [] (by decide) (by decide) rfl KR⟩
  · skip
    replace h := ite_neg' h hp9
    replace ha := ha.bool 8 KR (decide_eq_false hp9)
    refine stepp ha 9 (.pointer (some ⟨b3, 1, none⟩)) KR KR ?_; clear ha a; intro a ha
    refine stepp ha 10 (.pointer (some ⟨b3, 2, none⟩)) KR KR ?_; clear ha a; intro a ha
    refine stepl ha 11 (HW.ca (i := 0) (b := b3) (C := #[.slice A0_0 a0.f0.length c0_0, .int .i64 a0.f1.f0, .string a0.f1.f1, .int .u32 a0.f2, .bool a0.f3]) (T := 27) (fr := (0, 0)) KR) 9 2 (.tmp 10) (.string a0.f1.f1) rfl KR KR KR ?_; clear ha a; intro a ha
    refine stepp ha 12 (.int .i64 (a0.f1.f1.size : Int)) KR KR ?_; clear ha a; intro a ha
    refine stepp ha 13 (.bool (decide ((a0.f1.f1.size : Int) > 1000))) KR KR ?_; clear ha a; intro a ha
    refine stepp ha 14 (.bool (decide ((a0.f1.f1.size : Int) > 1000))) KR KR ?_; clear ha a; intro a ha
    refine endl ?_
    refine thenN (hK8 _ _ ?_); clear hK8
    by_cases hp12 : (a0.f1.f1.size : Int) > 1000
    · skip
      replace h := ite_pos' h hp12
      refine condT ha KR KR (t := decide ((a0.f1.f1.size : Int) > 1000)) (decide_eq_true hp12) ?_
      refine wp_seq_k (fun K13 hK14 => ?_)
      refine wp_region_lit ?_
      refine stepp ha 2 (.bool true) KR KR ?_; clear ha a; intro a ha
      refine endl ?_
      refine thenN (hK14 _ _ ?_); clear hK14
      refine wp_ret ?_
      refine thenR ?_
      obtain rfl := Option.some.inj h
      exact finv ha _ _ rfl (.tmp (v := .bool true) KR .nil) (.bool true) rfl ⟨rfl, HW.pick [] [] (by decide) (by decide) rfl KR⟩
    · skip
      replace h := ite_neg' h hp12
      refine condF ha KR KR (t := decide ((a0.f1.f1.size : Int) > 1000)) (decide_eq_false hp12) ?_
      refine wp_skip ?_
      refine thenN (hK6 _ _ ?_); clear hK6
      refine wp_seq_k (fun K15 hK16 => ?_)
      refine wp_seq_k (fun K17 hK18 => ?_)
      refine wp_region_lit ?_
      refine stepp ha 3 (.int .i64 0) KR KR ?_; clear ha a; intro a ha
      refine endl ?_
      refine thenN (hK18 _ _ ?_); clear hK18
      refine wp_block ?_
      refine loopk (fun k => fun a W56 => ∃ (x55 : Int), headgatelaw10_Large.l0 K a0 k x55 = some r ∧ Has 30 [(1, .pointer (some ⟨b3, 0, none⟩)), (3, .int .i64 x55)] a ∧ Wd w W56 [(b3, .cells #[.slice A0_0 a0.f0.length c0_0, .int .i64 a0.f1.f0, .string a0.f1.f1, .int .u32 a0.f2, .bool a0.f3] 27 (0, 0))] []) K ?_ ?_
      · skip
        exact ⟨0, h, ha.sub (subs_cons KR (subs_cons KR (subs_nil _))), HW.pick [0] [] (by decide) (by decide) KR KR⟩
      · skip
        intro k a W56 hI
        obtain ⟨x55, h, ha, HW⟩ := hI
        cases k with
        | zero => exact (none_some (show none = some r from h)).elim
        | succ k57 =>
          replace h : headgatelaw10_Large.b0 K a0 (headgatelaw10_Large.l0 K a0 k57) x55 = some r := h
          obtain ⟨again54, hag58⟩ : ∃ g_, g_ = headgatelaw10_Large.l0 K a0 k57 := ⟨_, rfl⟩
          rw [← hag58] at h
          unfold headgatelaw10_Large.b0 at h
          refine wp_seq_k (fun K59 hK60 => ?_)
          refine wp_seq_k (fun K61 hK62 => ?_)
          refine wp_region_lit ?_
          refine stepp ha 15 (.int .i64 x55) KR KR ?_; clear ha a; intro a ha
          refine stepp ha 16 (.pointer (some ⟨b3, 0, none⟩)) KR KR ?_; clear ha a; intro a ha
          refine stepl ha 17 (HW.ca (i := 0) (b := b3) (C := #[.slice A0_0 a0.f0.length c0_0, .int .i64 a0.f1.f0, .string a0.f1.f1, .int .u32 a0.f2, .bool a0.f3]) (T := 27) (fr := (0, 0)) KR) 22 0 (.tmp 16) (.slice A0_0 a0.f0.length c0_0) rfl KR KR KR ?_; clear ha a; intro a ha
          refine stepp ha 18 (.int .i64 (a0.f0.length : Int)) KR KR ?_; clear ha a; intro a ha
          refine stepp ha 19 (.bool (decide (x55 < (a0.f0.length : Int)))) KR KR ?_; clear ha a; intro a ha
          refine endl ?_
          refine thenN (hK62 _ _ ?_); clear hK62
          by_cases hp63 : x55 < (a0.f0.length : Int)
          · skip
            replace h := ite_pos' h hp63
            refine condT ha KR KR (t := decide (x55 < (a0.f0.length : Int))) (decide_eq_true hp63) ?_
            refine wp_skip ?_
            refine thenN (hK60 _ _ ?_); clear hK60
            refine wp_seq_k (fun K64 hK65 => ?_)
            refine wp_block ?_
            refine wp_seq_k (fun K66 hK67 => ?_)
            refine wp_region_lit ?_
            refine stepp ha 22 (.pointer (some ⟨b3, 0, none⟩)) KR KR ?_; clear ha a; intro a ha
            refine stepl ha 23 (HW.ca (i := 0) (b := b3) (C := #[.slice A0_0 a0.f0.length c0_0, .int .i64 a0.f1.f0, .string a0.f1.f1, .int .u32 a0.f2, .bool a0.f3]) (T := 27) (fr := (0, 0)) KR) 22 0 (.tmp 22) (.slice A0_0 a0.f0.length c0_0) rfl KR KR KR ?_; clear ha a; intro a ha
            refine stepp ha 24 (.int .i64 x55) KR KR ?_; clear ha a; intro a ha
            obtain ⟨hA68, h_⟩ := asrt_some h; clear h; have h := h_; clear h_
            refine stepie T_api_Reg.enc T_api_Reg.z ha 25 (fun _ => rfl) (v := .slice A0_0 a0.f0.length c0_0) (xs := a0.f0) ((HW.rd0 hr0_0)) 22 44 (.tmp 23) (.tmp 24) .i64 x55 rfl KR KR KR KR hA68 (show (x55 : Int) < ((a0.f0).length : Int) from hp63) KR ?_; clear ha a; intro b69 off70 a hC71 ha
            refine stepp ha 26 (.pointer (some ⟨b69, off70, none⟩)) KR KR ?_; clear ha a; intro a ha
            refine stepl ha 27 hC71 9 0 (.tmp 26) (.string ((rdL T_api_Reg.z a0.f0 x55).f0)) rfl KR KR KR ?_; clear ha a; intro a ha
            refine stepp ha 28 (.int .i64 (((rdL T_api_Reg.z a0.f0 x55).f0).size : Int)) KR KR ?_; clear ha a; intro a ha
            refine stepp ha 29 (.bool (decide ((((rdL T_api_Reg.z a0.f0 x55).f0).size : Int) > 1000))) KR KR ?_; clear ha a; intro a ha
            refine endl ?_
            refine thenN (hK67 _ _ ?_); clear hK67
            by_cases hp72 : (((rdL T_api_Reg.z a0.f0 x55).f0).size : Int) > 1000
            · skip
              replace h := ite_pos' h hp72
              refine condT ha KR KR (t := decide ((((rdL T_api_Reg.z a0.f0 x55).f0).size : Int) > 1000)) (decide_eq_true hp72) ?_
              refine wp_seq_k (fun K73 hK74 => ?_)
              refine wp_region_lit ?_
              refine stepp ha 2 (.bool true) KR KR ?_; clear ha a; intro a ha
              refine endl ?_
              refine thenN (hK74 _ _ ?_); clear hK74
              refine wp_ret ?_
              refine blkR ?_
              refine thenR ?_
              refine thenR ?_
              refine blkR ?_
              refine thenR ?_
              obtain rfl := Option.some.inj h
              exact finv ha _ _ rfl (.tmp (v := .bool true) KR .nil) (.bool true) rfl ⟨rfl, HW.pick [] [] (by decide) (by decide) rfl KR⟩
            · skip
              replace h := ite_neg' h hp72
              refine condF ha KR KR (t := decide ((((rdL T_api_Reg.z a0.f0 x55).f0).size : Int) > 1000)) (decide_eq_false hp72) ?_
              refine wp_skip ?_
              refine blkN ?_
              refine thenN (hK65 _ _ ?_); clear hK65
              refine wp_region_lit ?_
              refine stepp ha 20 (.int .i64 x55) KR KR ?_; clear ha a; intro a ha
              refine stepp ha 21 (.int .i64 (IntKind.wrap .i64 (x55 + 1))) KR KR ?_; clear ha a; intro a ha
              refine stepp ha 3 (.int .i64 (IntKind.wrap .i64 (x55 + 1))) KR KR ?_; clear ha a; intro a ha
              refine endl ?_
              exact thenN ⟨k57, Nat.lt_succ_self k57, IntKind.wrap .i64 (x55 + 1), (by rw [← hag58]; exact h), ha.sub (subs_cons KR (subs_cons KR (subs_nil _))), HW.pick [0] [] (by decide) (by decide) KR KR⟩
          · skip
            replace h := ite_neg' h hp63
            refine condF ha KR KR (t := decide (x55 < (a0.f0.length : Int))) (decide_eq_false hp63) ?_
            refine wp_exit ?_
            refine thenE ?_
            refine thenE ?_
            refine inBlk ?_
            refine thenN (hK16 _ _ ?_); clear hK16
            refine wp_seq_k (fun K75 hK76 => ?_)
            refine wp_region_lit ?_
            refine stepp ha 2 (.bool false) KR KR ?_; clear ha a; intro a ha
            refine endl ?_
            refine thenN (hK76 _ _ ?_); clear hK76
            refine wp_ret ?_
            obtain rfl := Option.some.inj h
            exact finv ha _ _ rfl (.tmp (v := .bool false) KR .nil) (.bool false) rfl ⟨rfl, HW.pick [] [] (by decide) (by decide) rfl KR⟩
/-! ### headgate/headgatekeep.CopyTable: function 14 -/
def headgatekeep_CopyTable.f (a0 : T_api_Table) : Option T_api_Table :=
  asrt (([] : List T_api_Reg).length + a0.f0.length ≤ 5864062014805) (some (⟨([] : List T_api_Reg) ++ a0.f0, (⟨a0.f1.f0, a0.f1.f1⟩ : T_api_Hold), a0.f2, a0.f3⟩ : T_api_Table))
set_option maxRecDepth 100000 in
set_option maxHeartbeats 4000000 in
theorem headgatekeep_CopyTable.calls (a0 : T_api_Table) (A0_0 : Option Addr) (c0_0 : Nat) (r : T_api_Table) (w : World) (hr0_0 : Rd 2 w (.slice A0_0 a0.f0.length c0_0) a0.f0.length (encs T_api_Reg.enc a0.f0)) (h : headgatekeep_CopyTable.f a0 = some r) :
    Calls Tryd.prog 14 #[.agg #[.slice A0_0 a0.f0.length c0_0, .int .i64 a0.f1.f0, .string a0.f1.f1, .int .u32 a0.f2, .bool a0.f3]] w (fun e W' => ∃ A_0 c_0, e = .returned (.agg #[.slice A_0 r.f0.length c_0, .int .i64 r.f1.f0, .string r.f1.f1, .int .u32 r.f2, .bool r.f3]) ∧ Wd w W' [] [⟨44, 2, .slice A_0 r.f0.length c_0, r.f0.length, encs T_api_Reg.enc r.f0⟩] ) := by
  refine sxstart (n := 9) (l := [(0, .agg #[.slice A0_0 a0.f0.length c0_0, .int .i64 a0.f1.f0, .string a0.f1.f1, .int .u32 a0.f2, .bool a0.f3])]) Tryd.func14 rfl rfl (Nat.le_of_ble_eq_true KR) (subsA_cons rfl (subsA_nil _)) ?_
  intro a ha
  have HW := Wd.refl w
  unfold headgatekeep_CopyTable.f at h
  refine wp_seq_k (fun K1028 hK1029 => ?_)
  refine wp_region_lit ?_
  refine stepnew ha HW 1 #[.slice A0_0 a0.f0.length c0_0, .int .i64 a0.f1.f0, .string a0.f1.f1, .int .u32 a0.f2, .bool a0.f3] 27 KR KR ?_; clear ha HW a; intro b1030 a W1031 HW ha
  refine stepnew ha HW 2 #[.slice none 0 0, .int .i64 0, .string (⟨#[]⟩ : ByteArray), .int .u32 0, .bool false] 27 KR KR ?_; clear ha HW a; intro b1032 a W1033 HW ha
  refine endl ?_
  refine thenN (hK1029 _ _ ?_); clear hK1029
  refine wp_seq_k (fun K1034 hK1035 => ?_)
  refine wp_region_lit ?_
  refine stepbs ha HW 3 44 2 0 #[] [] (by decide) KR KR KR KR ?_; clear ha HW a; intro b1036 a W1037 HW ha
  replace HW : Wd w W1037 [(b1032, .cells #[.slice none 0 0, .int .i64 0, .string (⟨#[]⟩ : ByteArray), .int .u32 0, .bool false] 27 (0, 0)), (b1030, .cells #[.slice A0_0 a0.f0.length c0_0, .int .i64 a0.f1.f0, .string a0.f1.f1, .int .u32 a0.f2, .bool a0.f3] 27 (0, 0))] [⟨44, 2, .slice (some ⟨b1036, 0, none⟩) ([] : List T_api_Reg).length 0, ([] : List T_api_Reg).length, encs T_api_Reg.enc ([] : List T_api_Reg)⟩] := HW
  replace ha := ha.turn 3 (v := .slice (some ⟨b1036, 0, none⟩) ([] : List T_api_Reg).length 0) KR rfl
  refine stepp ha 4 (.pointer (some ⟨b1030, 0, none⟩)) KR KR ?_; clear ha a; intro a ha
  refine stepl ha 5 (HW.ca (i := 1) (b := b1030) (C := #[.slice A0_0 a0.f0.length c0_0, .int .i64 a0.f1.f0, .string a0.f1.f1, .int .u32 a0.f2, .bool a0.f3]) (T := 27) (fr := (0, 0)) KR) 22 0 (.tmp 4) (.slice A0_0 a0.f0.length c0_0) rfl KR KR KR ?_; clear ha a; intro a ha
  obtain ⟨hA1039, h_⟩ := asrt_some h; clear h; have h := h_; clear h_
  refine stepape T_api_Reg.enc ha HW 6 0 22 44 (.tmp 3) (.tmp 5) (.agg #[.string (⟨#[]⟩ : ByteArray), .int .u64 0]) 2 24 (.slice (some ⟨b1036, 0, none⟩) ([] : List T_api_Reg).length 0) ([] : List T_api_Reg) (.slice A0_0 a0.f0.length c0_0) a0.f0 KR rfl KR KR ((HW.rd0 hr0_0)) (fun _ => rfl) KR KR KR (by decide) (by have := hA1039; unfold maxLen; omega) (by have := hA1039; omega) KR ?_; clear ha HW a; intro A1040 c1041 a W1042 HW ha
  refine stepp ha 7 (.pointer (some ⟨b1030, 0, none⟩)) KR KR ?_; clear ha a; intro a ha
  refine stepst ha HW 1 (b := b1030) (C := #[.slice A0_0 a0.f0.length c0_0, .int .i64 a0.f1.f0, .string a0.f1.f1, .int .u32 a0.f2, .bool a0.f3]) (T := 27) KR 22 0 (.tmp 7) (.tmp 6) (.slice A1040 (([] : List T_api_Reg) ++ a0.f0).length c1041) #[.slice A1040 (([] : List T_api_Reg) ++ a0.f0).length c1041, .int .i64 a0.f1.f0, .string a0.f1.f1, .int .u32 a0.f2, .bool a0.f3] rfl KR KR KR KR KR KR KR ?_; clear ha HW a; intro a W1045 HW ha
  refine endl ?_
  refine thenN (hK1035 _ _ ?_); clear hK1035
  refine wp_seq_k (fun K1046 hK1047 => ?_)
  refine wp_region_lit ?_
  refine stepl ha 8 (HW.ca (i := 1) (b := b1030) (C := #[.slice A1040 (([] : List T_api_Reg) ++ a0.f0).length c1041, .int .i64 a0.f1.f0, .string a0.f1.f1, .int .u32 a0.f2, .bool a0.f3]) (T := 27) (fr := (0, 0)) KR) 27 0 (.tmp 1) (.agg #[.slice A1040 (([] : List T_api_Reg) ++ a0.f0).length c1041, .int .i64 a0.f1.f0, .string a0.f1.f1, .int .u32 a0.f2, .bool a0.f3]) rfl KR KR KR ?_; clear ha a; intro a ha
  refine stepst ha HW 0 (b := b1032) (C := #[.slice none 0 0, .int .i64 0, .string (⟨#[]⟩ : ByteArray), .int .u32 0, .bool false]) (T := 27) KR 27 0 (.tmp 2) (.tmp 8) (.agg #[.slice A1040 (([] : List T_api_Reg) ++ a0.f0).length c1041, .int .i64 a0.f1.f0, .string a0.f1.f1, .int .u32 a0.f2, .bool a0.f3]) #[.slice A1040 (([] : List T_api_Reg) ++ a0.f0).length c1041, .int .i64 a0.f1.f0, .string a0.f1.f1, .int .u32 a0.f2, .bool a0.f3] rfl KR KR KR KR KR KR KR ?_; clear ha HW a; intro a W1048 HW ha
  refine endl ?_
  refine thenN (hK1047 _ _ ?_); clear hK1047
  refine wp_ret ?_
  obtain rfl := Option.some.inj h
  exact finv ha _ _ rfl (.cell (ad := ⟨b1032, 0, none⟩) (v := .agg #[.slice A1040 (([] : List T_api_Reg) ++ a0.f0).length c1041, .int .i64 a0.f1.f0, .string a0.f1.f1, .int .u32 a0.f2, .bool a0.f3]) KR (run_loadVar_ca0 (HW.ca (i := 0) (b := b1032) (C := #[.slice A1040 (([] : List T_api_Reg) ++ a0.f0).length c1041, .int .i64 a0.f1.f0, .string a0.f1.f1, .int .u32 a0.f2, .bool a0.f3]) (T := 27) (fr := (0, 0)) KR) 27 0 (.agg #[.slice A1040 (([] : List T_api_Reg) ++ a0.f0).length c1041, .int .i64 a0.f1.f0, .string a0.f1.f1, .int .u32 a0.f2, .bool a0.f3]) KR) .nil) (.agg #[.slice A1040 (([] : List T_api_Reg) ++ a0.f0).length c1041, .int .i64 a0.f1.f0, .string a0.f1.f1, .int .u32 a0.f2, .bool a0.f3]) rfl ⟨A1040, c1041, rfl, HW.pick [] [0] (by decide) (by decide) rfl KR⟩
/-! ### headgate/nresv.Reported$1: function 43 -/
def nresv_Reported_1.f  : Option (Int × Int × (List T_api_Reg) × Int × Int) :=
  some (0, 0, ([] : List T_api_Reg), 0, 180)
set_option maxRecDepth 100000 in
set_option maxHeartbeats 4000000 in
theorem nresv_Reported_1.calls   (r : Int × Int × (List T_api_Reg) × Int × Int) (w : World)  (h : nresv_Reported_1.f  = some r) :
    Calls Tryd.prog 43 #[] w (fun e W' => ∃ A_0 c_0, e = .returned (.tuple #[.int .u32 r.1, .int .i64 r.2.1, .slice A_0 r.2.2.1.length c_0, .int .i64 r.2.2.2.1, .int .i64 r.2.2.2.2]) ∧ Wd w W' [] [⟨44, 2, .slice A_0 r.2.2.1.length c_0, r.2.2.1.length, encs T_api_Reg.enc r.2.2.1⟩] ) := by
  refine sxstart (n := 5) (l := []) Tryd.func43 rfl rfl (Nat.le_of_ble_eq_true KR) (subsA_nil _) ?_
  intro a ha
  have HW := Wd.refl w
  unfold nresv_Reported_1.f at h
  refine wp_seq_k (fun K1049 hK1050 => ?_)
  refine wp_region_lit ?_
  refine stepp ha 0 (.int .u32 0) KR KR ?_; clear ha a; intro a ha
  refine stepp ha 1 (.int .i64 0) KR KR ?_; clear ha a; intro a ha
  refine stepp ha 2 (.slice none 0 0) KR KR ?_; clear ha a; intro a ha
  refine stepp ha 3 (.int .i64 0) KR KR ?_; clear ha a; intro a ha
  refine stepp ha 4 (.int .i64 0) KR KR ?_; clear ha a; intro a ha
  refine endl ?_
  refine thenN (hK1050 _ _ ?_); clear hK1050
  refine wp_seq_k (fun K1051 hK1052 => ?_)
  refine wp_region_lit ?_
  refine stepp ha 0 (.int .u32 0) KR KR ?_; clear ha a; intro a ha
  refine stepp ha 1 (.int .i64 0) KR KR ?_; clear ha a; intro a ha
  refine stepp ha 2 (.slice none 0 0) KR KR ?_; clear ha a; intro a ha
  refine stepp ha 3 (.int .i64 0) KR KR ?_; clear ha a; intro a ha
  refine stepp ha 4 (.int .i64 180) KR KR ?_; clear ha a; intro a ha
  refine endl ?_
  refine thenN (hK1052 _ _ ?_); clear hK1052
  refine wp_ret ?_
  obtain rfl := Option.some.inj h
  replace HW := HW.nilo 44 2
  exact finv ha _ _ rfl (.tmp (v := .int .u32 0) KR (.tmp (v := .int .i64 0) KR (.tmp (v := .slice none 0 0) KR (.tmp (v := .int .i64 0) KR (.tmp (v := .int .i64 180) KR .nil))))) (.tuple #[.int .u32 0, .int .i64 0, .slice none 0 0, .int .i64 0, .int .i64 180]) rfl ⟨none, 0, rfl, HW.pick [] [0] (by decide) (by decide) rfl KR⟩
/-! ### headgate/nresv.Reported: function 15 -/
def nresv_Reported.j1 (K : Nat) (a0 : ByteArray) (again1234 : (List T_api_Reg) → Int → ByteArray → Int → Int → Option (Int × Int × (List T_api_Reg) × Int × Int)) (x1235 : List T_api_Reg) (x1240 : ByteArray) (x1241 : Int) (x1242 : Int) (t1257 : Int × Bool) (x1272 : Int) : Option (Int × Int × (List T_api_Reg) × Int × Int) :=
  asrt (x1235.length + ([(⟨(⟨#[]⟩ : ByteArray), t1257.1⟩ : T_api_Reg)] : List T_api_Reg).length ≤ 5864062014805) ((nresv_entry.f K (IntKind.wrap .i64 (x1242 + 1)) (IntKind.wrap .i64 (bt a0 (IntKind.wrap .i64 ((IntKind.wrap .i64 (24 + (IntKind.wrap .i64 (24 * x1242)))) + 2)))) t1257.1).bind fun t1289 => (asrt (x1240.size + t1289.size ≤ 9223372036854775807) (if (IntKind.wrap .i64 (bt a0 (IntKind.wrap .i64 ((IntKind.wrap .i64 (24 + (IntKind.wrap .i64 (24 * x1242)))) + 2)))) > 1 then ((nresv_Reported_1.f).bind fun t1299 => (some (t1299.1, t1299.2.1, t1299.2.2.1, t1299.2.2.2.1, t1299.2.2.2.2))) else (again1234 (x1235 ++ ([(⟨(⟨#[]⟩ : ByteArray), t1257.1⟩ : T_api_Reg)] : List T_api_Reg)) x1272 (x1240 ++ t1289) (IntKind.wrap .i64 (x1241 + (mn (IntKind.wrap .i64 (bt a0 (IntKind.wrap .i64 ((IntKind.wrap .i64 (24 + (IntKind.wrap .i64 (24 * x1242)))) + 2)))) 2))) (IntKind.wrap .i64 (x1242 + 1))))))
def nresv_Reported.j2 (K : Nat) (a0 : ByteArray) (t1060 : Int × Bool) (x1235 : List T_api_Reg) (x1239 : Int) (x1323 : Bool) : Option (Int × Int × (List T_api_Reg) × Int × Int) :=
  if x1323 = true then ((nresv_Reported_1.f).bind fun t1328 => (some (t1328.1, t1328.2.1, t1328.2.2.1, t1328.2.2.2.1, t1328.2.2.2.2))) else (some (IntKind.wrap .u32 t1060.1, IntKind.wrap .i64 (bt a0 4), x1235, x1239, 0))
def nresv_Reported.b0 (K : Nat) (a0 : ByteArray) (t1060 : Int × Bool) (t1066 : Int × Bool) (again1234 : (List T_api_Reg) → Int → ByteArray → Int → Int → Option (Int × Int × (List T_api_Reg) × Int × Int)) (x1235 : List T_api_Reg) (x1239 : Int) (x1240 : ByteArray) (x1241 : Int) (x1242 : Int) : Option (Int × Int × (List T_api_Reg) × Int × Int) :=
  if x1242 < (IntKind.wrap .i64 t1066.1) then ((fields_Little.f K a0 (IntKind.wrap .i64 ((IntKind.wrap .i64 (24 + (IntKind.wrap .i64 (24 * x1242)))) + 16)) 8).bind fun t1257 => (asrt (0 ≤ (IntKind.wrap .i64 ((IntKind.wrap .i64 (24 + (IntKind.wrap .i64 (24 * x1242)))) + 2))) (asrt ((IntKind.wrap .i64 ((IntKind.wrap .i64 (24 + (IntKind.wrap .i64 (24 * x1242)))) + 2)) < (a0.size : Int)) (if (IntKind.wrap .i64 (bt a0 (IntKind.wrap .i64 ((IntKind.wrap .i64 (24 + (IntKind.wrap .i64 (24 * x1242)))) + 2)))) > 0 then (if x1239 < 0 then (nresv_Reported.j1 K a0 again1234 x1235 x1240 x1241 x1242 t1257 x1242) else (nresv_Reported.j1 K a0 again1234 x1235 x1240 x1241 x1242 t1257 x1239)) else (nresv_Reported.j1 K a0 again1234 x1235 x1240 x1241 x1242 t1257 x1239))))) else (if x1240 = a0 then (if (bt a0 9) > 1 then (nresv_Reported.j2 K a0 t1060 x1235 x1239 true) else (if (IntKind.wrap .i64 (bt a0 4)) > 6 then (nresv_Reported.j2 K a0 t1060 x1235 x1239 true) else (asrt (0 ≤ (IntKind.wrap .i64 (bt a0 4))) (asrt ((IntKind.wrap .i64 (bt a0 4)) < 7) (if x1241 > (rdL (0 : Int) ([0, 1, 1, 1, 1, IntKind.wrap .i64 t1066.1, IntKind.wrap .i64 t1066.1] : List Int) (IntKind.wrap .i64 (bt a0 4))) then (nresv_Reported.j2 K a0 t1060 x1235 x1239 true) else (if (IntKind.wrap .i64 (bt a0 4)) > 4 then (nresv_Reported.j2 K a0 t1060 x1235 x1239 (x1241 != (IntKind.wrap .i64 t1066.1))) else (nresv_Reported.j2 K a0 t1060 x1235 x1239 false))))))) else (nresv_Reported.j2 K a0 t1060 x1235 x1239 true))
def nresv_Reported.l0 (K : Nat) (a0 : ByteArray) (t1060 : Int × Bool) (t1066 : Int × Bool) : Nat → (List T_api_Reg) → Int → ByteArray → Int → Int → Option (Int × Int × (List T_api_Reg) × Int × Int)
  | 0, _, _, _, _, _ => none
  | k_ + 1, x1235, x1239, x1240, x1241, x1242 => nresv_Reported.b0 K a0 t1060 t1066 (nresv_Reported.l0 K a0 t1060 t1066 k_) x1235 x1239 x1240 x1241 x1242
def nresv_Reported.j0 (K : Nat) (a0 : ByteArray) (t1060 : Int × Bool) (t1066 : Int × Bool) (x1077 : Bool) : Option (Int × Int × (List T_api_Reg) × Int × Int) :=
  if x1077 = true then ((nresv_Reported_1.f).bind fun t1082 => (some (t1082.1, t1082.2.1, t1082.2.2.1, t1082.2.2.2.1, t1082.2.2.2.2))) else (asrt (4 < (a0.size : Int)) (asrt (9 < (a0.size : Int)) ((nresv_header.f K (IntKind.wrap .u32 t1060.1) (IntKind.wrap .i64 (bt a0 4)) (IntKind.wrap .i64 t1066.1) (IntKind.wrap .i64 (bt a0 9))).bind fun t1096 => (nresv_Reported.l0 K a0 t1060 t1066 K ([] : List T_api_Reg) (-1) t1096 0 0))))
def nresv_Reported.f (K : Nat) (a0 : ByteArray) : Option (Int × Int × (List T_api_Reg) × Int × Int) :=
  (fields_Little.f K a0 0 4).bind fun t1060 => ((fields_Little.f K a0 5 2).bind fun t1066 => (if t1060.2 = true then (if t1066.2 = true then (if t1066.1 > 16 then (nresv_Reported.j0 K a0 t1060 t1066 true) else (nresv_Reported.j0 K a0 t1060 t1066 ((a0.size : Int) != (IntKind.wrap .i64 (24 + (IntKind.wrap .i64 (24 * (IntKind.wrap .i64 t1066.1)))))))) else (nresv_Reported.j0 K a0 t1060 t1066 true)) else (nresv_Reported.j0 K a0 t1060 t1066 true)))
set_option maxRecDepth 100000 in
set_option maxHeartbeats 4000000 in
theorem nresv_Reported.calls (K : Nat) (a0 : ByteArray)  (r : Int × Int × (List T_api_Reg) × Int × Int) (w : World)  (h : nresv_Reported.f K a0 = some r) :
    Calls Tryd.prog 15 #[.string a0] w (fun e W' => ∃ A_0 c_0, e = .returned (.tuple #[.int .u32 r.1, .int .i64 r.2.1, .slice A_0 r.2.2.1.length c_0, .int .i64 r.2.2.2.1, .int .i64 r.2.2.2.2]) ∧ Wd w W' [] [⟨44, 2, .slice A_0 r.2.2.1.length c_0, r.2.2.1.length, encs T_api_Reg.enc r.2.2.1⟩] ) := by
  refine sxstart (n := 167) (l := [(0, .string a0)]) Tryd.func15 rfl rfl (Nat.le_of_ble_eq_true KR) (subsA_cons rfl (subsA_nil _)) ?_
  intro a ha
  have HW := Wd.refl w
  unfold nresv_Reported.f at h
  refine wp_seq_k (fun K1054 hK1055 => ?_)
  refine wp_region_lit ?_
  refine stepp ha 2 (.int .u32 0) KR KR ?_; clear ha a; intro a ha
  refine stepp ha 3 (.int .i64 0) KR KR ?_; clear ha a; intro a ha
  refine stepp ha 4 (.slice none 0 0) KR KR ?_; clear ha a; intro a ha
  refine stepp ha 5 (.int .i64 0) KR KR ?_; clear ha a; intro a ha
  refine stepp ha 6 (.int .i64 0) KR KR ?_; clear ha a; intro a ha
  refine endl ?_
  refine thenN (hK1055 _ _ ?_); clear hK1055
  refine wp_seq_k (fun K1056 hK1057 => ?_)
  refine wp_region_lit ?_
  refine stepp ha 7 (.func (.func 43) #[] #[]) KR KR ?_; clear ha a; intro a ha
  refine endl ?_
  refine thenN (hK1057 _ _ ?_); clear hK1057
  refine wp_seq_k (fun K1058 hK1059 => ?_)
  refine wp_region_lit ?_
  refine stepp ha 20 (.string a0) KR KR ?_; clear ha a; intro a ha
  obtain ⟨t1060, ht1061, h_⟩ := bind_some' h; clear h; have h := h_; clear h_
  refine stepc ha 21 KR KR (fields_Little.calls K a0 0 4 t1060 _ ht1061) ?_; clear ha a; rintro e W1062 ⟨rfl, HX1063⟩
  refine ⟨_, rfl, ?_⟩; intro a ha; replace HW := HW.callw HX1063; clear HX1063
  refine stepp ha 19 (.tuple #[.int .u64 t1060.1, .bool t1060.2]) KR KR ?_; clear ha a; intro a ha
  refine stepp ha 22 (.int .u64 t1060.1) KR KR ?_; clear ha a; intro a ha
  refine stepp ha 23 (.bool t1060.2) KR KR ?_; clear ha a; intro a ha
  refine stepp ha 8 (.int .u64 t1060.1) KR KR ?_; clear ha a; intro a ha
  refine stepp ha 9 (.bool t1060.2) KR KR ?_; clear ha a; intro a ha
  refine endl ?_
  refine thenN (hK1059 _ _ ?_); clear hK1059
  refine wp_seq_k (fun K1064 hK1065 => ?_)
  refine wp_region_lit ?_
  refine stepp ha 25 (.string a0) KR KR ?_; clear ha a; intro a ha
  obtain ⟨t1066, ht1067, h_⟩ := bind_some' h; clear h; have h := h_; clear h_
  refine stepc ha 26 KR KR (fields_Little.calls K a0 5 2 t1066 _ ht1067) ?_; clear ha a; rintro e W1068 ⟨rfl, HX1069⟩
  refine ⟨_, rfl, ?_⟩; intro a ha; replace HW := HW.callw HX1069; clear HX1069
  refine stepp ha 24 (.tuple #[.int .u64 t1066.1, .bool t1066.2]) KR KR ?_; clear ha a; intro a ha
  refine stepp ha 27 (.int .u64 t1066.1) KR KR ?_; clear ha a; intro a ha
  refine stepp ha 28 (.bool t1066.2) KR KR ?_; clear ha a; intro a ha
  refine stepp ha 10 (.int .u64 t1066.1) KR KR ?_; clear ha a; intro a ha
  refine stepp ha 11 (.bool t1066.2) KR KR ?_; clear ha a; intro a ha
  refine endl ?_
  refine thenN (hK1065 _ _ ?_); clear hK1065
  refine wp_seq_k (fun K1070 hK1071 => ?_)
  refine wp_seq_k (fun K1072 hK1073 => ?_)
  refine cutn (fun a W1078 => ∃ (x1077 : Bool), nresv_Reported.j0 K a0 t1060 t1066 x1077 = some r ∧ Has 167 [(0, .string a0), (4, .slice none 0 0), (7, .func (.func 43) #[] #[]), (8, .int .u64 t1060.1), (10, .int .u64 t1066.1), (47, .bool x1077)] a ∧ Wd w W1078 [] []) ?_ ?_
  · skip
    refine wp_region_lit ?_
    refine stepp ha 29 (.bool t1060.2) KR KR ?_; clear ha a; intro a ha
    refine stepp ha 30 (.bool (!t1060.2)) KR KR ?_; clear ha a; intro a ha
    refine stepp ha 31 (.bool (!t1060.2)) KR KR ?_; clear ha a; intro a ha
    by_cases hp1074 : t1060.2 = true
    · skip
      replace h := ite_pos' h hp1074
      replace ha := ha.bool 31 KR (not_f (hp1074))
      refine stepp ha 32 (.bool t1066.2) KR KR ?_; clear ha a; intro a ha
      refine stepp ha 33 (.bool (!t1066.2)) KR KR ?_; clear ha a; intro a ha
      refine stepp ha 34 (.bool (!t1066.2)) KR KR ?_; clear ha a; intro a ha
      refine stepp ha 35 (.bool (!t1066.2)) KR KR ?_; clear ha a; intro a ha
      by_cases hp1075 : t1066.2 = true
      · skip
        replace h := ite_pos' h hp1075
        replace ha := ha.bool 35 KR (not_f (hp1075))
        refine stepp ha 36 (.int .u64 t1066.1) KR KR ?_; clear ha a; intro a ha
        refine stepp ha 37 (.bool (decide (t1066.1 > 16))) KR KR ?_; clear ha a; intro a ha
        refine stepp ha 38 (.bool (decide (t1066.1 > 16))) KR KR ?_; clear ha a; intro a ha
        refine stepp ha 39 (.bool (decide (t1066.1 > 16))) KR KR ?_; clear ha a; intro a ha
        by_cases hp1076 : t1066.1 > 16
        · skip
          replace h := ite_pos' h hp1076
          replace ha := ha.bool 39 KR (decide_eq_true hp1076)
          refine stepo ha 40 KR ?_; clear ha a; intro a ha
          refine stepo ha 41 KR ?_; clear ha a; intro a ha
          refine stepo ha 42 KR ?_; clear ha a; intro a ha
          refine stepo ha 43 KR ?_; clear ha a; intro a ha
          refine stepo ha 44 KR ?_; clear ha a; intro a ha
          refine stepo ha 45 KR ?_; clear ha a; intro a ha
          refine stepo ha 46 KR ?_; clear ha a; intro a ha
          refine stepp ha 47 (.bool true) KR KR ?_; clear ha a; intro a ha
          refine endl ?_
          exact thenN ⟨true, h, ha.sub (subs_cons KR (subs_cons KR (subs_cons KR (subs_cons KR (subs_cons KR (subs_cons KR (subs_nil _))))))), HW.pick [] [] (by decide) (by decide) KR KR⟩
        · skip
          replace h := ite_neg' h hp1076
          replace ha := ha.bool 39 KR (decide_eq_false hp1076)
          refine stepp ha 40 (.string a0) KR KR ?_; clear ha a; intro a ha
          refine stepp ha 41 (.int .i64 (a0.size : Int)) KR KR ?_; clear ha a; intro a ha
          refine stepp ha 42 (.int .u64 t1066.1) KR KR ?_; clear ha a; intro a ha
          refine stepp ha 43 (.int .i64 (IntKind.wrap .i64 t1066.1)) KR KR ?_; clear ha a; intro a ha
          refine stepp ha 44 (.int .i64 (IntKind.wrap .i64 (24 * (IntKind.wrap .i64 t1066.1)))) KR KR ?_; clear ha a; intro a ha
          refine stepp ha 45 (.int .i64 (IntKind.wrap .i64 (24 + (IntKind.wrap .i64 (24 * (IntKind.wrap .i64 t1066.1)))))) KR KR ?_; clear ha a; intro a ha
          refine stepp ha 46 (.bool ((a0.size : Int) != (IntKind.wrap .i64 (24 + (IntKind.wrap .i64 (24 * (IntKind.wrap .i64 t1066.1))))))) KR KR ?_; clear ha a; intro a ha
          refine stepp ha 47 (.bool ((a0.size : Int) != (IntKind.wrap .i64 (24 + (IntKind.wrap .i64 (24 * (IntKind.wrap .i64 t1066.1))))))) KR KR ?_; clear ha a; intro a ha
          refine endl ?_
          exact thenN ⟨((a0.size : Int) != (IntKind.wrap .i64 (24 + (IntKind.wrap .i64 (24 * (IntKind.wrap .i64 t1066.1)))))), h, ha.sub (subs_cons KR (subs_cons KR (subs_cons KR (subs_cons KR (subs_cons KR (subs_cons KR (subs_nil _))))))), HW.pick [] [] (by decide) (by decide) KR KR⟩
      · skip
        replace h := ite_neg' h hp1075
        replace ha := ha.bool 35 KR (not_t (bool_f hp1075))
        refine stepo ha 36 KR ?_; clear ha a; intro a ha
        refine stepo ha 37 KR ?_; clear ha a; intro a ha
        refine stepp ha 38 (.bool true) KR KR ?_; clear ha a; intro a ha
        refine stepp ha 39 (.bool true) KR KR ?_; clear ha a; intro a ha
        refine stepo ha 40 KR ?_; clear ha a; intro a ha
        refine stepo ha 41 KR ?_; clear ha a; intro a ha
        refine stepo ha 42 KR ?_; clear ha a; intro a ha
        refine stepo ha 43 KR ?_; clear ha a; intro a ha
        refine stepo ha 44 KR ?_; clear ha a; intro a ha
        refine stepo ha 45 KR ?_; clear ha a; intro a ha
        refine stepo ha 46 KR ?_; clear ha a; intro a ha
        refine stepp ha 47 (.bool true) KR KR ?_; clear ha a; intro a ha
        refine endl ?_
        exact thenN ⟨true, h, ha.sub (subs_cons KR (subs_cons KR (subs_cons KR (subs_cons KR (subs_cons KR (subs_cons KR (subs_nil _))))))), HW.pick [] [] (by decide) (by decide) KR KR⟩
    · skip
      replace h := ite_neg' h hp1074
      replace ha := ha.bool 31 KR (not_t (bool_f hp1074))
      refine stepo ha 32 KR ?_; clear ha a; intro a ha
      refine stepo ha 33 KR ?_; clear ha a; intro a ha
      refine stepp ha 34 (.bool true) KR KR ?_; clear ha a; intro a ha
      refine stepp ha 35 (.bool true) KR KR ?_; clear ha a; intro a ha
      refine stepo ha 36 KR ?_; clear ha a; intro a ha
      refine stepo ha 37 KR ?_; clear ha a; intro a ha
      refine stepp ha 38 (.bool true) KR KR ?_; clear ha a; intro a ha
      refine stepp ha 39 (.bool true) KR KR ?_; clear ha a; intro a ha
      refine stepo ha 40 KR ?_; clear ha a; intro a ha
      refine stepo ha 41 KR ?_; clear ha a; intro a ha
      refine stepo ha 42 KR ?_; clear ha a; intro a ha
      refine stepo ha 43 KR ?_; clear ha a; intro a ha
      refine stepo ha 44 KR ?_; clear ha a; intro a ha
      refine stepo ha 45 KR ?_; clear ha a; intro a ha
      refine stepo ha 46 KR ?_; clear ha a; intro a ha
      refine stepp ha 47 (.bool true) KR KR ?_; clear ha a; intro a ha
      refine endl ?_
      exact thenN ⟨true, h, ha.sub (subs_cons KR (subs_cons KR (subs_cons KR (subs_cons KR (subs_cons KR (subs_cons KR (subs_nil _))))))), HW.pick [] [] (by decide) (by decide) KR KR⟩
  · skip
    intro a W1078 hJ
    obtain ⟨x1077, h, ha, HW⟩ := hJ
    replace h : nresv_Reported.j0 K a0 t1060 t1066 x1077 = some r := h
    unfold nresv_Reported.j0 at h
    refine hK1073 _ _ ?_; clear hK1073
    by_cases hp1079 : x1077 = true
    · skip
      replace h := ite_pos' h hp1079
      refine condT ha KR KR (t := x1077) (hp1079) ?_
      refine wp_seq_k (fun K1080 hK1081 => ?_)
      refine wp_region_lit ?_
      refine stepp ha 48 (.func (.func 43) #[] #[]) KR KR ?_; clear ha a; intro a ha
      obtain ⟨t1082, ht1083, h_⟩ := bind_some' h; clear h; have h := h_; clear h_
      refine stepc ha 49 KR KR (nresv_Reported_1.calls t1082 _ ht1083) ?_; clear ha a; rintro e W1087 ⟨A1084, c1085, rfl, HX1088⟩
      refine ⟨_, rfl, ?_⟩; intro a ha; replace HW := HW.callw HX1088; clear HX1088
      refine stepp ha 50 (.int .u32 t1082.1) KR KR ?_; clear ha a; intro a ha
      refine stepp ha 51 (.int .i64 t1082.2.1) KR KR ?_; clear ha a; intro a ha
      refine stepp ha 52 (.slice A1084 t1082.2.2.1.length c1085) KR KR ?_; clear ha a; intro a ha
      refine stepp ha 53 (.int .i64 t1082.2.2.2.1) KR KR ?_; clear ha a; intro a ha
      refine stepp ha 54 (.int .i64 t1082.2.2.2.2) KR KR ?_; clear ha a; intro a ha
      refine stepp ha 2 (.int .u32 t1082.1) KR KR ?_; clear ha a; intro a ha
      refine stepp ha 3 (.int .i64 t1082.2.1) KR KR ?_; clear ha a; intro a ha
      refine stepp ha 4 (.slice A1084 t1082.2.2.1.length c1085) KR KR ?_; clear ha a; intro a ha
      refine stepp ha 5 (.int .i64 t1082.2.2.2.1) KR KR ?_; clear ha a; intro a ha
      refine stepp ha 6 (.int .i64 t1082.2.2.2.2) KR KR ?_; clear ha a; intro a ha
      refine endl ?_
      refine thenN (hK1081 _ _ ?_); clear hK1081
      refine wp_ret ?_
      refine thenR ?_
      obtain rfl := Option.some.inj h
      exact finv ha _ _ rfl (.tmp (v := .int .u32 t1082.1) KR (.tmp (v := .int .i64 t1082.2.1) KR (.tmp (v := .slice A1084 t1082.2.2.1.length c1085) KR (.tmp (v := .int .i64 t1082.2.2.2.1) KR (.tmp (v := .int .i64 t1082.2.2.2.2) KR .nil))))) (.tuple #[.int .u32 t1082.1, .int .i64 t1082.2.1, .slice A1084 t1082.2.2.1.length c1085, .int .i64 t1082.2.2.2.1, .int .i64 t1082.2.2.2.2]) rfl ⟨A1084, c1085, rfl, HW.pick [] [0] (by decide) (by decide) rfl KR⟩
    · skip
      replace h := ite_neg' h hp1079
      refine condF ha KR KR (t := x1077) (bool_f hp1079) ?_
      refine wp_skip ?_
      refine thenN (hK1071 _ _ ?_); clear hK1071
      refine wp_seq_k (fun K1089 hK1090 => ?_)
      obtain ⟨hA1091, h_⟩ := asrt_some h; clear h; have h := h_; clear h_
      refine regionG 6 KR KR ha HW [.fix (.int .u64 t1060.1), .fix (.int .u32 (IntKind.wrap .u32 t1060.1)), .fix (.string a0), .fix (.int .u8 (bt a0 4)), .fix (.int .i64 (IntKind.wrap .i64 (bt a0 4))), .fix (.int .u32 (IntKind.wrap .u32 t1060.1))] ?_ ?_
      · skip
        refine ⟨?_, ?_, ?_, ?_, ?_, ?_, trivial⟩
        · skip
          intro a wr hn hd HW hs; have ha := hasNil hn hd
          have ha := ha.add (seeE hs 8 (.int .u64 t1060.1) KR KR)
          refine yStep ha 55 KR ?_; intro l_ ha HK
          refine stepp ha 55 (.int .u64 t1060.1) KR KR ?_; intro ax hax; exact HK _ _ _ hax rfl (Below.refl _ _)
        · skip
          intro a wr hn hd HW hs; have ha := hasNil hn hd
          have ha := ha.add (seeF hs 55 0 (.int .u64 t1060.1) KR KR)
          refine yStep ha 56 KR ?_; intro l_ ha HK
          refine stepp ha 56 (.int .u32 (IntKind.wrap .u32 t1060.1)) KR KR ?_; intro ax hax; exact HK _ _ _ hax rfl (Below.refl _ _)
        · skip
          intro a wr hn hd HW hs; have ha := hasNil hn hd
          have ha := ha.add (seeE hs 0 (.string a0) KR KR)
          refine yStep ha 57 KR ?_; intro l_ ha HK
          refine stepp ha 57 (.string a0) KR KR ?_; intro ax hax; exact HK _ _ _ hax rfl (Below.refl _ _)
        · skip
          intro a wr hn hd HW hs; have ha := hasNil hn hd
          have ha := ha.add (seeF hs 57 2 (.string a0) KR KR)
          refine yStep ha 58 KR ?_; intro l_ ha HK
          refine stepsi ha 58 9 (.tmp 57) (.const (.int .i64 4)) a0 .i64 4 rfl KR KR KR (by decide) (show (4 : Int) < ((a0).size : Int) from hA1091) KR ?_; intro ax hax; exact HK _ _ _ hax rfl (Below.refl _ _)
        · skip
          intro a wr hn hd HW hs; have ha := hasNil hn hd
          have ha := ha.add (seeF hs 58 3 (.int .u8 (bt a0 4)) KR KR)
          refine yStep ha 59 KR ?_; intro l_ ha HK
          refine stepp ha 59 (.int .i64 (IntKind.wrap .i64 (bt a0 4))) KR KR ?_; intro ax hax; exact HK _ _ _ hax rfl (Below.refl _ _)
        · skip
          intro a wr hn hd HW hs; have ha := hasNil hn hd
          have ha := ha.add (seeF hs 56 1 (.int .u32 (IntKind.wrap .u32 t1060.1)) KR KR)
          refine yStep ha 2 KR ?_; intro l_ ha HK
          refine stepp ha 2 (.int .u32 (IntKind.wrap .u32 t1060.1)) KR KR ?_; intro ax hax; exact HK _ _ _ hax rfl (Below.refl _ _)
      · skip
        intro a W1092 ha HW he hf
        replace ha := ha.add (he 0 (.string a0) KR KR)
        replace ha := ha.add (gotF (m := 6) (j := 5) (d := 2) (v := .int .u32 (IntKind.wrap .u32 t1060.1)) hf KR KR KR)
        replace ha := ha.add (he 4 (.slice none 0 0) KR KR)
        replace ha := ha.add (he 7 (.func (.func 43) #[] #[]) KR KR)
        replace ha := ha.add (he 10 (.int .u64 t1066.1) KR KR)
        replace ha := ha.add (gotF (m := 6) (j := 4) (d := 59) (v := .int .i64 (IntKind.wrap .i64 (bt a0 4))) hf KR KR KR)
        clear he hf
        refine stepp ha 3 (.int .i64 (IntKind.wrap .i64 (bt a0 4))) KR KR ?_; clear ha a; intro a ha
        refine stepp ha 5 (.int .i64 (-1)) KR KR ?_; clear ha a; intro a ha
        refine endl ?_
        refine thenN (hK1090 _ _ ?_); clear hK1090
        refine wp_seq_k (fun K1093 hK1094 => ?_)
        refine wp_region_lit ?_
        refine stepp ha 60 (.int .u32 (IntKind.wrap .u32 t1060.1)) KR KR ?_; clear ha a; intro a ha
        refine stepp ha 61 (.int .i64 (IntKind.wrap .i64 (bt a0 4))) KR KR ?_; clear ha a; intro a ha
        refine stepp ha 62 (.int .u64 t1066.1) KR KR ?_; clear ha a; intro a ha
        refine stepp ha 63 (.int .i64 (IntKind.wrap .i64 t1066.1)) KR KR ?_; clear ha a; intro a ha
        refine stepp ha 64 (.string a0) KR KR ?_; clear ha a; intro a ha
        obtain ⟨hA1095, h_⟩ := asrt_some h; clear h; have h := h_; clear h_
        refine stepsi ha 65 9 (.tmp 64) (.const (.int .i64 9)) a0 .i64 9 rfl KR KR KR (by decide) (show (9 : Int) < ((a0).size : Int) from hA1095) KR ?_; clear ha a; intro a ha
        refine stepp ha 66 (.int .i64 (IntKind.wrap .i64 (bt a0 9))) KR KR ?_; clear ha a; intro a ha
        obtain ⟨t1096, ht1097, h_⟩ := bind_some' h; clear h; have h := h_; clear h_
        refine stepc ha 67 KR KR (nresv_header.calls K (IntKind.wrap .u32 t1060.1) (IntKind.wrap .i64 (bt a0 4)) (IntKind.wrap .i64 t1066.1) (IntKind.wrap .i64 (bt a0 9)) t1096 _ ht1097) ?_; clear ha a; rintro e W1098 ⟨rfl, HX1099⟩
        refine ⟨_, rfl, ?_⟩; intro a ha; replace HW := HW.callw HX1099; clear HX1099
        refine stepp ha 12 (.string t1096) KR KR ?_; clear ha a; intro a ha
        refine endl ?_
        refine thenN (hK1094 _ _ ?_); clear hK1094
        refine wp_seq_k (fun K1100 hK1101 => ?_)
        refine wp_region_lit ?_
        refine stepp ha 13 (.int .i64 0) KR KR ?_; clear ha a; intro a ha
        refine endl ?_
        refine thenN (hK1101 _ _ ?_); clear hK1101
        refine wp_seq_k (fun K1102 hK1103 => ?_)
        refine wp_seq_k (fun K1104 hK1105 => ?_)
        refine wp_region_lit ?_
        refine stepp ha 68 (.int .u64 t1066.1) KR KR ?_; clear ha a; intro a ha
        refine stepp ha 69 (.int .i64 (IntKind.wrap .i64 t1066.1)) KR KR ?_; clear ha a; intro a ha
        refine stepp ha 70 (.int .i64 0) KR KR ?_; clear ha a; intro a ha
        refine endl ?_
        refine thenN (hK1105 _ _ ?_); clear hK1105
        refine wp_block ?_
        refine loopk (fun k => fun a W1243 => ∃ (x1235 : List T_api_Reg), ∃ A1236, ∃ c1237, ∃ (x1239 : Int), ∃ (x1240 : ByteArray), ∃ (x1241 : Int), ∃ (x1242 : Int), nresv_Reported.l0 K a0 t1060 t1066 k x1235 x1239 x1240 x1241 x1242 = some r ∧ Has 167 [(0, .string a0), (2, .int .u32 (IntKind.wrap .u32 t1060.1)), (3, .int .i64 (IntKind.wrap .i64 (bt a0 4))), (4, .slice A1236 x1235.length c1237), (5, .int .i64 x1239), (7, .func (.func 43) #[] #[]), (10, .int .u64 t1066.1), (12, .string x1240), (13, .int .i64 x1241), (69, .int .i64 (IntKind.wrap .i64 t1066.1)), (70, .int .i64 x1242)] a ∧ Wd w W1243 [] [⟨44, 2, .slice A1236 x1235.length c1237, x1235.length, encs T_api_Reg.enc x1235⟩]) K ?_ ?_
        · skip
          replace HW := HW.nilo 44 2
          exact ⟨([] : List T_api_Reg), none, 0, (-1), t1096, 0, 0, h, ha.sub (subs_cons KR (subs_cons KR (subs_cons KR (subs_cons KR (subs_cons KR (subs_cons KR (subs_cons KR (subs_cons KR (subs_cons KR (subs_cons KR (subs_cons KR (subs_nil _)))))))))))), HW.pick [] [0] (by decide) (by decide) KR KR⟩
        · skip
          intro k a W1243 hI
          obtain ⟨x1235, A1236, c1237, x1239, x1240, x1241, x1242, h, ha, HW⟩ := hI
          cases k with
          | zero => exact (none_some (show none = some r from h)).elim
          | succ k1244 =>
            replace h : nresv_Reported.b0 K a0 t1060 t1066 (nresv_Reported.l0 K a0 t1060 t1066 k1244) x1235 x1239 x1240 x1241 x1242 = some r := h
            obtain ⟨again1234, hag1245⟩ : ∃ g_, g_ = nresv_Reported.l0 K a0 t1060 t1066 k1244 := ⟨_, rfl⟩
            rw [← hag1245] at h
            unfold nresv_Reported.b0 at h
            refine wp_seq_k (fun K1246 hK1247 => ?_)
            refine wp_region_lit ?_
            refine stepp ha 71 (.bool (decide (x1242 < (IntKind.wrap .i64 t1066.1)))) KR KR ?_; clear ha a; intro a ha
            refine endl ?_
            refine thenN (hK1247 _ _ ?_); clear hK1247
            refine wp_seq_k (fun K1248 hK1249 => ?_)
            by_cases hp1250 : x1242 < (IntKind.wrap .i64 t1066.1)
            · skip
              replace h := ite_pos' h hp1250
              refine condT ha KR KR (t := decide (x1242 < (IntKind.wrap .i64 t1066.1))) (decide_eq_true hp1250) ?_
              refine wp_skip ?_
              refine thenN (hK1249 _ _ ?_); clear hK1249
              refine wp_seq_k (fun K1251 hK1252 => ?_)
              refine wp_block ?_
              refine wp_seq_k (fun K1253 hK1254 => ?_)
              refine wp_region_lit ?_
              refine stepp ha 72 (.int .i64 x1242) KR KR ?_; clear ha a; intro a ha
              refine stepp ha 14 (.int .i64 x1242) KR KR ?_; clear ha a; intro a ha
              refine endl ?_
              refine thenN (hK1254 _ _ ?_); clear hK1254
              refine wp_seq_k (fun K1255 hK1256 => ?_)
              refine wp_region_lit ?_
              refine stepp ha 74 (.string a0) KR KR ?_; clear ha a; intro a ha
              refine stepp ha 75 (.int .i64 x1242) KR KR ?_; clear ha a; intro a ha
              refine stepp ha 76 (.int .i64 (IntKind.wrap .i64 (24 * x1242))) KR KR ?_; clear ha a; intro a ha
              refine stepp ha 77 (.int .i64 (IntKind.wrap .i64 (24 + (IntKind.wrap .i64 (24 * x1242))))) KR KR ?_; clear ha a; intro a ha
              refine stepp ha 78 (.int .i64 (IntKind.wrap .i64 ((IntKind.wrap .i64 (24 + (IntKind.wrap .i64 (24 * x1242)))) + 16))) KR KR ?_; clear ha a; intro a ha
              obtain ⟨t1257, ht1258, h_⟩ := bind_some' h; clear h; have h := h_; clear h_
              refine stepc ha 79 KR KR (fields_Little.calls K a0 (IntKind.wrap .i64 ((IntKind.wrap .i64 (24 + (IntKind.wrap .i64 (24 * x1242)))) + 16)) 8 t1257 _ ht1258) ?_; clear ha a; rintro e W1259 ⟨rfl, HX1260⟩
              refine ⟨_, rfl, ?_⟩; intro a ha; replace HW := HW.callw HX1260; clear HX1260
              refine stepp ha 73 (.tuple #[.int .u64 t1257.1, .bool t1257.2]) KR KR ?_; clear ha a; intro a ha
              refine stepp ha 80 (.int .u64 t1257.1) KR KR ?_; clear ha a; intro a ha
              refine stepp ha 81 (.bool t1257.2) KR KR ?_; clear ha a; intro a ha
              refine stepp ha 15 (.int .u64 t1257.1) KR KR ?_; clear ha a; intro a ha
              refine stepp ha 16 (.bool t1257.2) KR KR ?_; clear ha a; intro a ha
              refine endl ?_
              refine thenN (hK1256 _ _ ?_); clear hK1256
              refine wp_seq_k (fun K1261 hK1262 => ?_)
              refine wp_region_lit ?_
              refine stepp ha 82 (.string a0) KR KR ?_; clear ha a; intro a ha
              refine stepp ha 83 (.int .i64 x1242) KR KR ?_; clear ha a; intro a ha
              refine stepp ha 84 (.int .i64 (IntKind.wrap .i64 (24 * x1242))) KR KR ?_; clear ha a; intro a ha
              refine stepp ha 85 (.int .i64 (IntKind.wrap .i64 (24 + (IntKind.wrap .i64 (24 * x1242))))) KR KR ?_; clear ha a; intro a ha
              refine stepp ha 86 (.int .i64 (IntKind.wrap .i64 ((IntKind.wrap .i64 (24 + (IntKind.wrap .i64 (24 * x1242)))) + 2))) KR KR ?_; clear ha a; intro a ha
              obtain ⟨hA1263, h_⟩ := asrt_some h; clear h; have h := h_; clear h_
              obtain ⟨hA1264, h_⟩ := asrt_some h; clear h; have h := h_; clear h_
              refine stepsi ha 87 9 (.tmp 82) (.tmp 86) a0 .i64 (IntKind.wrap .i64 ((IntKind.wrap .i64 (24 + (IntKind.wrap .i64 (24 * x1242)))) + 2)) rfl KR KR KR hA1263 (show (IntKind.wrap .i64 ((IntKind.wrap .i64 (24 + (IntKind.wrap .i64 (24 * x1242)))) + 2) : Int) < ((a0).size : Int) from hA1264) KR ?_; clear ha a; intro a ha
              refine stepp ha 88 (.int .i64 (IntKind.wrap .i64 (bt a0 (IntKind.wrap .i64 ((IntKind.wrap .i64 (24 + (IntKind.wrap .i64 (24 * x1242)))) + 2))))) KR KR ?_; clear ha a; intro a ha
              refine stepp ha 17 (.int .i64 (IntKind.wrap .i64 (bt a0 (IntKind.wrap .i64 ((IntKind.wrap .i64 (24 + (IntKind.wrap .i64 (24 * x1242)))) + 2))))) KR KR ?_; clear ha a; intro a ha
              refine endl ?_
              refine thenN (hK1262 _ _ ?_); clear hK1262
              refine wp_seq_k (fun K1265 hK1266 => ?_)
              refine cutn (fun a W1273 => ∃ (x1272 : Int), nresv_Reported.j1 K a0 again1234 x1235 x1240 x1241 x1242 t1257 x1272 = some r ∧ Has 167 [(0, .string a0), (2, .int .u32 (IntKind.wrap .u32 t1060.1)), (3, .int .i64 (IntKind.wrap .i64 (bt a0 4))), (4, .slice A1236 x1235.length c1237), (5, .int .i64 x1272), (7, .func (.func 43) #[] #[]), (10, .int .u64 t1066.1), (12, .string x1240), (13, .int .i64 x1241), (14, .int .i64 x1242), (15, .int .u64 t1257.1), (17, .int .i64 (IntKind.wrap .i64 (bt a0 (IntKind.wrap .i64 ((IntKind.wrap .i64 (24 + (IntKind.wrap .i64 (24 * x1242)))) + 2))))), (69, .int .i64 (IntKind.wrap .i64 t1066.1)), (70, .int .i64 x1242)] a ∧ Wd w W1273 [] [⟨44, 2, .slice A1236 x1235.length c1237, x1235.length, encs T_api_Reg.enc x1235⟩]) ?_ ?_
              · skip
                refine wp_seq_k (fun K1267 hK1268 => ?_)
                refine wp_region_lit ?_
                refine stepp ha 89 (.int .i64 (IntKind.wrap .i64 (bt a0 (IntKind.wrap .i64 ((IntKind.wrap .i64 (24 + (IntKind.wrap .i64 (24 * x1242)))) + 2))))) KR KR ?_; clear ha a; intro a ha
                refine stepp ha 90 (.bool (decide ((IntKind.wrap .i64 (bt a0 (IntKind.wrap .i64 ((IntKind.wrap .i64 (24 + (IntKind.wrap .i64 (24 * x1242)))) + 2)))) > 0))) KR KR ?_; clear ha a; intro a ha
                refine stepp ha 91 (.bool (decide ((IntKind.wrap .i64 (bt a0 (IntKind.wrap .i64 ((IntKind.wrap .i64 (24 + (IntKind.wrap .i64 (24 * x1242)))) + 2)))) > 0))) KR KR ?_; clear ha a; intro a ha
                by_cases hp1269 : (IntKind.wrap .i64 (bt a0 (IntKind.wrap .i64 ((IntKind.wrap .i64 (24 + (IntKind.wrap .i64 (24 * x1242)))) + 2)))) > 0
                · skip
                  replace h := ite_pos' h hp1269
                  replace ha := ha.bool 91 KR (decide_eq_true hp1269)
                  refine stepp ha 92 (.int .i64 x1239) KR KR ?_; clear ha a; intro a ha
                  refine stepp ha 93 (.bool (decide (x1239 < 0))) KR KR ?_; clear ha a; intro a ha
                  refine stepp ha 94 (.bool (decide (x1239 < 0))) KR KR ?_; clear ha a; intro a ha
                  refine endl ?_
                  refine thenN (hK1268 _ _ ?_); clear hK1268
                  by_cases hp1270 : x1239 < 0
                  · skip
                    replace h := ite_pos' h hp1270
                    refine condT ha KR KR (t := decide (x1239 < 0)) (decide_eq_true hp1270) ?_
                    refine wp_region_lit ?_
                    refine stepp ha 95 (.int .i64 x1242) KR KR ?_; clear ha a; intro a ha
                    refine stepp ha 5 (.int .i64 x1242) KR KR ?_; clear ha a; intro a ha
                    refine endl ?_
                    exact thenN ⟨x1242, h, ha.sub (subs_cons KR (subs_cons KR (subs_cons KR (subs_cons KR (subs_cons KR (subs_cons KR (subs_cons KR (subs_cons KR (subs_cons KR (subs_cons KR (subs_cons KR (subs_cons KR (subs_cons KR (subs_cons KR (subs_nil _))))))))))))))), HW.pick [] [0] (by decide) (by decide) KR KR⟩
                  · skip
                    replace h := ite_neg' h hp1270
                    refine condF ha KR KR (t := decide (x1239 < 0)) (decide_eq_false hp1270) ?_
                    refine wp_skip ?_
                    exact thenN ⟨x1239, h, ha.sub (subs_cons KR (subs_cons KR (subs_cons KR (subs_cons KR (subs_cons KR (subs_cons KR (subs_cons KR (subs_cons KR (subs_cons KR (subs_cons KR (subs_cons KR (subs_cons KR (subs_cons KR (subs_cons KR (subs_nil _))))))))))))))), HW.pick [] [0] (by decide) (by decide) KR KR⟩
                · skip
                  replace h := ite_neg' h hp1269
                  replace ha := ha.bool 91 KR (decide_eq_false hp1269)
                  refine stepo ha 92 KR ?_; clear ha a; intro a ha
                  refine stepo ha 93 KR ?_; clear ha a; intro a ha
                  refine stepp ha 94 (.bool false) KR KR ?_; clear ha a; intro a ha
                  refine endl ?_
                  refine thenN (hK1268 _ _ ?_); clear hK1268
                  refine condF ha KR KR (t := false) (rfl) ?_
                  refine wp_skip ?_
                  exact thenN ⟨x1239, h, ha.sub (subs_cons KR (subs_cons KR (subs_cons KR (subs_cons KR (subs_cons KR (subs_cons KR (subs_cons KR (subs_cons KR (subs_cons KR (subs_cons KR (subs_cons KR (subs_cons KR (subs_cons KR (subs_cons KR (subs_nil _))))))))))))))), HW.pick [] [0] (by decide) (by decide) KR KR⟩
              · skip
                intro a W1273 hJ
                obtain ⟨x1272, h, ha, HW⟩ := hJ
                replace h : nresv_Reported.j1 K a0 again1234 x1235 x1240 x1241 x1242 t1257 x1272 = some r := h
                unfold nresv_Reported.j1 at h
                refine hK1266 _ _ ?_; clear hK1266
                refine wp_seq_k (fun K1274 hK1275 => ?_)
                refine wp_region_lit ?_
                refine stepp ha 96 (.int .i64 x1241) KR KR ?_; clear ha a; intro a ha
                refine stepp ha 97 (.int .i64 (IntKind.wrap .i64 (bt a0 (IntKind.wrap .i64 ((IntKind.wrap .i64 (24 + (IntKind.wrap .i64 (24 * x1242)))) + 2))))) KR KR ?_; clear ha a; intro a ha
                refine stepmn ha 98 #[3, 3] (.tmp 97) (.const (.int .i64 2)) .i64 (IntKind.wrap .i64 (bt a0 (IntKind.wrap .i64 ((IntKind.wrap .i64 (24 + (IntKind.wrap .i64 (24 * x1242)))) + 2)))) 2 rfl KR KR KR ?_; clear ha a; intro a ha
                refine stepp ha 99 (.int .i64 (IntKind.wrap .i64 (x1241 + (mn (IntKind.wrap .i64 (bt a0 (IntKind.wrap .i64 ((IntKind.wrap .i64 (24 + (IntKind.wrap .i64 (24 * x1242)))) + 2)))) 2)))) KR KR ?_; clear ha a; intro a ha
                refine stepp ha 13 (.int .i64 (IntKind.wrap .i64 (x1241 + (mn (IntKind.wrap .i64 (bt a0 (IntKind.wrap .i64 ((IntKind.wrap .i64 (24 + (IntKind.wrap .i64 (24 * x1242)))) + 2)))) 2)))) KR KR ?_; clear ha a; intro a ha
                refine endl ?_
                refine thenN (hK1275 _ _ ?_); clear hK1275
                refine wp_seq_k (fun K1276 hK1277 => ?_)
                refine wp_region_lit ?_
                refine stepp ha 100 (.slice A1236 x1235.length c1237) KR KR ?_; clear ha a; intro a ha
                refine stepp ha 101 (.int .u64 t1257.1) KR KR ?_; clear ha a; intro a ha
                refine stepp ha 102 (.agg #[.string (⟨#[]⟩ : ByteArray), .int .u64 t1257.1]) KR KR ?_; clear ha a; intro a ha
                refine stepbs ha HW 103 44 2 1 #[.string (⟨#[]⟩ : ByteArray), .int .u64 t1257.1] [.string (⟨#[]⟩ : ByteArray), .int .u64 t1257.1] (by decide) KR KR KR KR ?_; clear ha HW a; intro b1278 a W1279 HW ha
                replace HW : Wd w W1279 [] [⟨44, 2, .slice (some ⟨b1278, 0, none⟩) ([(⟨(⟨#[]⟩ : ByteArray), t1257.1⟩ : T_api_Reg)] : List T_api_Reg).length 1, ([(⟨(⟨#[]⟩ : ByteArray), t1257.1⟩ : T_api_Reg)] : List T_api_Reg).length, encs T_api_Reg.enc ([(⟨(⟨#[]⟩ : ByteArray), t1257.1⟩ : T_api_Reg)] : List T_api_Reg)⟩, ⟨44, 2, .slice A1236 x1235.length c1237, x1235.length, encs T_api_Reg.enc x1235⟩] := HW
                replace ha := ha.turn 103 (v := .slice (some ⟨b1278, 0, none⟩) ([(⟨(⟨#[]⟩ : ByteArray), t1257.1⟩ : T_api_Reg)] : List T_api_Reg).length 1) KR rfl
                obtain ⟨hA1281, h_⟩ := asrt_some h; clear h; have h := h_; clear h_
                refine stepape T_api_Reg.enc ha HW 104 1 22 44 (.tmp 100) (.tmp 103) (.agg #[.string (⟨#[]⟩ : ByteArray), .int .u64 0]) 2 24 (.slice A1236 x1235.length c1237) x1235 (.slice (some ⟨b1278, 0, none⟩) ([(⟨(⟨#[]⟩ : ByteArray), t1257.1⟩ : T_api_Reg)] : List T_api_Reg).length 1) ([(⟨(⟨#[]⟩ : ByteArray), t1257.1⟩ : T_api_Reg)] : List T_api_Reg) KR rfl KR KR (HW.rdo (i := 0) (q := ⟨44, 2, .slice (some ⟨b1278, 0, none⟩) ([(⟨(⟨#[]⟩ : ByteArray), t1257.1⟩ : T_api_Reg)] : List T_api_Reg).length 1, ([(⟨(⟨#[]⟩ : ByteArray), t1257.1⟩ : T_api_Reg)] : List T_api_Reg).length, encs T_api_Reg.enc ([(⟨(⟨#[]⟩ : ByteArray), t1257.1⟩ : T_api_Reg)] : List T_api_Reg)⟩) KR) (fun _ => rfl) KR KR KR (by decide) (by have := hA1281; unfold maxLen; omega) (by have := hA1281; omega) KR ?_; clear ha HW a; intro A1282 c1283 a W1284 HW ha
                refine stepp ha 4 (.slice A1282 (x1235 ++ ([(⟨(⟨#[]⟩ : ByteArray), t1257.1⟩ : T_api_Reg)] : List T_api_Reg)).length c1283) KR KR ?_; clear ha a; intro a ha
                refine endl ?_
                refine thenN (hK1277 _ _ ?_); clear hK1277
                refine wp_seq_k (fun K1287 hK1288 => ?_)
                refine wp_region_lit ?_
                refine stepp ha 105 (.string x1240) KR KR ?_; clear ha a; intro a ha
                refine stepp ha 106 (.int .i64 x1242) KR KR ?_; clear ha a; intro a ha
                refine stepp ha 107 (.int .i64 (IntKind.wrap .i64 (x1242 + 1))) KR KR ?_; clear ha a; intro a ha
                refine stepp ha 108 (.int .i64 (IntKind.wrap .i64 (bt a0 (IntKind.wrap .i64 ((IntKind.wrap .i64 (24 + (IntKind.wrap .i64 (24 * x1242)))) + 2))))) KR KR ?_; clear ha a; intro a ha
                refine stepp ha 109 (.int .u64 t1257.1) KR KR ?_; clear ha a; intro a ha
                obtain ⟨t1289, ht1290, h_⟩ := bind_some' h; clear h; have h := h_; clear h_
                refine stepc ha 110 KR KR (nresv_entry.calls K (IntKind.wrap .i64 (x1242 + 1)) (IntKind.wrap .i64 (bt a0 (IntKind.wrap .i64 ((IntKind.wrap .i64 (24 + (IntKind.wrap .i64 (24 * x1242)))) + 2)))) t1257.1 t1289 _ ht1290) ?_; clear ha a; rintro e W1291 ⟨rfl, HX1292⟩
                refine ⟨_, rfl, ?_⟩; intro a ha; replace HW := HW.callw HX1292; clear HX1292
                obtain ⟨hA1293, h_⟩ := asrt_some h; clear h; have h := h_; clear h_
                refine stepsa ha 111 9 9 (.tmp 105) (.tmp 110) x1240 t1289 rfl KR KR (show (x1240).size + (t1289).size ≤ 9223372036854775807 from hA1293) KR ?_; clear ha a; intro a ha
                refine stepp ha 12 (.string (x1240 ++ t1289)) KR KR ?_; clear ha a; intro a ha
                refine endl ?_
                refine thenN (hK1288 _ _ ?_); clear hK1288
                refine wp_seq_k (fun K1294 hK1295 => ?_)
                refine wp_region_lit ?_
                refine stepp ha 112 (.int .i64 (IntKind.wrap .i64 (bt a0 (IntKind.wrap .i64 ((IntKind.wrap .i64 (24 + (IntKind.wrap .i64 (24 * x1242)))) + 2))))) KR KR ?_; clear ha a; intro a ha
                refine stepp ha 113 (.bool (decide ((IntKind.wrap .i64 (bt a0 (IntKind.wrap .i64 ((IntKind.wrap .i64 (24 + (IntKind.wrap .i64 (24 * x1242)))) + 2)))) > 1))) KR KR ?_; clear ha a; intro a ha
                refine endl ?_
                refine thenN (hK1295 _ _ ?_); clear hK1295
                by_cases hp1296 : (IntKind.wrap .i64 (bt a0 (IntKind.wrap .i64 ((IntKind.wrap .i64 (24 + (IntKind.wrap .i64 (24 * x1242)))) + 2)))) > 1
                · skip
                  replace h := ite_pos' h hp1296
                  refine condT ha KR KR (t := decide ((IntKind.wrap .i64 (bt a0 (IntKind.wrap .i64 ((IntKind.wrap .i64 (24 + (IntKind.wrap .i64 (24 * x1242)))) + 2)))) > 1)) (decide_eq_true hp1296) ?_
                  refine wp_seq_k (fun K1297 hK1298 => ?_)
                  refine wp_region_lit ?_
                  refine stepp ha 114 (.func (.func 43) #[] #[]) KR KR ?_; clear ha a; intro a ha
                  obtain ⟨t1299, ht1300, h_⟩ := bind_some' h; clear h; have h := h_; clear h_
                  refine stepc ha 115 KR KR (nresv_Reported_1.calls t1299 _ ht1300) ?_; clear ha a; rintro e W1304 ⟨A1301, c1302, rfl, HX1305⟩
                  refine ⟨_, rfl, ?_⟩; intro a ha; replace HW := HW.callw HX1305; clear HX1305
                  refine stepp ha 116 (.int .u32 t1299.1) KR KR ?_; clear ha a; intro a ha
                  refine stepp ha 117 (.int .i64 t1299.2.1) KR KR ?_; clear ha a; intro a ha
                  refine stepp ha 118 (.slice A1301 t1299.2.2.1.length c1302) KR KR ?_; clear ha a; intro a ha
                  refine stepp ha 119 (.int .i64 t1299.2.2.2.1) KR KR ?_; clear ha a; intro a ha
                  refine stepp ha 120 (.int .i64 t1299.2.2.2.2) KR KR ?_; clear ha a; intro a ha
                  refine stepp ha 2 (.int .u32 t1299.1) KR KR ?_; clear ha a; intro a ha
                  refine stepp ha 3 (.int .i64 t1299.2.1) KR KR ?_; clear ha a; intro a ha
                  refine stepp ha 4 (.slice A1301 t1299.2.2.1.length c1302) KR KR ?_; clear ha a; intro a ha
                  refine stepp ha 5 (.int .i64 t1299.2.2.2.1) KR KR ?_; clear ha a; intro a ha
                  refine stepp ha 6 (.int .i64 t1299.2.2.2.2) KR KR ?_; clear ha a; intro a ha
                  refine endl ?_
                  refine thenN (hK1298 _ _ ?_); clear hK1298
                  refine wp_ret ?_
                  refine blkR ?_
                  refine thenR ?_
                  refine thenR ?_
                  refine blkR ?_
                  refine thenR ?_
                  obtain rfl := Option.some.inj h
                  exact finv ha _ _ rfl (.tmp (v := .int .u32 t1299.1) KR (.tmp (v := .int .i64 t1299.2.1) KR (.tmp (v := .slice A1301 t1299.2.2.1.length c1302) KR (.tmp (v := .int .i64 t1299.2.2.2.1) KR (.tmp (v := .int .i64 t1299.2.2.2.2) KR .nil))))) (.tuple #[.int .u32 t1299.1, .int .i64 t1299.2.1, .slice A1301 t1299.2.2.1.length c1302, .int .i64 t1299.2.2.2.1, .int .i64 t1299.2.2.2.2]) rfl ⟨A1301, c1302, rfl, HW.pick [] [0] (by decide) (by decide) rfl KR⟩
                · skip
                  replace h := ite_neg' h hp1296
                  refine condF ha KR KR (t := decide ((IntKind.wrap .i64 (bt a0 (IntKind.wrap .i64 ((IntKind.wrap .i64 (24 + (IntKind.wrap .i64 (24 * x1242)))) + 2)))) > 1)) (decide_eq_false hp1296) ?_
                  refine wp_skip ?_
                  refine blkN ?_
                  refine thenN (hK1252 _ _ ?_); clear hK1252
                  refine wp_region_lit ?_
                  refine stepp ha 121 (.int .i64 (IntKind.wrap .i64 (x1242 + 1))) KR KR ?_; clear ha a; intro a ha
                  refine stepp ha 70 (.int .i64 (IntKind.wrap .i64 (x1242 + 1))) KR KR ?_; clear ha a; intro a ha
                  refine endl ?_
                  exact thenN ⟨k1244, Nat.lt_succ_self k1244, x1235 ++ ([(⟨(⟨#[]⟩ : ByteArray), t1257.1⟩ : T_api_Reg)] : List T_api_Reg), A1282, c1283, x1272, x1240 ++ t1289, IntKind.wrap .i64 (x1241 + (mn (IntKind.wrap .i64 (bt a0 (IntKind.wrap .i64 ((IntKind.wrap .i64 (24 + (IntKind.wrap .i64 (24 * x1242)))) + 2)))) 2)), IntKind.wrap .i64 (x1242 + 1), (by rw [← hag1245]; exact h), ha.sub (subs_cons KR (subs_cons KR (subs_cons KR (subs_cons KR (subs_cons KR (subs_cons KR (subs_cons KR (subs_cons KR (subs_cons KR (subs_cons KR (subs_cons KR (subs_nil _)))))))))))), HW.pick [] [1] (by decide) (by decide) KR KR⟩
            · skip
              replace h := ite_neg' h hp1250
              refine condF ha KR KR (t := decide (x1242 < (IntKind.wrap .i64 t1066.1))) (decide_eq_false hp1250) ?_
              refine wp_exit ?_
              refine thenE ?_
              refine thenE ?_
              refine inBlk ?_
              refine thenN (hK1103 _ _ ?_); clear hK1103
              refine wp_seq_k (fun K1306 hK1307 => ?_)
              refine wp_region_lit ?_
              refine stepp ha 122 (.int .u64 t1066.1) KR KR ?_; clear ha a; intro a ha
              refine stepp ha 123 (.int .i64 (IntKind.wrap .i64 t1066.1)) KR KR ?_; clear ha a; intro a ha
              refine stepp ha 124 (.int .u64 t1066.1) KR KR ?_; clear ha a; intro a ha
              refine stepp ha 125 (.int .i64 (IntKind.wrap .i64 t1066.1)) KR KR ?_; clear ha a; intro a ha
              refine stepp ha 126 (.agg #[.int .i64 0, .int .i64 1, .int .i64 1, .int .i64 1, .int .i64 1, .int .i64 (IntKind.wrap .i64 t1066.1), .int .i64 (IntKind.wrap .i64 t1066.1)]) KR KR ?_; clear ha a; intro a ha
              refine stepnew ha HW 18 #[.int .i64 0, .int .i64 0, .int .i64 0, .int .i64 0, .int .i64 0, .int .i64 0, .int .i64 0] 96 KR KR ?_; clear ha HW a; intro b1308 a W1309 HW ha
              refine stepst ha HW 0 (b := b1308) (C := #[.int .i64 0, .int .i64 0, .int .i64 0, .int .i64 0, .int .i64 0, .int .i64 0, .int .i64 0]) (T := 96) KR 96 0 (.tmp 18) (.tmp 126) (.agg #[.int .i64 0, .int .i64 1, .int .i64 1, .int .i64 1, .int .i64 1, .int .i64 (IntKind.wrap .i64 t1066.1), .int .i64 (IntKind.wrap .i64 t1066.1)]) #[.int .i64 0, .int .i64 1, .int .i64 1, .int .i64 1, .int .i64 1, .int .i64 (IntKind.wrap .i64 t1066.1), .int .i64 (IntKind.wrap .i64 t1066.1)] rfl KR KR KR KR KR KR KR ?_; clear ha HW a; intro a W1310 HW ha
              refine endl ?_
              refine thenN (hK1307 _ _ ?_); clear hK1307
              refine wp_seq_k (fun K1311 hK1312 => ?_)
              refine wp_seq_k (fun K1313 hK1314 => ?_)
              refine cutn (fun a W1324 => ∃ (x1323 : Bool), nresv_Reported.j2 K a0 t1060 x1235 x1239 x1323 = some r ∧ Has 167 [(2, .int .u32 (IntKind.wrap .u32 t1060.1)), (3, .int .i64 (IntKind.wrap .i64 (bt a0 4))), (4, .slice A1236 x1235.length c1237), (5, .int .i64 x1239), (7, .func (.func 43) #[] #[]), (155, .bool x1323)] a ∧ Wd w W1324 [] [⟨44, 2, .slice A1236 x1235.length c1237, x1235.length, encs T_api_Reg.enc x1235⟩]) ?_ ?_
              · skip
                refine wp_region_lit ?_
                refine stepp ha 127 (.string x1240) KR KR ?_; clear ha a; intro a ha
                refine stepp ha 128 (.string a0) KR KR ?_; clear ha a; intro a ha
                refine stepp ha 129 (.bool (!(x1240.toList == a0.toList))) KR KR ?_; clear ha a; intro a ha
                refine stepp ha 130 (.bool (!(x1240.toList == a0.toList))) KR KR ?_; clear ha a; intro a ha
                by_cases hp1315 : x1240 = a0
                · skip
                  replace h := ite_pos' h hp1315
                  replace ha := ha.bool 130 KR (str_ne_f hp1315)
                  refine stepp ha 131 (.string a0) KR KR ?_; clear ha a; intro a ha
                  refine stepsi ha 132 9 (.tmp 131) (.const (.int .i64 9)) a0 .i64 9 rfl KR KR KR (by decide) (show (9 : Int) < ((a0).size : Int) from hA1095) KR ?_; clear ha a; intro a ha
                  refine stepp ha 133 (.bool (decide ((bt a0 9) > 1))) KR KR ?_; clear ha a; intro a ha
                  refine stepp ha 134 (.bool (decide ((bt a0 9) > 1))) KR KR ?_; clear ha a; intro a ha
                  refine stepp ha 135 (.bool (decide ((bt a0 9) > 1))) KR KR ?_; clear ha a; intro a ha
                  by_cases hp1316 : (bt a0 9) > 1
                  · skip
                    replace h := ite_pos' h hp1316
                    replace ha := ha.bool 135 KR (decide_eq_true hp1316)
                    refine stepo ha 136 KR ?_; clear ha a; intro a ha
                    refine stepo ha 137 KR ?_; clear ha a; intro a ha
                    refine stepp ha 138 (.bool true) KR KR ?_; clear ha a; intro a ha
                    refine stepp ha 139 (.bool true) KR KR ?_; clear ha a; intro a ha
                    refine stepo ha 140 KR ?_; clear ha a; intro a ha
                    refine stepo ha 141 KR ?_; clear ha a; intro a ha
                    refine stepo ha 142 KR ?_; clear ha a; intro a ha
                    refine stepo ha 143 KR ?_; clear ha a; intro a ha
                    refine stepo ha 144 KR ?_; clear ha a; intro a ha
                    refine stepp ha 145 (.bool true) KR KR ?_; clear ha a; intro a ha
                    refine stepp ha 146 (.bool true) KR KR ?_; clear ha a; intro a ha
                    refine stepo ha 147 KR ?_; clear ha a; intro a ha
                    refine stepo ha 148 KR ?_; clear ha a; intro a ha
                    refine stepo ha 149 KR ?_; clear ha a; intro a ha
                    refine stepo ha 150 KR ?_; clear ha a; intro a ha
                    refine stepo ha 151 KR ?_; clear ha a; intro a ha
                    refine stepo ha 152 KR ?_; clear ha a; intro a ha
                    refine stepo ha 153 KR ?_; clear ha a; intro a ha
                    refine stepo ha 154 KR ?_; clear ha a; intro a ha
                    refine stepp ha 155 (.bool true) KR KR ?_; clear ha a; intro a ha
                    refine endl ?_
                    exact thenN ⟨true, h, ha.sub (subs_cons KR (subs_cons KR (subs_cons KR (subs_cons KR (subs_cons KR (subs_cons KR (subs_nil _))))))), HW.pick [] [0] (by decide) (by decide) KR KR⟩
                  · skip
                    replace h := ite_neg' h hp1316
                    replace ha := ha.bool 135 KR (decide_eq_false hp1316)
                    refine stepp ha 136 (.int .i64 (IntKind.wrap .i64 (bt a0 4))) KR KR ?_; clear ha a; intro a ha
                    refine stepp ha 137 (.bool (decide ((IntKind.wrap .i64 (bt a0 4)) > 6))) KR KR ?_; clear ha a; intro a ha
                    refine stepp ha 138 (.bool (decide ((IntKind.wrap .i64 (bt a0 4)) > 6))) KR KR ?_; clear ha a; intro a ha
                    refine stepp ha 139 (.bool (decide ((IntKind.wrap .i64 (bt a0 4)) > 6))) KR KR ?_; clear ha a; intro a ha
                    by_cases hp1317 : (IntKind.wrap .i64 (bt a0 4)) > 6
                    · skip
                      replace h := ite_pos' h hp1317
                      replace ha := ha.bool 139 KR (decide_eq_true hp1317)
                      refine stepo ha 140 KR ?_; clear ha a; intro a ha
                      refine stepo ha 141 KR ?_; clear ha a; intro a ha
                      refine stepo ha 142 KR ?_; clear ha a; intro a ha
                      refine stepo ha 143 KR ?_; clear ha a; intro a ha
                      refine stepo ha 144 KR ?_; clear ha a; intro a ha
                      refine stepp ha 145 (.bool true) KR KR ?_; clear ha a; intro a ha
                      refine stepp ha 146 (.bool true) KR KR ?_; clear ha a; intro a ha
                      refine stepo ha 147 KR ?_; clear ha a; intro a ha
                      refine stepo ha 148 KR ?_; clear ha a; intro a ha
                      refine stepo ha 149 KR ?_; clear ha a; intro a ha
                      refine stepo ha 150 KR ?_; clear ha a; intro a ha
                      refine stepo ha 151 KR ?_; clear ha a; intro a ha
                      refine stepo ha 152 KR ?_; clear ha a; intro a ha
                      refine stepo ha 153 KR ?_; clear ha a; intro a ha
                      refine stepo ha 154 KR ?_; clear ha a; intro a ha
                      refine stepp ha 155 (.bool true) KR KR ?_; clear ha a; intro a ha
                      refine endl ?_
                      exact thenN ⟨true, h, ha.sub (subs_cons KR (subs_cons KR (subs_cons KR (subs_cons KR (subs_cons KR (subs_cons KR (subs_nil _))))))), HW.pick [] [0] (by decide) (by decide) KR KR⟩
                    · skip
                      replace h := ite_neg' h hp1317
                      replace ha := ha.bool 139 KR (decide_eq_false hp1317)
                      refine stepp ha 140 (.int .i64 x1241) KR KR ?_; clear ha a; intro a ha
                      refine stepp ha 141 (.int .i64 (IntKind.wrap .i64 (bt a0 4))) KR KR ?_; clear ha a; intro a ha
                      obtain ⟨hA1318, h_⟩ := asrt_some h; clear h; have h := h_; clear h_
                      obtain ⟨hA1319, h_⟩ := asrt_some h; clear h; have h := h_; clear h_
                      refine stepiw ha 142 (sz := 1) b1308 0 96 7 3 (.tmp 18) (.tmp 141) .i64 (IntKind.wrap .i64 (bt a0 4)) rfl KR KR KR KR hA1318 hA1319 KR ?_; clear ha a; intro a ha
                      refine stepl ha 143 (CA.el (encI .i64) (0 : Int) (fun _ => rfl) (CA.part (off := 0) (HW.ca (i := 0) (b := b1308) (C := #[.int .i64 0, .int .i64 1, .int .i64 1, .int .i64 1, .int .i64 1, .int .i64 (IntKind.wrap .i64 t1066.1), .int .i64 (IntKind.wrap .i64 t1066.1)]) (T := 96) (fr := (0, 0)) KR) [.int .i64 0, .int .i64 1, .int .i64 1, .int .i64 1, .int .i64 1, .int .i64 (IntKind.wrap .i64 t1066.1), .int .i64 (IntKind.wrap .i64 t1066.1)] KR) ([0, 1, 1, 1, 1, IntKind.wrap .i64 t1066.1, IntKind.wrap .i64 t1066.1] : List Int) KR (len := 7) rfl hA1318 hA1319) 3 0 (.tmp 142) (.int .i64 (rdL (0 : Int) ([0, 1, 1, 1, 1, IntKind.wrap .i64 t1066.1, IntKind.wrap .i64 t1066.1] : List Int) (IntKind.wrap .i64 (bt a0 4)))) rfl KR KR KR ?_; clear ha a; intro a ha
                      refine stepp ha 144 (.bool (decide (x1241 > (rdL (0 : Int) ([0, 1, 1, 1, 1, IntKind.wrap .i64 t1066.1, IntKind.wrap .i64 t1066.1] : List Int) (IntKind.wrap .i64 (bt a0 4)))))) KR KR ?_; clear ha a; intro a ha
                      refine stepp ha 145 (.bool (decide (x1241 > (rdL (0 : Int) ([0, 1, 1, 1, 1, IntKind.wrap .i64 t1066.1, IntKind.wrap .i64 t1066.1] : List Int) (IntKind.wrap .i64 (bt a0 4)))))) KR KR ?_; clear ha a; intro a ha
                      refine stepp ha 146 (.bool (decide (x1241 > (rdL (0 : Int) ([0, 1, 1, 1, 1, IntKind.wrap .i64 t1066.1, IntKind.wrap .i64 t1066.1] : List Int) (IntKind.wrap .i64 (bt a0 4)))))) KR KR ?_; clear ha a; intro a ha
                      by_cases hp1320 : x1241 > (rdL (0 : Int) ([0, 1, 1, 1, 1, IntKind.wrap .i64 t1066.1, IntKind.wrap .i64 t1066.1] : List Int) (IntKind.wrap .i64 (bt a0 4)))
                      · skip
                        replace h := ite_pos' h hp1320
                        replace ha := ha.bool 146 KR (decide_eq_true hp1320)
                        refine stepo ha 147 KR ?_; clear ha a; intro a ha
                        refine stepo ha 148 KR ?_; clear ha a; intro a ha
                        refine stepo ha 149 KR ?_; clear ha a; intro a ha
                        refine stepo ha 150 KR ?_; clear ha a; intro a ha
                        refine stepo ha 151 KR ?_; clear ha a; intro a ha
                        refine stepo ha 152 KR ?_; clear ha a; intro a ha
                        refine stepo ha 153 KR ?_; clear ha a; intro a ha
                        refine stepo ha 154 KR ?_; clear ha a; intro a ha
                        refine stepp ha 155 (.bool true) KR KR ?_; clear ha a; intro a ha
                        refine endl ?_
                        exact thenN ⟨true, h, ha.sub (subs_cons KR (subs_cons KR (subs_cons KR (subs_cons KR (subs_cons KR (subs_cons KR (subs_nil _))))))), HW.pick [] [0] (by decide) (by decide) KR KR⟩
                      · skip
                        replace h := ite_neg' h hp1320
                        replace ha := ha.bool 146 KR (decide_eq_false hp1320)
                        refine stepp ha 147 (.int .i64 (IntKind.wrap .i64 (bt a0 4))) KR KR ?_; clear ha a; intro a ha
                        refine stepp ha 148 (.bool (decide ((IntKind.wrap .i64 (bt a0 4)) > 4))) KR KR ?_; clear ha a; intro a ha
                        refine stepp ha 149 (.bool (decide ((IntKind.wrap .i64 (bt a0 4)) > 4))) KR KR ?_; clear ha a; intro a ha
                        by_cases hp1321 : (IntKind.wrap .i64 (bt a0 4)) > 4
                        · skip
                          replace h := ite_pos' h hp1321
                          replace ha := ha.bool 149 KR (decide_eq_true hp1321)
                          refine stepp ha 150 (.int .i64 x1241) KR KR ?_; clear ha a; intro a ha
                          refine stepp ha 151 (.int .u64 t1066.1) KR KR ?_; clear ha a; intro a ha
                          refine stepp ha 152 (.int .i64 (IntKind.wrap .i64 t1066.1)) KR KR ?_; clear ha a; intro a ha
                          refine stepp ha 153 (.bool (x1241 != (IntKind.wrap .i64 t1066.1))) KR KR ?_; clear ha a; intro a ha
                          refine stepp ha 154 (.bool (x1241 != (IntKind.wrap .i64 t1066.1))) KR KR ?_; clear ha a; intro a ha
                          refine stepp ha 155 (.bool (x1241 != (IntKind.wrap .i64 t1066.1))) KR KR ?_; clear ha a; intro a ha
                          refine endl ?_
                          exact thenN ⟨(x1241 != (IntKind.wrap .i64 t1066.1)), h, ha.sub (subs_cons KR (subs_cons KR (subs_cons KR (subs_cons KR (subs_cons KR (subs_cons KR (subs_nil _))))))), HW.pick [] [0] (by decide) (by decide) KR KR⟩
                        · skip
                          replace h := ite_neg' h hp1321
                          replace ha := ha.bool 149 KR (decide_eq_false hp1321)
                          refine stepo ha 150 KR ?_; clear ha a; intro a ha
                          refine stepo ha 151 KR ?_; clear ha a; intro a ha
                          refine stepo ha 152 KR ?_; clear ha a; intro a ha
                          refine stepo ha 153 KR ?_; clear ha a; intro a ha
                          refine stepp ha 154 (.bool false) KR KR ?_; clear ha a; intro a ha
                          refine stepp ha 155 (.bool false) KR KR ?_; clear ha a; intro a ha
                          refine endl ?_
                          exact thenN ⟨false, h, ha.sub (subs_cons KR (subs_cons KR (subs_cons KR (subs_cons KR (subs_cons KR (subs_cons KR (subs_nil _))))))), HW.pick [] [0] (by decide) (by decide) KR KR⟩
                · skip
                  replace h := ite_neg' h hp1315
                  replace ha := ha.bool 130 KR (str_ne_t hp1315)
                  refine stepo ha 131 KR ?_; clear ha a; intro a ha
                  refine stepo ha 132 KR ?_; clear ha a; intro a ha
                  refine stepo ha 133 KR ?_; clear ha a; intro a ha
                  refine stepp ha 134 (.bool true) KR KR ?_; clear ha a; intro a ha
                  refine stepp ha 135 (.bool true) KR KR ?_; clear ha a; intro a ha
                  refine stepo ha 136 KR ?_; clear ha a; intro a ha
                  refine stepo ha 137 KR ?_; clear ha a; intro a ha
                  refine stepp ha 138 (.bool true) KR KR ?_; clear ha a; intro a ha
                  refine stepp ha 139 (.bool true) KR KR ?_; clear ha a; intro a ha
                  refine stepo ha 140 KR ?_; clear ha a; intro a ha
                  refine stepo ha 141 KR ?_; clear ha a; intro a ha
                  refine stepo ha 142 KR ?_; clear ha a; intro a ha
                  refine stepo ha 143 KR ?_; clear ha a; intro a ha
                  refine stepo ha 144 KR ?_; clear ha a; intro a ha
                  refine stepp ha 145 (.bool true) KR KR ?_; clear ha a; intro a ha
                  refine stepp ha 146 (.bool true) KR KR ?_; clear ha a; intro a ha
                  refine stepo ha 147 KR ?_; clear ha a; intro a ha
                  refine stepo ha 148 KR ?_; clear ha a; intro a ha
                  refine stepo ha 149 KR ?_; clear ha a; intro a ha
                  refine stepo ha 150 KR ?_; clear ha a; intro a ha
                  refine stepo ha 151 KR ?_; clear ha a; intro a ha
                  refine stepo ha 152 KR ?_; clear ha a; intro a ha
                  refine stepo ha 153 KR ?_; clear ha a; intro a ha
                  refine stepo ha 154 KR ?_; clear ha a; intro a ha
                  refine stepp ha 155 (.bool true) KR KR ?_; clear ha a; intro a ha
                  refine endl ?_
                  exact thenN ⟨true, h, ha.sub (subs_cons KR (subs_cons KR (subs_cons KR (subs_cons KR (subs_cons KR (subs_cons KR (subs_nil _))))))), HW.pick [] [0] (by decide) (by decide) KR KR⟩
              · skip
                intro a W1324 hJ
                obtain ⟨x1323, h, ha, HW⟩ := hJ
                replace h : nresv_Reported.j2 K a0 t1060 x1235 x1239 x1323 = some r := h
                unfold nresv_Reported.j2 at h
                refine hK1314 _ _ ?_; clear hK1314
                by_cases hp1325 : x1323 = true
                · skip
                  replace h := ite_pos' h hp1325
                  refine condT ha KR KR (t := x1323) (hp1325) ?_
                  refine wp_seq_k (fun K1326 hK1327 => ?_)
                  refine wp_region_lit ?_
                  refine stepp ha 156 (.func (.func 43) #[] #[]) KR KR ?_; clear ha a; intro a ha
                  obtain ⟨t1328, ht1329, h_⟩ := bind_some' h; clear h; have h := h_; clear h_
                  refine stepc ha 157 KR KR (nresv_Reported_1.calls t1328 _ ht1329) ?_; clear ha a; rintro e W1333 ⟨A1330, c1331, rfl, HX1334⟩
                  refine ⟨_, rfl, ?_⟩; intro a ha; replace HW := HW.callw HX1334; clear HX1334
                  refine stepp ha 158 (.int .u32 t1328.1) KR KR ?_; clear ha a; intro a ha
                  refine stepp ha 159 (.int .i64 t1328.2.1) KR KR ?_; clear ha a; intro a ha
                  refine stepp ha 160 (.slice A1330 t1328.2.2.1.length c1331) KR KR ?_; clear ha a; intro a ha
                  refine stepp ha 161 (.int .i64 t1328.2.2.2.1) KR KR ?_; clear ha a; intro a ha
                  refine stepp ha 162 (.int .i64 t1328.2.2.2.2) KR KR ?_; clear ha a; intro a ha
                  refine stepp ha 2 (.int .u32 t1328.1) KR KR ?_; clear ha a; intro a ha
                  refine stepp ha 3 (.int .i64 t1328.2.1) KR KR ?_; clear ha a; intro a ha
                  refine stepp ha 4 (.slice A1330 t1328.2.2.1.length c1331) KR KR ?_; clear ha a; intro a ha
                  refine stepp ha 5 (.int .i64 t1328.2.2.2.1) KR KR ?_; clear ha a; intro a ha
                  refine stepp ha 6 (.int .i64 t1328.2.2.2.2) KR KR ?_; clear ha a; intro a ha
                  refine endl ?_
                  refine thenN (hK1327 _ _ ?_); clear hK1327
                  refine wp_ret ?_
                  refine thenR ?_
                  obtain rfl := Option.some.inj h
                  exact finv ha _ _ rfl (.tmp (v := .int .u32 t1328.1) KR (.tmp (v := .int .i64 t1328.2.1) KR (.tmp (v := .slice A1330 t1328.2.2.1.length c1331) KR (.tmp (v := .int .i64 t1328.2.2.2.1) KR (.tmp (v := .int .i64 t1328.2.2.2.2) KR .nil))))) (.tuple #[.int .u32 t1328.1, .int .i64 t1328.2.1, .slice A1330 t1328.2.2.1.length c1331, .int .i64 t1328.2.2.2.1, .int .i64 t1328.2.2.2.2]) rfl ⟨A1330, c1331, rfl, HW.pick [] [0] (by decide) (by decide) rfl KR⟩
                · skip
                  replace h := ite_neg' h hp1325
                  refine condF ha KR KR (t := x1323) (bool_f hp1325) ?_
                  refine wp_skip ?_
                  refine thenN (hK1312 _ _ ?_); clear hK1312
                  refine wp_seq_k (fun K1335 hK1336 => ?_)
                  refine wp_region_lit ?_
                  refine stepp ha 163 (.int .u32 (IntKind.wrap .u32 t1060.1)) KR KR ?_; clear ha a; intro a ha
                  refine stepp ha 164 (.int .i64 (IntKind.wrap .i64 (bt a0 4))) KR KR ?_; clear ha a; intro a ha
                  refine stepp ha 165 (.slice A1236 x1235.length c1237) KR KR ?_; clear ha a; intro a ha
                  refine stepp ha 166 (.int .i64 x1239) KR KR ?_; clear ha a; intro a ha
                  refine stepp ha 2 (.int .u32 (IntKind.wrap .u32 t1060.1)) KR KR ?_; clear ha a; intro a ha
                  refine stepp ha 3 (.int .i64 (IntKind.wrap .i64 (bt a0 4))) KR KR ?_; clear ha a; intro a ha
                  refine stepp ha 4 (.slice A1236 x1235.length c1237) KR KR ?_; clear ha a; intro a ha
                  refine stepp ha 5 (.int .i64 x1239) KR KR ?_; clear ha a; intro a ha
                  refine stepp ha 6 (.int .i64 0) KR KR ?_; clear ha a; intro a ha
                  refine endl ?_
                  refine thenN (hK1336 _ _ ?_); clear hK1336
                  refine wp_ret ?_
                  obtain rfl := Option.some.inj h
                  exact finv ha _ _ rfl (.tmp (v := .int .u32 (IntKind.wrap .u32 t1060.1)) KR (.tmp (v := .int .i64 (IntKind.wrap .i64 (bt a0 4))) KR (.tmp (v := .slice A1236 x1235.length c1237) KR (.tmp (v := .int .i64 x1239) KR (.tmp (v := .int .i64 0) KR .nil))))) (.tuple #[.int .u32 (IntKind.wrap .u32 t1060.1), .int .i64 (IntKind.wrap .i64 (bt a0 4)), .slice A1236 x1235.length c1237, .int .i64 x1239, .int .i64 0]) rfl ⟨A1236, c1237, rfl, HW.pick [] [0] (by decide) (by decide) rfl KR⟩
/-! ### headgate/headgateref10.Registered: function 55 -/
def headgateref10_Registered.b0 (K : Nat) (a0 : T_api_Table) (a1 : ByteArray) (again1469 : Int → Option Bool) (x1470 : Int) : Option Bool :=
  if x1470 < (a0.f0.length : Int) then (asrt (0 ≤ x1470) (if ((rdL T_api_Reg.z a0.f0 x1470).f0) = a1 then (some true) else (again1469 (IntKind.wrap .i64 (x1470 + 1))))) else (some false)
def headgateref10_Registered.l0 (K : Nat) (a0 : T_api_Table) (a1 : ByteArray) : Nat → Int → Option Bool
  | 0, _ => none
  | k_ + 1, x1470 => headgateref10_Registered.b0 K a0 a1 (headgateref10_Registered.l0 K a0 a1 k_) x1470
def headgateref10_Registered.f (K : Nat) (a0 : T_api_Table) (a1 : ByteArray) : Option Bool :=
  headgateref10_Registered.l0 K a0 a1 K 0
set_option maxRecDepth 100000 in
set_option maxHeartbeats 4000000 in
theorem headgateref10_Registered.calls (K : Nat) (a0 : T_api_Table) (a1 : ByteArray) (A0_0 : Option Addr) (c0_0 : Nat) (r : Bool) (w : World) (hr0_0 : Rd 2 w (.slice A0_0 a0.f0.length c0_0) a0.f0.length (encs T_api_Reg.enc a0.f0)) (h : headgateref10_Registered.f K a0 a1 = some r) :
    Calls Tryd.prog 55 #[.agg #[.slice A0_0 a0.f0.length c0_0, .int .i64 a0.f1.f0, .string a0.f1.f1, .int .u32 a0.f2, .bool a0.f3], .string a1] w (fun e W' => e = .returned (.bool r) ∧ Wd w W' [] [] ) := by
  refine sxstart (n := 21) (l := [(0, .agg #[.slice A0_0 a0.f0.length c0_0, .int .i64 a0.f1.f0, .string a0.f1.f1, .int .u32 a0.f2, .bool a0.f3]), (1, .string a1)]) Tryd.func55 rfl rfl (Nat.le_of_ble_eq_true KR) (subsA_cons rfl (subsA_cons rfl (subsA_nil _))) ?_
  intro a ha
  have HW := Wd.refl w
  unfold headgateref10_Registered.f at h
  refine wp_seq_k (fun K1426 hK1427 => ?_)
  refine wp_region_lit ?_
  refine stepnew ha HW 2 #[.slice A0_0 a0.f0.length c0_0, .int .i64 a0.f1.f0, .string a0.f1.f1, .int .u32 a0.f2, .bool a0.f3] 27 KR KR ?_; clear ha HW a; intro b1428 a W1429 HW ha
  refine stepp ha 4 (.bool false) KR KR ?_; clear ha a; intro a ha
  refine endl ?_
  refine thenN (hK1427 _ _ ?_); clear hK1427
  refine wp_seq_k (fun K1430 hK1431 => ?_)
  refine wp_seq_k (fun K1432 hK1433 => ?_)
  refine wp_region_lit ?_
  refine stepp ha 5 (.int .i64 0) KR KR ?_; clear ha a; intro a ha
  refine endl ?_
  refine thenN (hK1433 _ _ ?_); clear hK1433
  refine wp_block ?_
  refine loopk (fun k => fun a W1471 => ∃ (x1470 : Int), headgateref10_Registered.l0 K a0 a1 k x1470 = some r ∧ Has 21 [(1, .string a1), (2, .pointer (some ⟨b1428, 0, none⟩)), (5, .int .i64 x1470)] a ∧ Wd w W1471 [(b1428, .cells #[.slice A0_0 a0.f0.length c0_0, .int .i64 a0.f1.f0, .string a0.f1.f1, .int .u32 a0.f2, .bool a0.f3] 27 (0, 0))] []) K ?_ ?_
  · skip
    exact ⟨0, h, ha.sub (subs_cons KR (subs_cons KR (subs_cons KR (subs_nil _)))), HW.pick [0] [] (by decide) (by decide) KR KR⟩
  · skip
    intro k a W1471 hI
    obtain ⟨x1470, h, ha, HW⟩ := hI
    cases k with
    | zero => exact (none_some (show none = some r from h)).elim
    | succ k1472 =>
      replace h : headgateref10_Registered.b0 K a0 a1 (headgateref10_Registered.l0 K a0 a1 k1472) x1470 = some r := h
      obtain ⟨again1469, hag1473⟩ : ∃ g_, g_ = headgateref10_Registered.l0 K a0 a1 k1472 := ⟨_, rfl⟩
      rw [← hag1473] at h
      unfold headgateref10_Registered.b0 at h
      refine wp_seq_k (fun K1474 hK1475 => ?_)
      refine wp_seq_k (fun K1476 hK1477 => ?_)
      refine wp_region_lit ?_
      refine stepp ha 6 (.int .i64 x1470) KR KR ?_; clear ha a; intro a ha
      refine stepp ha 7 (.pointer (some ⟨b1428, 0, none⟩)) KR KR ?_; clear ha a; intro a ha
      refine stepl ha 8 (HW.ca (i := 0) (b := b1428) (C := #[.slice A0_0 a0.f0.length c0_0, .int .i64 a0.f1.f0, .string a0.f1.f1, .int .u32 a0.f2, .bool a0.f3]) (T := 27) (fr := (0, 0)) KR) 22 0 (.tmp 7) (.slice A0_0 a0.f0.length c0_0) rfl KR KR KR ?_; clear ha a; intro a ha
      refine stepp ha 9 (.int .i64 (a0.f0.length : Int)) KR KR ?_; clear ha a; intro a ha
      refine stepp ha 10 (.bool (decide (x1470 < (a0.f0.length : Int)))) KR KR ?_; clear ha a; intro a ha
      refine endl ?_
      refine thenN (hK1477 _ _ ?_); clear hK1477
      by_cases hp1478 : x1470 < (a0.f0.length : Int)
      · skip
        replace h := ite_pos' h hp1478
        refine condT ha KR KR (t := decide (x1470 < (a0.f0.length : Int))) (decide_eq_true hp1478) ?_
        refine wp_skip ?_
        refine thenN (hK1475 _ _ ?_); clear hK1475
        refine wp_seq_k (fun K1479 hK1480 => ?_)
        refine wp_block ?_
        refine wp_seq_k (fun K1481 hK1482 => ?_)
        refine wp_region_lit ?_
        refine stepp ha 13 (.pointer (some ⟨b1428, 0, none⟩)) KR KR ?_; clear ha a; intro a ha
        refine stepl ha 14 (HW.ca (i := 0) (b := b1428) (C := #[.slice A0_0 a0.f0.length c0_0, .int .i64 a0.f1.f0, .string a0.f1.f1, .int .u32 a0.f2, .bool a0.f3]) (T := 27) (fr := (0, 0)) KR) 22 0 (.tmp 13) (.slice A0_0 a0.f0.length c0_0) rfl KR KR KR ?_; clear ha a; intro a ha
        refine stepp ha 15 (.int .i64 x1470) KR KR ?_; clear ha a; intro a ha
        obtain ⟨hA1483, h_⟩ := asrt_some h; clear h; have h := h_; clear h_
        refine stepie T_api_Reg.enc T_api_Reg.z ha 16 (fun _ => rfl) (v := .slice A0_0 a0.f0.length c0_0) (xs := a0.f0) ((HW.rd0 hr0_0)) 22 44 (.tmp 14) (.tmp 15) .i64 x1470 rfl KR KR KR KR hA1483 (show (x1470 : Int) < ((a0.f0).length : Int) from hp1478) KR ?_; clear ha a; intro b1484 off1485 a hC1486 ha
        refine stepp ha 17 (.pointer (some ⟨b1484, off1485, none⟩)) KR KR ?_; clear ha a; intro a ha
        refine stepl ha 18 hC1486 9 0 (.tmp 17) (.string ((rdL T_api_Reg.z a0.f0 x1470).f0)) rfl KR KR KR ?_; clear ha a; intro a ha
        refine stepp ha 19 (.string a1) KR KR ?_; clear ha a; intro a ha
        refine stepp ha 20 (.bool (((rdL T_api_Reg.z a0.f0 x1470).f0).toList == a1.toList)) KR KR ?_; clear ha a; intro a ha
        refine endl ?_
        refine thenN (hK1482 _ _ ?_); clear hK1482
        by_cases hp1487 : ((rdL T_api_Reg.z a0.f0 x1470).f0) = a1
        · skip
          replace h := ite_pos' h hp1487
          refine condT ha KR KR (t := (((rdL T_api_Reg.z a0.f0 x1470).f0).toList == a1.toList)) (str_eq_t hp1487) ?_
          refine wp_seq_k (fun K1488 hK1489 => ?_)
          refine wp_region_lit ?_
          refine stepp ha 4 (.bool true) KR KR ?_; clear ha a; intro a ha
          refine endl ?_
          refine thenN (hK1489 _ _ ?_); clear hK1489
          refine wp_ret ?_
          refine blkR ?_
          refine thenR ?_
          refine thenR ?_
          refine blkR ?_
          refine thenR ?_
          obtain rfl := Option.some.inj h
          exact finv ha _ _ rfl (.tmp (v := .bool true) KR .nil) (.bool true) rfl ⟨rfl, HW.pick [] [] (by decide) (by decide) rfl KR⟩
        · skip
          replace h := ite_neg' h hp1487
          refine condF ha KR KR (t := (((rdL T_api_Reg.z a0.f0 x1470).f0).toList == a1.toList)) (str_eq_f hp1487) ?_
          refine wp_skip ?_
          refine blkN ?_
          refine thenN (hK1480 _ _ ?_); clear hK1480
          refine wp_region_lit ?_
          refine stepp ha 11 (.int .i64 x1470) KR KR ?_; clear ha a; intro a ha
          refine stepp ha 12 (.int .i64 (IntKind.wrap .i64 (x1470 + 1))) KR KR ?_; clear ha a; intro a ha
          refine stepp ha 5 (.int .i64 (IntKind.wrap .i64 (x1470 + 1))) KR KR ?_; clear ha a; intro a ha
          refine endl ?_
          exact thenN ⟨k1472, Nat.lt_succ_self k1472, IntKind.wrap .i64 (x1470 + 1), (by rw [← hag1473]; exact h), ha.sub (subs_cons KR (subs_cons KR (subs_cons KR (subs_nil _)))), HW.pick [0] [] (by decide) (by decide) KR KR⟩
      · skip
        replace h := ite_neg' h hp1478
        refine condF ha KR KR (t := decide (x1470 < (a0.f0.length : Int))) (decide_eq_false hp1478) ?_
        refine wp_exit ?_
        refine thenE ?_
        refine thenE ?_
        refine inBlk ?_
        refine thenN (hK1431 _ _ ?_); clear hK1431
        refine wp_seq_k (fun K1490 hK1491 => ?_)
        refine wp_region_lit ?_
        refine stepp ha 4 (.bool false) KR KR ?_; clear ha a; intro a ha
        refine endl ?_
        refine thenN (hK1491 _ _ ?_); clear hK1491
        refine wp_ret ?_
        obtain rfl := Option.some.inj h
        exact finv ha _ _ rfl (.tmp (v := .bool false) KR .nil) (.bool false) rfl ⟨rfl, HW.pick [] [] (by decide) (by decide) rfl KR⟩
end Go.Proofs.YthjjbkgifelooaaDoor.F
