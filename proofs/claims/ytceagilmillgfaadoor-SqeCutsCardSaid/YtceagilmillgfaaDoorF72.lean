/- headgate/fields.shifts: a plain function, and that the call comes to what it says. No condition. -/
import Derived.Test.YtceagilmillgfaaDoorFT
namespace Go.Proofs.YtceagilmillgfaaDoor.F
open Go Go.RowKit Go.Proofs.YtceagilmillgfaaDoor.X
set_option linter.unusedVariables false
set_option linter.unusedSimpArgs false
/-! ### headgate/fields.shifts: function 72 -/
def fields_shifts.b0 (K : Nat) (a0 : Int) (a1 : Bool) (again102 : (List Int) → Int → Option (List Int)) (x103 : List Int) (x107 : Int) : Option (List Int) :=
  if x107 < a0 then (if a1 = true then (asrt (x103.length + ([IntKind.wrap .i64 (8 * (IntKind.wrap .i64 ((IntKind.wrap .i64 (a0 - 1)) - x107)))] : List Int).length ≤ 17592186044416) (again102 (x103 ++ ([IntKind.wrap .i64 (8 * (IntKind.wrap .i64 ((IntKind.wrap .i64 (a0 - 1)) - x107)))] : List Int)) (IntKind.wrap .i64 (x107 + 1)))) else (asrt (x103.length + ([IntKind.wrap .i64 (8 * x107)] : List Int).length ≤ 17592186044416) (again102 (x103 ++ ([IntKind.wrap .i64 (8 * x107)] : List Int)) (IntKind.wrap .i64 (x107 + 1))))) else (some x103)
def fields_shifts.l0 (K : Nat) (a0 : Int) (a1 : Bool) : Nat → (List Int) → Int → Option (List Int)
  | 0, _, _ => none
  | k_ + 1, x103, x107 => fields_shifts.b0 K a0 a1 (fields_shifts.l0 K a0 a1 k_) x103 x107
def fields_shifts.f (K : Nat) (a0 : Int) (a1 : Bool) : Option (List Int) :=
  fields_shifts.l0 K a0 a1 K ([] : List Int) 0
set_option maxRecDepth 100000 in
set_option maxHeartbeats 4000000 in
theorem fields_shifts.calls (K : Nat) (a0 : Int) (a1 : Bool)  (r : List Int) (w : World)  (h : fields_shifts.f K a0 a1 = some r) :
    Calls Tryd.prog 72 #[.int .i64 a0, .bool a1] w (fun e W' => ∃ A_0 c_0, e = .returned (.slice A_0 r.length c_0) ∧ Wd w W' [] [⟨3, 1, .slice A_0 r.length c_0, r.length, encs (encI .i64) r⟩] ) := by
  refine sxstart (n := 27) (l := [(0, .int .i64 a0), (1, .bool a1)]) Tryd.func72 rfl rfl (Nat.le_of_ble_eq_true (by kernel_rfl)) (subsA_cons rfl (subsA_cons rfl (subsA_nil _))) ?_
  intro a ha
  have HW := Wd.refl w
  unfold fields_shifts.f at h
  refine wp_seq_k (fun K25 hK26 => ?_)
  refine wp_region_lit ?_
  refine stepp ha 4 (.slice none 0 0) (by kernel_rfl) (by kernel_rfl) ?_; clear ha a; intro a ha
  refine endl ?_
  refine thenN (hK26 _ _ ?_); clear hK26
  refine wp_seq_k (fun K27 hK28 => ?_)
  refine wp_region_lit ?_
  refine stepp ha 5 (.slice none 0 0) (by kernel_rfl) (by kernel_rfl) ?_; clear ha a; intro a ha
  refine endl ?_
  refine thenN (hK28 _ _ ?_); clear hK28
  refine wp_seq_k (fun K29 hK30 => ?_)
  refine wp_seq_k (fun K31 hK32 => ?_)
  refine wp_region_lit ?_
  refine stepp ha 7 (.int .i64 a0) (by kernel_rfl) (by kernel_rfl) ?_; clear ha a; intro a ha
  refine stepp ha 8 (.int .i64 0) (by kernel_rfl) (by kernel_rfl) ?_; clear ha a; intro a ha
  refine endl ?_
  refine thenN (hK32 _ _ ?_); clear hK32
  refine wp_block ?_
  refine loopk (fun k => fun a W108 => ∃ (x103 : List Int), ∃ A104, ∃ c105, ∃ (x107 : Int), fields_shifts.l0 K a0 a1 k x103 x107 = some r ∧ Has 27 [(0, .int .i64 a0), (1, .bool a1), (5, .slice A104 x103.length c105), (7, .int .i64 a0), (8, .int .i64 x107)] a ∧ Wd w W108 [] [⟨3, 1, .slice A104 x103.length c105, x103.length, encs (encI .i64) x103⟩]) K ?_ ?_
  · skip
    replace HW := HW.nilo 3 1
    exact ⟨([] : List Int), none, 0, 0, h, ha.sub (subs_cons (by kernel_rfl) (subs_cons (by kernel_rfl) (subs_cons (by kernel_rfl) (subs_cons (by kernel_rfl) (subs_cons (by kernel_rfl) (subs_nil _)))))), HW.pick [] [0] (by decide) (by decide) (by kernel_rfl) (by kernel_rfl)⟩
  · skip
    intro k a W108 hI
    obtain ⟨x103, A104, c105, x107, h, ha, HW⟩ := hI
    cases k with
    | zero => exact (none_some (show none = some r from h)).elim
    | succ k109 =>
      replace h : fields_shifts.b0 K a0 a1 (fields_shifts.l0 K a0 a1 k109) x103 x107 = some r := h
      obtain ⟨again102, hag110⟩ : ∃ g_, g_ = fields_shifts.l0 K a0 a1 k109 := ⟨_, rfl⟩
      rw [← hag110] at h
      unfold fields_shifts.b0 at h
      refine wp_seq_k (fun K111 hK112 => ?_)
      refine wp_region_lit ?_
      refine stepp ha 9 (.bool (decide (x107 < a0))) (by kernel_rfl) (by kernel_rfl) ?_; clear ha a; intro a ha
      refine endl ?_
      refine thenN (hK112 _ _ ?_); clear hK112
      refine wp_seq_k (fun K113 hK114 => ?_)
      by_cases hp115 : x107 < a0
      · skip
        replace h := ite_pos' h hp115
        refine condT ha (by kernel_rfl) (by kernel_rfl) (t := decide (x107 < a0)) (decide_eq_true hp115) ?_
        refine wp_skip ?_
        refine thenN (hK114 _ _ ?_); clear hK114
        refine wp_seq_k (fun K116 hK117 => ?_)
        refine wp_block ?_
        refine wp_seq_k (fun K118 hK119 => ?_)
        refine wp_region_lit ?_
        refine stepp ha 10 (.int .i64 x107) (by kernel_rfl) (by kernel_rfl) ?_; clear ha a; intro a ha
        refine stepp ha 6 (.int .i64 x107) (by kernel_rfl) (by kernel_rfl) ?_; clear ha a; intro a ha
        refine endl ?_
        refine thenN (hK119 _ _ ?_); clear hK119
        refine wp_seq_k (fun K120 hK121 => ?_)
        refine wp_region_lit ?_
        refine stepp ha 11 (.bool a1) (by kernel_rfl) (by kernel_rfl) ?_; clear ha a; intro a ha
        refine endl ?_
        refine thenN (hK121 _ _ ?_); clear hK121
        by_cases hp122 : a1 = true
        · skip
          replace h := ite_pos' h hp122
          refine condT ha (by kernel_rfl) (by kernel_rfl) (t := a1) (hp122) ?_
          refine wp_region_lit ?_
          refine stepp ha 12 (.slice A104 x103.length c105) (by kernel_rfl) (by kernel_rfl) ?_; clear ha a; intro a ha
          refine stepp ha 13 (.int .i64 a0) (by kernel_rfl) (by kernel_rfl) ?_; clear ha a; intro a ha
          refine stepp ha 14 (.int .i64 (IntKind.wrap .i64 (a0 - 1))) (by kernel_rfl) (by kernel_rfl) ?_; clear ha a; intro a ha
          refine stepp ha 15 (.int .i64 x107) (by kernel_rfl) (by kernel_rfl) ?_; clear ha a; intro a ha
          refine stepp ha 16 (.int .i64 (IntKind.wrap .i64 ((IntKind.wrap .i64 (a0 - 1)) - x107))) (by kernel_rfl) (by kernel_rfl) ?_; clear ha a; intro a ha
          refine stepp ha 17 (.int .i64 (IntKind.wrap .i64 (8 * (IntKind.wrap .i64 ((IntKind.wrap .i64 (a0 - 1)) - x107))))) (by kernel_rfl) (by kernel_rfl) ?_; clear ha a; intro a ha
          refine stepbs ha HW 18 3 1 1 #[.int .i64 (IntKind.wrap .i64 (8 * (IntKind.wrap .i64 ((IntKind.wrap .i64 (a0 - 1)) - x107))))] [.int .i64 (IntKind.wrap .i64 (8 * (IntKind.wrap .i64 ((IntKind.wrap .i64 (a0 - 1)) - x107))))] (by decide) (by kernel_rfl) (by kernel_rfl) (by kernel_rfl) (by kernel_rfl) ?_; clear ha HW a; intro b123 a W124 HW ha
          replace HW : Wd w W124 [] [⟨3, 1, .slice (some ⟨b123, 0, none⟩) ([IntKind.wrap .i64 (8 * (IntKind.wrap .i64 ((IntKind.wrap .i64 (a0 - 1)) - x107)))] : List Int).length 1, ([IntKind.wrap .i64 (8 * (IntKind.wrap .i64 ((IntKind.wrap .i64 (a0 - 1)) - x107)))] : List Int).length, encs (encI .i64) ([IntKind.wrap .i64 (8 * (IntKind.wrap .i64 ((IntKind.wrap .i64 (a0 - 1)) - x107)))] : List Int)⟩, ⟨3, 1, .slice A104 x103.length c105, x103.length, encs (encI .i64) x103⟩] := HW
          replace ha := ha.turn 18 (v := .slice (some ⟨b123, 0, none⟩) ([IntKind.wrap .i64 (8 * (IntKind.wrap .i64 ((IntKind.wrap .i64 (a0 - 1)) - x107)))] : List Int).length 1) (by kernel_rfl) rfl
          obtain ⟨hA126, h_⟩ := asrt_some h; clear h; have h := h_; clear h_
          refine stepape (encI .i64) ha HW 19 1 115 3 (.tmp 12) (.tmp 18) (.int .i64 0) 1 8 (.slice A104 x103.length c105) x103 (.slice (some ⟨b123, 0, none⟩) ([IntKind.wrap .i64 (8 * (IntKind.wrap .i64 ((IntKind.wrap .i64 (a0 - 1)) - x107)))] : List Int).length 1) ([IntKind.wrap .i64 (8 * (IntKind.wrap .i64 ((IntKind.wrap .i64 (a0 - 1)) - x107)))] : List Int) (by kernel_rfl) rfl (by kernel_rfl) (by kernel_rfl) (HW.rdo (i := 0) (q := ⟨3, 1, .slice (some ⟨b123, 0, none⟩) ([IntKind.wrap .i64 (8 * (IntKind.wrap .i64 ((IntKind.wrap .i64 (a0 - 1)) - x107)))] : List Int).length 1, ([IntKind.wrap .i64 (8 * (IntKind.wrap .i64 ((IntKind.wrap .i64 (a0 - 1)) - x107)))] : List Int).length, encs (encI .i64) ([IntKind.wrap .i64 (8 * (IntKind.wrap .i64 ((IntKind.wrap .i64 (a0 - 1)) - x107)))] : List Int)⟩) (by kernel_rfl)) (fun _ => rfl) (by kernel_rfl) (by kernel_rfl) (by kernel_rfl) (by decide) (by have := hA126; unfold maxLen; omega) (by have := hA126; omega) (by kernel_rfl) ?_; clear ha HW a; intro A127 c128 a W129 HW ha
          refine stepp ha 5 (.slice A127 (x103 ++ ([IntKind.wrap .i64 (8 * (IntKind.wrap .i64 ((IntKind.wrap .i64 (a0 - 1)) - x107)))] : List Int)).length c128) (by kernel_rfl) (by kernel_rfl) ?_; clear ha a; intro a ha
          refine endl ?_
          refine blkN ?_
          refine thenN (hK117 _ _ ?_); clear hK117
          refine wp_region_lit ?_
          refine stepp ha 25 (.int .i64 (IntKind.wrap .i64 (x107 + 1))) (by kernel_rfl) (by kernel_rfl) ?_; clear ha a; intro a ha
          refine stepp ha 8 (.int .i64 (IntKind.wrap .i64 (x107 + 1))) (by kernel_rfl) (by kernel_rfl) ?_; clear ha a; intro a ha
          refine endl ?_
          exact thenN ⟨k109, Nat.lt_succ_self k109, x103 ++ ([IntKind.wrap .i64 (8 * (IntKind.wrap .i64 ((IntKind.wrap .i64 (a0 - 1)) - x107)))] : List Int), A127, c128, IntKind.wrap .i64 (x107 + 1), (by rw [← hag110]; exact h), ha.sub (subs_cons (by kernel_rfl) (subs_cons (by kernel_rfl) (subs_cons (by kernel_rfl) (subs_cons (by kernel_rfl) (subs_cons (by kernel_rfl) (subs_nil _)))))), HW.pick [] [1] (by decide) (by decide) (by kernel_rfl) (by kernel_rfl)⟩
        · skip
          replace h := ite_neg' h hp122
          refine condF ha (by kernel_rfl) (by kernel_rfl) (t := a1) (bool_f hp122) ?_
          refine wp_region_lit ?_
          refine stepp ha 20 (.slice A104 x103.length c105) (by kernel_rfl) (by kernel_rfl) ?_; clear ha a; intro a ha
          refine stepp ha 21 (.int .i64 x107) (by kernel_rfl) (by kernel_rfl) ?_; clear ha a; intro a ha
          refine stepp ha 22 (.int .i64 (IntKind.wrap .i64 (8 * x107))) (by kernel_rfl) (by kernel_rfl) ?_; clear ha a; intro a ha
          refine stepbs ha HW 23 3 1 1 #[.int .i64 (IntKind.wrap .i64 (8 * x107))] [.int .i64 (IntKind.wrap .i64 (8 * x107))] (by decide) (by kernel_rfl) (by kernel_rfl) (by kernel_rfl) (by kernel_rfl) ?_; clear ha HW a; intro b132 a W133 HW ha
          replace HW : Wd w W133 [] [⟨3, 1, .slice (some ⟨b132, 0, none⟩) ([IntKind.wrap .i64 (8 * x107)] : List Int).length 1, ([IntKind.wrap .i64 (8 * x107)] : List Int).length, encs (encI .i64) ([IntKind.wrap .i64 (8 * x107)] : List Int)⟩, ⟨3, 1, .slice A104 x103.length c105, x103.length, encs (encI .i64) x103⟩] := HW
          replace ha := ha.turn 23 (v := .slice (some ⟨b132, 0, none⟩) ([IntKind.wrap .i64 (8 * x107)] : List Int).length 1) (by kernel_rfl) rfl
          obtain ⟨hA135, h_⟩ := asrt_some h; clear h; have h := h_; clear h_
          refine stepape (encI .i64) ha HW 24 1 115 3 (.tmp 20) (.tmp 23) (.int .i64 0) 1 8 (.slice A104 x103.length c105) x103 (.slice (some ⟨b132, 0, none⟩) ([IntKind.wrap .i64 (8 * x107)] : List Int).length 1) ([IntKind.wrap .i64 (8 * x107)] : List Int) (by kernel_rfl) rfl (by kernel_rfl) (by kernel_rfl) (HW.rdo (i := 0) (q := ⟨3, 1, .slice (some ⟨b132, 0, none⟩) ([IntKind.wrap .i64 (8 * x107)] : List Int).length 1, ([IntKind.wrap .i64 (8 * x107)] : List Int).length, encs (encI .i64) ([IntKind.wrap .i64 (8 * x107)] : List Int)⟩) (by kernel_rfl)) (fun _ => rfl) (by kernel_rfl) (by kernel_rfl) (by kernel_rfl) (by decide) (by have := hA135; unfold maxLen; omega) (by have := hA135; omega) (by kernel_rfl) ?_; clear ha HW a; intro A136 c137 a W138 HW ha
          refine stepp ha 5 (.slice A136 (x103 ++ ([IntKind.wrap .i64 (8 * x107)] : List Int)).length c137) (by kernel_rfl) (by kernel_rfl) ?_; clear ha a; intro a ha
          refine endl ?_
          refine blkN ?_
          refine thenN (hK117 _ _ ?_); clear hK117
          refine wp_region_lit ?_
          refine stepp ha 25 (.int .i64 (IntKind.wrap .i64 (x107 + 1))) (by kernel_rfl) (by kernel_rfl) ?_; clear ha a; intro a ha
          refine stepp ha 8 (.int .i64 (IntKind.wrap .i64 (x107 + 1))) (by kernel_rfl) (by kernel_rfl) ?_; clear ha a; intro a ha
          refine endl ?_
          exact thenN ⟨k109, Nat.lt_succ_self k109, x103 ++ ([IntKind.wrap .i64 (8 * x107)] : List Int), A136, c137, IntKind.wrap .i64 (x107 + 1), (by rw [← hag110]; exact h), ha.sub (subs_cons (by kernel_rfl) (subs_cons (by kernel_rfl) (subs_cons (by kernel_rfl) (subs_cons (by kernel_rfl) (subs_cons (by kernel_rfl) (subs_nil _)))))), HW.pick [] [1] (by decide) (by decide) (by kernel_rfl) (by kernel_rfl)⟩
      · skip
        replace h := ite_neg' h hp115
        refine condF ha (by kernel_rfl) (by kernel_rfl) (t := decide (x107 < a0)) (decide_eq_false hp115) ?_
        refine wp_exit ?_
        refine thenE ?_
        refine thenE ?_
        refine inBlk ?_
        refine thenN (hK30 _ _ ?_); clear hK30
        refine wp_seq_k (fun K141 hK142 => ?_)
        refine wp_region_lit ?_
        refine stepp ha 26 (.slice A104 x103.length c105) (by kernel_rfl) (by kernel_rfl) ?_; clear ha a; intro a ha
        refine stepp ha 4 (.slice A104 x103.length c105) (by kernel_rfl) (by kernel_rfl) ?_; clear ha a; intro a ha
        refine endl ?_
        refine thenN (hK142 _ _ ?_); clear hK142
        refine wp_ret ?_
        obtain rfl := Option.some.inj h
        exact finv ha _ _ rfl (.tmp (v := .slice A104 x103.length c105) (by kernel_rfl) .nil) (.slice A104 x103.length c105) rfl ⟨A104, c105, rfl, HW.pick [] [0] (by decide) (by decide) rfl (by kernel_rfl)⟩
end Go.Proofs.YtceagilmillgfaaDoor.F
