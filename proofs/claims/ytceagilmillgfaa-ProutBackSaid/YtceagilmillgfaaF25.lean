/- headgate/fields.shifts: a plain function, and that the call comes to what it says. No condition. -/
import Derived.Test.YtceagilmillgfaaFT
namespace Go.Proofs.Ytceagilmillgfaa.F
open Go Go.RowKit Go.Proofs.Ytceagilmillgfaa.X
set_option linter.unusedVariables false
set_option linter.unusedSimpArgs false
/-! ### headgate/fields.shifts: function 25 -/
def fields_shifts.b0 (K : Nat) (a0 : Int) (a1 : Bool) (again93 : (List Int) → Int → Option (List Int)) (x94 : List Int) (x98 : Int) : Option (List Int) :=
  if x98 < a0 then (if a1 = true then (asrt (x94.length + ([IntKind.wrap .i64 (8 * (IntKind.wrap .i64 ((IntKind.wrap .i64 (a0 - 1)) - x98)))] : List Int).length ≤ 17592186044416) (again93 (x94 ++ ([IntKind.wrap .i64 (8 * (IntKind.wrap .i64 ((IntKind.wrap .i64 (a0 - 1)) - x98)))] : List Int)) (IntKind.wrap .i64 (x98 + 1)))) else (asrt (x94.length + ([IntKind.wrap .i64 (8 * x98)] : List Int).length ≤ 17592186044416) (again93 (x94 ++ ([IntKind.wrap .i64 (8 * x98)] : List Int)) (IntKind.wrap .i64 (x98 + 1))))) else (some x94)
def fields_shifts.l0 (K : Nat) (a0 : Int) (a1 : Bool) : Nat → (List Int) → Int → Option (List Int)
  | 0, _, _ => none
  | k_ + 1, x94, x98 => fields_shifts.b0 K a0 a1 (fields_shifts.l0 K a0 a1 k_) x94 x98
def fields_shifts.f (K : Nat) (a0 : Int) (a1 : Bool) : Option (List Int) :=
  fields_shifts.l0 K a0 a1 K ([] : List Int) 0
set_option maxRecDepth 100000 in
set_option maxHeartbeats 4000000 in
theorem fields_shifts.calls (K : Nat) (a0 : Int) (a1 : Bool)  (r : List Int) (w : World)  (h : fields_shifts.f K a0 a1 = some r) :
    Calls Try.prog 25 #[.int .i64 a0, .bool a1] w (fun e W' => ∃ A_0 c_0, e = .returned (.slice A_0 r.length c_0) ∧ Wd w W' [] [⟨3, 1, .slice A_0 r.length c_0, r.length, encs (encI .i64) r⟩] ) := by
  refine sxstart (n := 27) (l := [(0, .int .i64 a0), (1, .bool a1)]) Try.func25 rfl rfl (Nat.le_of_ble_eq_true (by kernel_rfl)) (subsA_cons rfl (subsA_cons rfl (subsA_nil _))) ?_
  intro a ha
  have HW := Wd.refl w
  unfold fields_shifts.f at h
  refine wp_seq_k (fun K16 hK17 => ?_)
  refine wp_region_lit ?_
  refine stepp ha 4 (.slice none 0 0) (by kernel_rfl) (by kernel_rfl) ?_; clear ha a; intro a ha
  refine endl ?_
  refine thenN (hK17 _ _ ?_); clear hK17
  refine wp_seq_k (fun K18 hK19 => ?_)
  refine wp_region_lit ?_
  refine stepp ha 5 (.slice none 0 0) (by kernel_rfl) (by kernel_rfl) ?_; clear ha a; intro a ha
  refine endl ?_
  refine thenN (hK19 _ _ ?_); clear hK19
  refine wp_seq_k (fun K20 hK21 => ?_)
  refine wp_seq_k (fun K22 hK23 => ?_)
  refine wp_region_lit ?_
  refine stepp ha 7 (.int .i64 a0) (by kernel_rfl) (by kernel_rfl) ?_; clear ha a; intro a ha
  refine stepp ha 8 (.int .i64 0) (by kernel_rfl) (by kernel_rfl) ?_; clear ha a; intro a ha
  refine endl ?_
  refine thenN (hK23 _ _ ?_); clear hK23
  refine wp_block ?_
  refine loopk (fun k => fun a W99 => ∃ (x94 : List Int), ∃ A95, ∃ c96, ∃ (x98 : Int), fields_shifts.l0 K a0 a1 k x94 x98 = some r ∧ Has 27 [(0, .int .i64 a0), (1, .bool a1), (5, .slice A95 x94.length c96), (7, .int .i64 a0), (8, .int .i64 x98)] a ∧ Wd w W99 [] [⟨3, 1, .slice A95 x94.length c96, x94.length, encs (encI .i64) x94⟩]) K ?_ ?_
  · skip
    replace HW := HW.nilo 3 1
    exact ⟨([] : List Int), none, 0, 0, h, ha.sub (subs_cons (by kernel_rfl) (subs_cons (by kernel_rfl) (subs_cons (by kernel_rfl) (subs_cons (by kernel_rfl) (subs_cons (by kernel_rfl) (subs_nil _)))))), HW.pick [] [0] (by decide) (by decide) (by kernel_rfl) (by kernel_rfl)⟩
  · skip
    intro k a W99 hI
    obtain ⟨x94, A95, c96, x98, h, ha, HW⟩ := hI
    cases k with
    | zero => exact (none_some (show none = some r from h)).elim
    | succ k100 =>
      replace h : fields_shifts.b0 K a0 a1 (fields_shifts.l0 K a0 a1 k100) x94 x98 = some r := h
      obtain ⟨again93, hag101⟩ : ∃ g_, g_ = fields_shifts.l0 K a0 a1 k100 := ⟨_, rfl⟩
      rw [← hag101] at h
      unfold fields_shifts.b0 at h
      refine wp_seq_k (fun K102 hK103 => ?_)
      refine wp_region_lit ?_
      refine stepp ha 9 (.bool (decide (x98 < a0))) (by kernel_rfl) (by kernel_rfl) ?_; clear ha a; intro a ha
      refine endl ?_
      refine thenN (hK103 _ _ ?_); clear hK103
      refine wp_seq_k (fun K104 hK105 => ?_)
      by_cases hp106 : x98 < a0
      · skip
        replace h := ite_pos' h hp106
        refine condT ha (by kernel_rfl) (by kernel_rfl) (t := decide (x98 < a0)) (decide_eq_true hp106) ?_
        refine wp_skip ?_
        refine thenN (hK105 _ _ ?_); clear hK105
        refine wp_seq_k (fun K107 hK108 => ?_)
        refine wp_block ?_
        refine wp_seq_k (fun K109 hK110 => ?_)
        refine wp_region_lit ?_
        refine stepp ha 10 (.int .i64 x98) (by kernel_rfl) (by kernel_rfl) ?_; clear ha a; intro a ha
        refine stepp ha 6 (.int .i64 x98) (by kernel_rfl) (by kernel_rfl) ?_; clear ha a; intro a ha
        refine endl ?_
        refine thenN (hK110 _ _ ?_); clear hK110
        refine wp_seq_k (fun K111 hK112 => ?_)
        refine wp_region_lit ?_
        refine stepp ha 11 (.bool a1) (by kernel_rfl) (by kernel_rfl) ?_; clear ha a; intro a ha
        refine endl ?_
        refine thenN (hK112 _ _ ?_); clear hK112
        by_cases hp113 : a1 = true
        · skip
          replace h := ite_pos' h hp113
          refine condT ha (by kernel_rfl) (by kernel_rfl) (t := a1) (hp113) ?_
          refine wp_region_lit ?_
          refine stepp ha 12 (.slice A95 x94.length c96) (by kernel_rfl) (by kernel_rfl) ?_; clear ha a; intro a ha
          refine stepp ha 13 (.int .i64 a0) (by kernel_rfl) (by kernel_rfl) ?_; clear ha a; intro a ha
          refine stepp ha 14 (.int .i64 (IntKind.wrap .i64 (a0 - 1))) (by kernel_rfl) (by kernel_rfl) ?_; clear ha a; intro a ha
          refine stepp ha 15 (.int .i64 x98) (by kernel_rfl) (by kernel_rfl) ?_; clear ha a; intro a ha
          refine stepp ha 16 (.int .i64 (IntKind.wrap .i64 ((IntKind.wrap .i64 (a0 - 1)) - x98))) (by kernel_rfl) (by kernel_rfl) ?_; clear ha a; intro a ha
          refine stepp ha 17 (.int .i64 (IntKind.wrap .i64 (8 * (IntKind.wrap .i64 ((IntKind.wrap .i64 (a0 - 1)) - x98))))) (by kernel_rfl) (by kernel_rfl) ?_; clear ha a; intro a ha
          refine stepbs ha HW 18 3 1 1 #[.int .i64 (IntKind.wrap .i64 (8 * (IntKind.wrap .i64 ((IntKind.wrap .i64 (a0 - 1)) - x98))))] [.int .i64 (IntKind.wrap .i64 (8 * (IntKind.wrap .i64 ((IntKind.wrap .i64 (a0 - 1)) - x98))))] (by decide) (by kernel_rfl) (by kernel_rfl) (by kernel_rfl) (by kernel_rfl) ?_; clear ha HW a; intro b114 a W115 HW ha
          replace HW : Wd w W115 [] [⟨3, 1, .slice (some ⟨b114, 0, none⟩) ([IntKind.wrap .i64 (8 * (IntKind.wrap .i64 ((IntKind.wrap .i64 (a0 - 1)) - x98)))] : List Int).length 1, ([IntKind.wrap .i64 (8 * (IntKind.wrap .i64 ((IntKind.wrap .i64 (a0 - 1)) - x98)))] : List Int).length, encs (encI .i64) ([IntKind.wrap .i64 (8 * (IntKind.wrap .i64 ((IntKind.wrap .i64 (a0 - 1)) - x98)))] : List Int)⟩, ⟨3, 1, .slice A95 x94.length c96, x94.length, encs (encI .i64) x94⟩] := HW
          replace ha := ha.turn 18 (v := .slice (some ⟨b114, 0, none⟩) ([IntKind.wrap .i64 (8 * (IntKind.wrap .i64 ((IntKind.wrap .i64 (a0 - 1)) - x98)))] : List Int).length 1) (by kernel_rfl) rfl
          obtain ⟨hA117, h_⟩ := asrt_some h; clear h; have h := h_; clear h_
          refine stepape (encI .i64) ha HW 19 1 63 3 (.tmp 12) (.tmp 18) (.int .i64 0) 1 8 (.slice A95 x94.length c96) x94 (.slice (some ⟨b114, 0, none⟩) ([IntKind.wrap .i64 (8 * (IntKind.wrap .i64 ((IntKind.wrap .i64 (a0 - 1)) - x98)))] : List Int).length 1) ([IntKind.wrap .i64 (8 * (IntKind.wrap .i64 ((IntKind.wrap .i64 (a0 - 1)) - x98)))] : List Int) (by kernel_rfl) rfl (by kernel_rfl) (by kernel_rfl) (HW.rdo (i := 0) (q := ⟨3, 1, .slice (some ⟨b114, 0, none⟩) ([IntKind.wrap .i64 (8 * (IntKind.wrap .i64 ((IntKind.wrap .i64 (a0 - 1)) - x98)))] : List Int).length 1, ([IntKind.wrap .i64 (8 * (IntKind.wrap .i64 ((IntKind.wrap .i64 (a0 - 1)) - x98)))] : List Int).length, encs (encI .i64) ([IntKind.wrap .i64 (8 * (IntKind.wrap .i64 ((IntKind.wrap .i64 (a0 - 1)) - x98)))] : List Int)⟩) (by kernel_rfl)) (fun _ => rfl) (by kernel_rfl) (by kernel_rfl) (by kernel_rfl) (by decide) (by have := hA117; unfold maxLen; omega) (by have := hA117; omega) (by kernel_rfl) ?_; clear ha HW a; intro A118 c119 a W120 HW ha
          refine stepp ha 5 (.slice A118 (x94 ++ ([IntKind.wrap .i64 (8 * (IntKind.wrap .i64 ((IntKind.wrap .i64 (a0 - 1)) - x98)))] : List Int)).length c119) (by kernel_rfl) (by kernel_rfl) ?_; clear ha a; intro a ha
          refine endl ?_
          refine blkN ?_
          refine thenN (hK108 _ _ ?_); clear hK108
          refine wp_region_lit ?_
          refine stepp ha 25 (.int .i64 (IntKind.wrap .i64 (x98 + 1))) (by kernel_rfl) (by kernel_rfl) ?_; clear ha a; intro a ha
          refine stepp ha 8 (.int .i64 (IntKind.wrap .i64 (x98 + 1))) (by kernel_rfl) (by kernel_rfl) ?_; clear ha a; intro a ha
          refine endl ?_
          exact thenN ⟨k100, Nat.lt_succ_self k100, x94 ++ ([IntKind.wrap .i64 (8 * (IntKind.wrap .i64 ((IntKind.wrap .i64 (a0 - 1)) - x98)))] : List Int), A118, c119, IntKind.wrap .i64 (x98 + 1), (by rw [← hag101]; exact h), ha.sub (subs_cons (by kernel_rfl) (subs_cons (by kernel_rfl) (subs_cons (by kernel_rfl) (subs_cons (by kernel_rfl) (subs_cons (by kernel_rfl) (subs_nil _)))))), HW.pick [] [1] (by decide) (by decide) (by kernel_rfl) (by kernel_rfl)⟩
        · skip
          replace h := ite_neg' h hp113
          refine condF ha (by kernel_rfl) (by kernel_rfl) (t := a1) (bool_f hp113) ?_
          refine wp_region_lit ?_
          refine stepp ha 20 (.slice A95 x94.length c96) (by kernel_rfl) (by kernel_rfl) ?_; clear ha a; intro a ha
          refine stepp ha 21 (.int .i64 x98) (by kernel_rfl) (by kernel_rfl) ?_; clear ha a; intro a ha
          refine stepp ha 22 (.int .i64 (IntKind.wrap .i64 (8 * x98))) (by kernel_rfl) (by kernel_rfl) ?_; clear ha a; intro a ha
          refine stepbs ha HW 23 3 1 1 #[.int .i64 (IntKind.wrap .i64 (8 * x98))] [.int .i64 (IntKind.wrap .i64 (8 * x98))] (by decide) (by kernel_rfl) (by kernel_rfl) (by kernel_rfl) (by kernel_rfl) ?_; clear ha HW a; intro b123 a W124 HW ha
          replace HW : Wd w W124 [] [⟨3, 1, .slice (some ⟨b123, 0, none⟩) ([IntKind.wrap .i64 (8 * x98)] : List Int).length 1, ([IntKind.wrap .i64 (8 * x98)] : List Int).length, encs (encI .i64) ([IntKind.wrap .i64 (8 * x98)] : List Int)⟩, ⟨3, 1, .slice A95 x94.length c96, x94.length, encs (encI .i64) x94⟩] := HW
          replace ha := ha.turn 23 (v := .slice (some ⟨b123, 0, none⟩) ([IntKind.wrap .i64 (8 * x98)] : List Int).length 1) (by kernel_rfl) rfl
          obtain ⟨hA126, h_⟩ := asrt_some h; clear h; have h := h_; clear h_
          refine stepape (encI .i64) ha HW 24 1 63 3 (.tmp 20) (.tmp 23) (.int .i64 0) 1 8 (.slice A95 x94.length c96) x94 (.slice (some ⟨b123, 0, none⟩) ([IntKind.wrap .i64 (8 * x98)] : List Int).length 1) ([IntKind.wrap .i64 (8 * x98)] : List Int) (by kernel_rfl) rfl (by kernel_rfl) (by kernel_rfl) (HW.rdo (i := 0) (q := ⟨3, 1, .slice (some ⟨b123, 0, none⟩) ([IntKind.wrap .i64 (8 * x98)] : List Int).length 1, ([IntKind.wrap .i64 (8 * x98)] : List Int).length, encs (encI .i64) ([IntKind.wrap .i64 (8 * x98)] : List Int)⟩) (by kernel_rfl)) (fun _ => rfl) (by kernel_rfl) (by kernel_rfl) (by kernel_rfl) (by decide) (by have := hA126; unfold maxLen; omega) (by have := hA126; omega) (by kernel_rfl) ?_; clear ha HW a; intro A127 c128 a W129 HW ha
          refine stepp ha 5 (.slice A127 (x94 ++ ([IntKind.wrap .i64 (8 * x98)] : List Int)).length c128) (by kernel_rfl) (by kernel_rfl) ?_; clear ha a; intro a ha
          refine endl ?_
          refine blkN ?_
          refine thenN (hK108 _ _ ?_); clear hK108
          refine wp_region_lit ?_
          refine stepp ha 25 (.int .i64 (IntKind.wrap .i64 (x98 + 1))) (by kernel_rfl) (by kernel_rfl) ?_; clear ha a; intro a ha
          refine stepp ha 8 (.int .i64 (IntKind.wrap .i64 (x98 + 1))) (by kernel_rfl) (by kernel_rfl) ?_; clear ha a; intro a ha
          refine endl ?_
          exact thenN ⟨k100, Nat.lt_succ_self k100, x94 ++ ([IntKind.wrap .i64 (8 * x98)] : List Int), A127, c128, IntKind.wrap .i64 (x98 + 1), (by rw [← hag101]; exact h), ha.sub (subs_cons (by kernel_rfl) (subs_cons (by kernel_rfl) (subs_cons (by kernel_rfl) (subs_cons (by kernel_rfl) (subs_cons (by kernel_rfl) (subs_nil _)))))), HW.pick [] [1] (by decide) (by decide) (by kernel_rfl) (by kernel_rfl)⟩
      · skip
        replace h := ite_neg' h hp106
        refine condF ha (by kernel_rfl) (by kernel_rfl) (t := decide (x98 < a0)) (decide_eq_false hp106) ?_
        refine wp_exit ?_
        refine thenE ?_
        refine thenE ?_
        refine inBlk ?_
        refine thenN (hK21 _ _ ?_); clear hK21
        refine wp_seq_k (fun K132 hK133 => ?_)
        refine wp_region_lit ?_
        refine stepp ha 26 (.slice A95 x94.length c96) (by kernel_rfl) (by kernel_rfl) ?_; clear ha a; intro a ha
        refine stepp ha 4 (.slice A95 x94.length c96) (by kernel_rfl) (by kernel_rfl) ?_; clear ha a; intro a ha
        refine endl ?_
        refine thenN (hK133 _ _ ?_); clear hK133
        refine wp_ret ?_
        obtain rfl := Option.some.inj h
        exact finv ha _ _ rfl (.tmp (v := .slice A95 x94.length c96) (by kernel_rfl) .nil) (.slice A95 x94.length c96) rfl ⟨A95, c96, rfl, HW.pick [] [0] (by decide) (by decide) rfl (by kernel_rfl)⟩
end Go.Proofs.Ytceagilmillgfaa.F
