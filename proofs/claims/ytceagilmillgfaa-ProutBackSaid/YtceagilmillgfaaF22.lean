/- headgate/fields.get[uint64]: a plain function, and that the call comes to what it says. No condition. -/
import Derived.Test.YtceagilmillgfaaFT
import Derived.Test.YtceagilmillgfaaF25
namespace Go.Proofs.Ytceagilmillgfaa.F
open Go Go.RowKit Go.Proofs.Ytceagilmillgfaa.X
set_option linter.unusedVariables false
set_option linter.unusedSimpArgs false
/-! ### headgate/fields.get[uint64]: function 22 -/
def fields_get_uint64.b0 (K : Nat) (a0 : ByteArray) (a1 : Int) (t158 : List Int) (again201 : Int → Int → Option (Int × Bool)) (x202 : Int) (x203 : Int) : Option (Int × Bool) :=
  if x203 < (t158.length : Int) then (asrt (0 ≤ x203) (asrt (0 ≤ (IntKind.wrap .i64 (a1 + x203))) (asrt ((IntKind.wrap .i64 (a1 + x203)) < (a0.size : Int)) (asrt (0 ≤ (rdL (0 : Int) t158 x203)) (again201 (bor .u64 x202 (sshl .u64 (IntKind.wrap .u64 (bt a0 (IntKind.wrap .i64 (a1 + x203)))) (rdL (0 : Int) t158 x203))) (IntKind.wrap .i64 (x203 + 1))))))) else (some (x202, true))
def fields_get_uint64.l0 (K : Nat) (a0 : ByteArray) (a1 : Int) (t158 : List Int) : Nat → Int → Int → Option (Int × Bool)
  | 0, _, _ => none
  | k_ + 1, x202, x203 => fields_get_uint64.b0 K a0 a1 t158 (fields_get_uint64.l0 K a0 a1 t158 k_) x202 x203
def fields_get_uint64.f (K : Nat) (a0 : ByteArray) (a1 : Int) (a2 : Int) (a3 : Bool) : Option (Int × Bool) :=
  if a2 < 1 then (some (0, false)) else (if a2 > 8 then (some (0, false)) else (if a1 < 0 then (some (0, false)) else (if a1 > (IntKind.wrap .i64 ((a0.size : Int) - a2)) then (some (0, false)) else ((fields_shifts.f K a2 a3).bind fun t158 => (fields_get_uint64.l0 K a0 a1 t158 K 0 0)))))
set_option maxRecDepth 100000 in
set_option maxHeartbeats 4000000 in
theorem fields_get_uint64.calls (K : Nat) (a0 : ByteArray) (a1 : Int) (a2 : Int) (a3 : Bool)  (r : Int × Bool) (w : World)  (h : fields_get_uint64.f K a0 a1 a2 a3 = some r) :
    Calls Try.prog 22 #[.string a0, .int .i64 a1, .int .i64 a2, .bool a3] w (fun e W' => e = .returned (.tuple #[.int .u64 r.1, .bool r.2]) ∧ Wd w W' [] [] ) := by
  refine sxstart (n := 52) (l := [(0, .string a0), (1, .int .i64 a1), (2, .int .i64 a2), (3, .bool a3)]) Try.func22 rfl rfl (Nat.le_of_ble_eq_true (by kernel_rfl)) (subsA_cons rfl (subsA_cons rfl (subsA_cons rfl (subsA_cons rfl (subsA_nil _))))) ?_
  intro a ha
  have HW := Wd.refl w
  unfold fields_get_uint64.f at h
  refine wp_seq_k (fun K134 hK135 => ?_)
  refine wp_region_lit ?_
  refine stepp ha 8 (.int .u64 0) (by kernel_rfl) (by kernel_rfl) ?_; clear ha a; intro a ha
  refine stepp ha 9 (.bool false) (by kernel_rfl) (by kernel_rfl) ?_; clear ha a; intro a ha
  refine endl ?_
  refine thenN (hK135 _ _ ?_); clear hK135
  refine wp_seq_k (fun K136 hK137 => ?_)
  refine wp_seq_k (fun K138 hK139 => ?_)
  refine wp_region_lit ?_
  refine stepp ha 13 (.int .i64 a2) (by kernel_rfl) (by kernel_rfl) ?_; clear ha a; intro a ha
  refine stepp ha 14 (.bool (decide (a2 < 1))) (by kernel_rfl) (by kernel_rfl) ?_; clear ha a; intro a ha
  refine stepp ha 15 (.bool (decide (a2 < 1))) (by kernel_rfl) (by kernel_rfl) ?_; clear ha a; intro a ha
  by_cases hp140 : a2 < 1
  · skip
    replace h := ite_pos' h hp140
    replace ha := ha.bool 15 (by kernel_rfl) (decide_eq_true hp140)
    refine stepo ha 16 (by kernel_rfl) ?_; clear ha a; intro a ha
    refine stepo ha 17 (by kernel_rfl) ?_; clear ha a; intro a ha
    refine stepp ha 18 (.bool true) (by kernel_rfl) (by kernel_rfl) ?_; clear ha a; intro a ha
    refine stepp ha 19 (.bool true) (by kernel_rfl) (by kernel_rfl) ?_; clear ha a; intro a ha
    refine stepo ha 20 (by kernel_rfl) ?_; clear ha a; intro a ha
    refine stepo ha 21 (by kernel_rfl) ?_; clear ha a; intro a ha
    refine stepp ha 22 (.bool true) (by kernel_rfl) (by kernel_rfl) ?_; clear ha a; intro a ha
    refine stepp ha 23 (.bool true) (by kernel_rfl) (by kernel_rfl) ?_; clear ha a; intro a ha
    refine stepo ha 24 (by kernel_rfl) ?_; clear ha a; intro a ha
    refine stepo ha 25 (by kernel_rfl) ?_; clear ha a; intro a ha
    refine stepo ha 26 (by kernel_rfl) ?_; clear ha a; intro a ha
    refine stepo ha 27 (by kernel_rfl) ?_; clear ha a; intro a ha
    refine stepo ha 28 (by kernel_rfl) ?_; clear ha a; intro a ha
    refine stepo ha 29 (by kernel_rfl) ?_; clear ha a; intro a ha
    refine stepp ha 30 (.bool true) (by kernel_rfl) (by kernel_rfl) ?_; clear ha a; intro a ha
    refine endl ?_
    refine thenN (hK139 _ _ ?_); clear hK139
    refine condT ha (by kernel_rfl) (by kernel_rfl) (t := true) (rfl) ?_
    refine wp_seq_k (fun K143 hK144 => ?_)
    refine wp_region_lit ?_
    refine stepp ha 8 (.int .u64 0) (by kernel_rfl) (by kernel_rfl) ?_; clear ha a; intro a ha
    refine stepp ha 9 (.bool false) (by kernel_rfl) (by kernel_rfl) ?_; clear ha a; intro a ha
    refine endl ?_
    refine thenN (hK144 _ _ ?_); clear hK144
    refine wp_ret ?_
    refine thenR ?_
    obtain rfl := Option.some.inj h
    exact finv ha _ _ rfl (.tmp (v := .int .u64 0) (by kernel_rfl) (.tmp (v := .bool false) (by kernel_rfl) .nil)) (.tuple #[.int .u64 0, .bool false]) rfl ⟨rfl, HW.pick [] [] (by decide) (by decide) rfl (by kernel_rfl)⟩
  · skip
    replace h := ite_neg' h hp140
    replace ha := ha.bool 15 (by kernel_rfl) (decide_eq_false hp140)
    refine stepp ha 16 (.int .i64 a2) (by kernel_rfl) (by kernel_rfl) ?_; clear ha a; intro a ha
    refine stepp ha 17 (.bool (decide (a2 > 8))) (by kernel_rfl) (by kernel_rfl) ?_; clear ha a; intro a ha
    refine stepp ha 18 (.bool (decide (a2 > 8))) (by kernel_rfl) (by kernel_rfl) ?_; clear ha a; intro a ha
    refine stepp ha 19 (.bool (decide (a2 > 8))) (by kernel_rfl) (by kernel_rfl) ?_; clear ha a; intro a ha
    by_cases hp141 : a2 > 8
    · skip
      replace h := ite_pos' h hp141
      replace ha := ha.bool 19 (by kernel_rfl) (decide_eq_true hp141)
      refine stepo ha 20 (by kernel_rfl) ?_; clear ha a; intro a ha
      refine stepo ha 21 (by kernel_rfl) ?_; clear ha a; intro a ha
      refine stepp ha 22 (.bool true) (by kernel_rfl) (by kernel_rfl) ?_; clear ha a; intro a ha
      refine stepp ha 23 (.bool true) (by kernel_rfl) (by kernel_rfl) ?_; clear ha a; intro a ha
      refine stepo ha 24 (by kernel_rfl) ?_; clear ha a; intro a ha
      refine stepo ha 25 (by kernel_rfl) ?_; clear ha a; intro a ha
      refine stepo ha 26 (by kernel_rfl) ?_; clear ha a; intro a ha
      refine stepo ha 27 (by kernel_rfl) ?_; clear ha a; intro a ha
      refine stepo ha 28 (by kernel_rfl) ?_; clear ha a; intro a ha
      refine stepo ha 29 (by kernel_rfl) ?_; clear ha a; intro a ha
      refine stepp ha 30 (.bool true) (by kernel_rfl) (by kernel_rfl) ?_; clear ha a; intro a ha
      refine endl ?_
      refine thenN (hK139 _ _ ?_); clear hK139
      refine condT ha (by kernel_rfl) (by kernel_rfl) (t := true) (rfl) ?_
      refine wp_seq_k (fun K145 hK146 => ?_)
      refine wp_region_lit ?_
      refine stepp ha 8 (.int .u64 0) (by kernel_rfl) (by kernel_rfl) ?_; clear ha a; intro a ha
      refine stepp ha 9 (.bool false) (by kernel_rfl) (by kernel_rfl) ?_; clear ha a; intro a ha
      refine endl ?_
      refine thenN (hK146 _ _ ?_); clear hK146
      refine wp_ret ?_
      refine thenR ?_
      obtain rfl := Option.some.inj h
      exact finv ha _ _ rfl (.tmp (v := .int .u64 0) (by kernel_rfl) (.tmp (v := .bool false) (by kernel_rfl) .nil)) (.tuple #[.int .u64 0, .bool false]) rfl ⟨rfl, HW.pick [] [] (by decide) (by decide) rfl (by kernel_rfl)⟩
    · skip
      replace h := ite_neg' h hp141
      replace ha := ha.bool 19 (by kernel_rfl) (decide_eq_false hp141)
      refine stepp ha 20 (.int .i64 a1) (by kernel_rfl) (by kernel_rfl) ?_; clear ha a; intro a ha
      refine stepp ha 21 (.bool (decide (a1 < 0))) (by kernel_rfl) (by kernel_rfl) ?_; clear ha a; intro a ha
      refine stepp ha 22 (.bool (decide (a1 < 0))) (by kernel_rfl) (by kernel_rfl) ?_; clear ha a; intro a ha
      refine stepp ha 23 (.bool (decide (a1 < 0))) (by kernel_rfl) (by kernel_rfl) ?_; clear ha a; intro a ha
      by_cases hp142 : a1 < 0
      · skip
        replace h := ite_pos' h hp142
        replace ha := ha.bool 23 (by kernel_rfl) (decide_eq_true hp142)
        refine stepo ha 24 (by kernel_rfl) ?_; clear ha a; intro a ha
        refine stepo ha 25 (by kernel_rfl) ?_; clear ha a; intro a ha
        refine stepo ha 26 (by kernel_rfl) ?_; clear ha a; intro a ha
        refine stepo ha 27 (by kernel_rfl) ?_; clear ha a; intro a ha
        refine stepo ha 28 (by kernel_rfl) ?_; clear ha a; intro a ha
        refine stepo ha 29 (by kernel_rfl) ?_; clear ha a; intro a ha
        refine stepp ha 30 (.bool true) (by kernel_rfl) (by kernel_rfl) ?_; clear ha a; intro a ha
        refine endl ?_
        refine thenN (hK139 _ _ ?_); clear hK139
        refine condT ha (by kernel_rfl) (by kernel_rfl) (t := true) (rfl) ?_
        refine wp_seq_k (fun K147 hK148 => ?_)
        refine wp_region_lit ?_
        refine stepp ha 8 (.int .u64 0) (by kernel_rfl) (by kernel_rfl) ?_; clear ha a; intro a ha
        refine stepp ha 9 (.bool false) (by kernel_rfl) (by kernel_rfl) ?_; clear ha a; intro a ha
        refine endl ?_
        refine thenN (hK148 _ _ ?_); clear hK148
        refine wp_ret ?_
        refine thenR ?_
        obtain rfl := Option.some.inj h
        exact finv ha _ _ rfl (.tmp (v := .int .u64 0) (by kernel_rfl) (.tmp (v := .bool false) (by kernel_rfl) .nil)) (.tuple #[.int .u64 0, .bool false]) rfl ⟨rfl, HW.pick [] [] (by decide) (by decide) rfl (by kernel_rfl)⟩
      · skip
        replace h := ite_neg' h hp142
        replace ha := ha.bool 23 (by kernel_rfl) (decide_eq_false hp142)
        refine stepp ha 24 (.int .i64 a1) (by kernel_rfl) (by kernel_rfl) ?_; clear ha a; intro a ha
        refine stepp ha 25 (.string a0) (by kernel_rfl) (by kernel_rfl) ?_; clear ha a; intro a ha
        refine stepp ha 26 (.int .i64 (a0.size : Int)) (by kernel_rfl) (by kernel_rfl) ?_; clear ha a; intro a ha
        refine stepp ha 27 (.int .i64 a2) (by kernel_rfl) (by kernel_rfl) ?_; clear ha a; intro a ha
        refine stepp ha 28 (.int .i64 (IntKind.wrap .i64 ((a0.size : Int) - a2))) (by kernel_rfl) (by kernel_rfl) ?_; clear ha a; intro a ha
        refine stepp ha 29 (.bool (decide (a1 > (IntKind.wrap .i64 ((a0.size : Int) - a2))))) (by kernel_rfl) (by kernel_rfl) ?_; clear ha a; intro a ha
        refine stepp ha 30 (.bool (decide (a1 > (IntKind.wrap .i64 ((a0.size : Int) - a2))))) (by kernel_rfl) (by kernel_rfl) ?_; clear ha a; intro a ha
        refine endl ?_
        refine thenN (hK139 _ _ ?_); clear hK139
        by_cases hp149 : a1 > (IntKind.wrap .i64 ((a0.size : Int) - a2))
        · skip
          replace h := ite_pos' h hp149
          refine condT ha (by kernel_rfl) (by kernel_rfl) (t := decide (a1 > (IntKind.wrap .i64 ((a0.size : Int) - a2)))) (decide_eq_true hp149) ?_
          refine wp_seq_k (fun K150 hK151 => ?_)
          refine wp_region_lit ?_
          refine stepp ha 8 (.int .u64 0) (by kernel_rfl) (by kernel_rfl) ?_; clear ha a; intro a ha
          refine stepp ha 9 (.bool false) (by kernel_rfl) (by kernel_rfl) ?_; clear ha a; intro a ha
          refine endl ?_
          refine thenN (hK151 _ _ ?_); clear hK151
          refine wp_ret ?_
          refine thenR ?_
          obtain rfl := Option.some.inj h
          exact finv ha _ _ rfl (.tmp (v := .int .u64 0) (by kernel_rfl) (.tmp (v := .bool false) (by kernel_rfl) .nil)) (.tuple #[.int .u64 0, .bool false]) rfl ⟨rfl, HW.pick [] [] (by decide) (by decide) rfl (by kernel_rfl)⟩
        · skip
          replace h := ite_neg' h hp149
          refine condF ha (by kernel_rfl) (by kernel_rfl) (t := decide (a1 > (IntKind.wrap .i64 ((a0.size : Int) - a2)))) (decide_eq_false hp149) ?_
          refine wp_skip ?_
          refine thenN (hK137 _ _ ?_); clear hK137
          refine wp_seq_k (fun K152 hK153 => ?_)
          refine wp_region_lit ?_
          refine stepp ha 10 (.int .u64 0) (by kernel_rfl) (by kernel_rfl) ?_; clear ha a; intro a ha
          refine endl ?_
          refine thenN (hK153 _ _ ?_); clear hK153
          refine wp_seq_k (fun K154 hK155 => ?_)
          refine wp_seq_k (fun K156 hK157 => ?_)
          refine wp_region_lit ?_
          refine stepp ha 31 (.int .i64 a2) (by kernel_rfl) (by kernel_rfl) ?_; clear ha a; intro a ha
          refine stepp ha 32 (.bool a3) (by kernel_rfl) (by kernel_rfl) ?_; clear ha a; intro a ha
          obtain ⟨t158, ht159, h_⟩ := bind_some' h; clear h; have h := h_; clear h_
          refine stepc ha 33 (by kernel_rfl) (by kernel_rfl) (fields_shifts.calls K a2 a3 t158 _ ht159) ?_; clear ha a; rintro e W163 ⟨A160, c161, rfl, HX164⟩
          refine ⟨_, rfl, ?_⟩; intro a ha; replace HW := HW.callw HX164; clear HX164
          refine stepp ha 34 (.int .i64 (t158.length : Int)) (by kernel_rfl) (by kernel_rfl) ?_; clear ha a; intro a ha
          refine stepp ha 35 (.int .i64 0) (by kernel_rfl) (by kernel_rfl) ?_; clear ha a; intro a ha
          refine endl ?_
          refine thenN (hK157 _ _ ?_); clear hK157
          refine wp_block ?_
          refine loopk (fun k => fun a W204 => ∃ (x202 : Int), ∃ (x203 : Int), fields_get_uint64.l0 K a0 a1 t158 k x202 x203 = some r ∧ Has 52 [(0, .string a0), (1, .int .i64 a1), (10, .int .u64 x202), (33, .slice A160 t158.length c161), (34, .int .i64 (t158.length : Int)), (35, .int .i64 x203)] a ∧ Wd w W204 [] [⟨3, 1, .slice A160 t158.length c161, t158.length, encs (encI .i64) t158⟩]) K ?_ ?_
          · skip
            exact ⟨0, 0, h, ha.sub (subs_cons (by kernel_rfl) (subs_cons (by kernel_rfl) (subs_cons (by kernel_rfl) (subs_cons (by kernel_rfl) (subs_cons (by kernel_rfl) (subs_cons (by kernel_rfl) (subs_nil _))))))), HW.pick [] [0] (by decide) (by decide) (by kernel_rfl) (by kernel_rfl)⟩
          · skip
            intro k a W204 hI
            obtain ⟨x202, x203, h, ha, HW⟩ := hI
            cases k with
            | zero => exact (none_some (show none = some r from h)).elim
            | succ k205 =>
              replace h : fields_get_uint64.b0 K a0 a1 t158 (fields_get_uint64.l0 K a0 a1 t158 k205) x202 x203 = some r := h
              obtain ⟨again201, hag206⟩ : ∃ g_, g_ = fields_get_uint64.l0 K a0 a1 t158 k205 := ⟨_, rfl⟩
              rw [← hag206] at h
              unfold fields_get_uint64.b0 at h
              refine wp_seq_k (fun K207 hK208 => ?_)
              refine wp_region_lit ?_
              refine stepp ha 36 (.bool (decide (x203 < (t158.length : Int)))) (by kernel_rfl) (by kernel_rfl) ?_; clear ha a; intro a ha
              refine endl ?_
              refine thenN (hK208 _ _ ?_); clear hK208
              refine wp_seq_k (fun K209 hK210 => ?_)
              by_cases hp211 : x203 < (t158.length : Int)
              · skip
                replace h := ite_pos' h hp211
                refine condT ha (by kernel_rfl) (by kernel_rfl) (t := decide (x203 < (t158.length : Int))) (decide_eq_true hp211) ?_
                refine wp_skip ?_
                refine thenN (hK210 _ _ ?_); clear hK210
                refine wp_seq_k (fun K212 hK213 => ?_)
                refine wp_block ?_
                refine wp_seq_k (fun K214 hK215 => ?_)
                refine wp_region_lit ?_
                refine stepp ha 37 (.int .i64 x203) (by kernel_rfl) (by kernel_rfl) ?_; clear ha a; intro a ha
                obtain ⟨hA216, h_⟩ := asrt_some h; clear h; have h := h_; clear h_
                refine stepie (encI .i64) (0 : Int) ha 38 (fun _ => rfl) (v := .slice A160 t158.length c161) (xs := t158) (HW.rdo (i := 0) (q := ⟨3, 1, .slice A160 t158.length c161, t158.length, encs (encI .i64) t158⟩) (by kernel_rfl)) 63 3 (.tmp 33) (.tmp 35) .i64 x203 rfl (by kernel_rfl) (by kernel_rfl) (by kernel_rfl) (by kernel_rfl) hA216 (show (x203 : Int) < ((t158).length : Int) from hp211) (by kernel_rfl) ?_; clear ha a; intro b217 off218 a hC219 ha
                refine stepl ha 39 hC219 3 0 (.tmp 38) (.int .i64 (rdL (0 : Int) t158 x203)) rfl (by kernel_rfl) (by kernel_rfl) (by kernel_rfl) ?_; clear ha a; intro a ha
                refine stepp ha 11 (.int .i64 x203) (by kernel_rfl) (by kernel_rfl) ?_; clear ha a; intro a ha
                refine stepp ha 12 (.int .i64 (rdL (0 : Int) t158 x203)) (by kernel_rfl) (by kernel_rfl) ?_; clear ha a; intro a ha
                refine endl ?_
                refine thenN (hK215 _ _ ?_); clear hK215
                refine wp_region_lit ?_
                refine stepp ha 40 (.int .u64 x202) (by kernel_rfl) (by kernel_rfl) ?_; clear ha a; intro a ha
                refine stepp ha 41 (.string a0) (by kernel_rfl) (by kernel_rfl) ?_; clear ha a; intro a ha
                refine stepp ha 42 (.int .i64 a1) (by kernel_rfl) (by kernel_rfl) ?_; clear ha a; intro a ha
                refine stepp ha 43 (.int .i64 x203) (by kernel_rfl) (by kernel_rfl) ?_; clear ha a; intro a ha
                refine stepp ha 44 (.int .i64 (IntKind.wrap .i64 (a1 + x203))) (by kernel_rfl) (by kernel_rfl) ?_; clear ha a; intro a ha
                obtain ⟨hA220, h_⟩ := asrt_some h; clear h; have h := h_; clear h_
                obtain ⟨hA221, h_⟩ := asrt_some h; clear h; have h := h_; clear h_
                refine stepsi ha 45 9 (.tmp 41) (.tmp 44) a0 .i64 (IntKind.wrap .i64 (a1 + x203)) rfl (by kernel_rfl) (by kernel_rfl) (by kernel_rfl) hA220 (show (IntKind.wrap .i64 (a1 + x203) : Int) < ((a0).size : Int) from hA221) (by kernel_rfl) ?_; clear ha a; intro a ha
                refine stepp ha 46 (.int .u64 (IntKind.wrap .u64 (bt a0 (IntKind.wrap .i64 (a1 + x203))))) (by kernel_rfl) (by kernel_rfl) ?_; clear ha a; intro a ha
                refine stepp ha 47 (.int .i64 (rdL (0 : Int) t158 x203)) (by kernel_rfl) (by kernel_rfl) ?_; clear ha a; intro a ha
                obtain ⟨hA222, h_⟩ := asrt_some h; clear h; have h := h_; clear h_
                refine stepshl ha 48 24 3 (.tmp 46) (.tmp 47) .u64 .i64 (IntKind.wrap .u64 (bt a0 (IntKind.wrap .i64 (a1 + x203)))) (rdL (0 : Int) t158 x203) rfl (by kernel_rfl) (by kernel_rfl) hA222 (by kernel_rfl) ?_; clear ha a; intro a ha
                refine stepp ha 49 (.int .u64 (bor .u64 x202 (sshl .u64 (IntKind.wrap .u64 (bt a0 (IntKind.wrap .i64 (a1 + x203)))) (rdL (0 : Int) t158 x203)))) (by kernel_rfl) (by kernel_rfl) ?_; clear ha a; intro a ha
                refine stepp ha 10 (.int .u64 (bor .u64 x202 (sshl .u64 (IntKind.wrap .u64 (bt a0 (IntKind.wrap .i64 (a1 + x203)))) (rdL (0 : Int) t158 x203)))) (by kernel_rfl) (by kernel_rfl) ?_; clear ha a; intro a ha
                refine endl ?_
                refine blkN ?_
                refine thenN (hK213 _ _ ?_); clear hK213
                refine wp_region_lit ?_
                refine stepp ha 50 (.int .i64 (IntKind.wrap .i64 (x203 + 1))) (by kernel_rfl) (by kernel_rfl) ?_; clear ha a; intro a ha
                refine stepp ha 35 (.int .i64 (IntKind.wrap .i64 (x203 + 1))) (by kernel_rfl) (by kernel_rfl) ?_; clear ha a; intro a ha
                refine endl ?_
                exact thenN ⟨k205, Nat.lt_succ_self k205, bor .u64 x202 (sshl .u64 (IntKind.wrap .u64 (bt a0 (IntKind.wrap .i64 (a1 + x203)))) (rdL (0 : Int) t158 x203)), IntKind.wrap .i64 (x203 + 1), (by rw [← hag206]; exact h), ha.sub (subs_cons (by kernel_rfl) (subs_cons (by kernel_rfl) (subs_cons (by kernel_rfl) (subs_cons (by kernel_rfl) (subs_cons (by kernel_rfl) (subs_cons (by kernel_rfl) (subs_nil _))))))), HW.pick [] [0] (by decide) (by decide) (by kernel_rfl) (by kernel_rfl)⟩
              · skip
                replace h := ite_neg' h hp211
                refine condF ha (by kernel_rfl) (by kernel_rfl) (t := decide (x203 < (t158.length : Int))) (decide_eq_false hp211) ?_
                refine wp_exit ?_
                refine thenE ?_
                refine thenE ?_
                refine inBlk ?_
                refine thenN (hK155 _ _ ?_); clear hK155
                refine wp_seq_k (fun K223 hK224 => ?_)
                refine wp_region_lit ?_
                refine stepp ha 51 (.int .u64 x202) (by kernel_rfl) (by kernel_rfl) ?_; clear ha a; intro a ha
                refine stepp ha 8 (.int .u64 x202) (by kernel_rfl) (by kernel_rfl) ?_; clear ha a; intro a ha
                refine stepp ha 9 (.bool true) (by kernel_rfl) (by kernel_rfl) ?_; clear ha a; intro a ha
                refine endl ?_
                refine thenN (hK224 _ _ ?_); clear hK224
                refine wp_ret ?_
                obtain rfl := Option.some.inj h
                exact finv ha _ _ rfl (.tmp (v := .int .u64 x202) (by kernel_rfl) (.tmp (v := .bool true) (by kernel_rfl) .nil)) (.tuple #[.int .u64 x202, .bool true]) rfl ⟨rfl, HW.pick [] [] (by decide) (by decide) rfl (by kernel_rfl)⟩
end Go.Proofs.Ytceagilmillgfaa.F
