/- headgate/fields.put[uint64]: a plain function, and that the call comes to what it says. No condition. -/
import Derived.Test.YtceagilmillgfaaDoorFT
import Derived.Test.YtceagilmillgfaaDoorF72
namespace Go.Proofs.YtceagilmillgfaaDoor.F
open Go Go.RowKit Go.Proofs.YtceagilmillgfaaDoor.X
set_option linter.unusedVariables false
set_option linter.unusedSimpArgs false
/-! ### headgate/fields.put[uint64]: function 63 -/
def fields_put_uint64.b0 (K : Nat) (a0 : Int) (t161 : List Int) (again222 : (List Int) → Int → Option ByteArray) (x223 : List Int) (x227 : Int) : Option ByteArray :=
  if x227 < (t161.length : Int) then (asrt (0 ≤ x227) (asrt (0 ≤ (rdL (0 : Int) t161 x227)) (asrt (x223.length + ([IntKind.wrap .u8 (sshr .u64 a0 (rdL (0 : Int) t161 x227))] : List Int).length ≤ 140737488355328) (again222 (x223 ++ ([IntKind.wrap .u8 (sshr .u64 a0 (rdL (0 : Int) t161 x227))] : List Int)) (IntKind.wrap .i64 (x227 + 1)))))) else (some (strOfNums x223))
def fields_put_uint64.l0 (K : Nat) (a0 : Int) (t161 : List Int) : Nat → (List Int) → Int → Option ByteArray
  | 0, _, _ => none
  | k_ + 1, x223, x227 => fields_put_uint64.b0 K a0 t161 (fields_put_uint64.l0 K a0 t161 k_) x223 x227
def fields_put_uint64.f (K : Nat) (a0 : Int) (a1 : Int) (a2 : Bool) : Option ByteArray :=
  if a1 < 1 then (some (⟨#[]⟩ : ByteArray)) else (if a1 > 8 then (some (⟨#[]⟩ : ByteArray)) else ((fields_shifts.f K a1 a2).bind fun t161 => (fields_put_uint64.l0 K a0 t161 K ([] : List Int) 0)))
set_option maxRecDepth 100000 in
set_option maxHeartbeats 4000000 in
theorem fields_put_uint64.calls (K : Nat) (a0 : Int) (a1 : Int) (a2 : Bool)  (r : ByteArray) (w : World)  (h : fields_put_uint64.f K a0 a1 a2 = some r) :
    Calls Tryd.prog 63 #[.int .u64 a0, .int .i64 a1, .bool a2] w (fun e W' => e = .returned (.string r) ∧ Wd w W' [] [] ) := by
  refine sxstart (n := 34) (l := [(0, .int .u64 a0), (1, .int .i64 a1), (2, .bool a2)]) Tryd.func63 rfl rfl (Nat.le_of_ble_eq_true (by kernel_rfl)) (subsA_cons rfl (subsA_cons rfl (subsA_cons rfl (subsA_nil _)))) ?_
  intro a ha
  have HW := Wd.refl w
  unfold fields_put_uint64.f at h
  refine wp_seq_k (fun K143 hK144 => ?_)
  refine wp_region_lit ?_
  refine stepp ha 6 (.string (⟨#[]⟩ : ByteArray)) (by kernel_rfl) (by kernel_rfl) ?_; clear ha a; intro a ha
  refine endl ?_
  refine thenN (hK144 _ _ ?_); clear hK144
  refine wp_seq_k (fun K145 hK146 => ?_)
  refine wp_seq_k (fun K147 hK148 => ?_)
  refine wp_region_lit ?_
  refine stepp ha 10 (.int .i64 a1) (by kernel_rfl) (by kernel_rfl) ?_; clear ha a; intro a ha
  refine stepp ha 11 (.bool (decide (a1 < 1))) (by kernel_rfl) (by kernel_rfl) ?_; clear ha a; intro a ha
  refine stepp ha 12 (.bool (decide (a1 < 1))) (by kernel_rfl) (by kernel_rfl) ?_; clear ha a; intro a ha
  by_cases hp149 : a1 < 1
  · skip
    replace h := ite_pos' h hp149
    replace ha := ha.bool 12 (by kernel_rfl) (decide_eq_true hp149)
    refine stepo ha 13 (by kernel_rfl) ?_; clear ha a; intro a ha
    refine stepo ha 14 (by kernel_rfl) ?_; clear ha a; intro a ha
    refine stepp ha 15 (.bool true) (by kernel_rfl) (by kernel_rfl) ?_; clear ha a; intro a ha
    refine endl ?_
    refine thenN (hK148 _ _ ?_); clear hK148
    refine condT ha (by kernel_rfl) (by kernel_rfl) (t := true) (rfl) ?_
    refine wp_seq_k (fun K150 hK151 => ?_)
    refine wp_region_lit ?_
    refine stepp ha 6 (.string (⟨#[]⟩ : ByteArray)) (by kernel_rfl) (by kernel_rfl) ?_; clear ha a; intro a ha
    refine endl ?_
    refine thenN (hK151 _ _ ?_); clear hK151
    refine wp_ret ?_
    refine thenR ?_
    obtain rfl := Option.some.inj h
    exact finv ha _ _ rfl (.tmp (v := .string (⟨#[]⟩ : ByteArray)) (by kernel_rfl) .nil) (.string (⟨#[]⟩ : ByteArray)) rfl ⟨rfl, HW.pick [] [] (by decide) (by decide) rfl (by kernel_rfl)⟩
  · skip
    replace h := ite_neg' h hp149
    replace ha := ha.bool 12 (by kernel_rfl) (decide_eq_false hp149)
    refine stepp ha 13 (.int .i64 a1) (by kernel_rfl) (by kernel_rfl) ?_; clear ha a; intro a ha
    refine stepp ha 14 (.bool (decide (a1 > 8))) (by kernel_rfl) (by kernel_rfl) ?_; clear ha a; intro a ha
    refine stepp ha 15 (.bool (decide (a1 > 8))) (by kernel_rfl) (by kernel_rfl) ?_; clear ha a; intro a ha
    refine endl ?_
    refine thenN (hK148 _ _ ?_); clear hK148
    by_cases hp152 : a1 > 8
    · skip
      replace h := ite_pos' h hp152
      refine condT ha (by kernel_rfl) (by kernel_rfl) (t := decide (a1 > 8)) (decide_eq_true hp152) ?_
      refine wp_seq_k (fun K153 hK154 => ?_)
      refine wp_region_lit ?_
      refine stepp ha 6 (.string (⟨#[]⟩ : ByteArray)) (by kernel_rfl) (by kernel_rfl) ?_; clear ha a; intro a ha
      refine endl ?_
      refine thenN (hK154 _ _ ?_); clear hK154
      refine wp_ret ?_
      refine thenR ?_
      obtain rfl := Option.some.inj h
      exact finv ha _ _ rfl (.tmp (v := .string (⟨#[]⟩ : ByteArray)) (by kernel_rfl) .nil) (.string (⟨#[]⟩ : ByteArray)) rfl ⟨rfl, HW.pick [] [] (by decide) (by decide) rfl (by kernel_rfl)⟩
    · skip
      replace h := ite_neg' h hp152
      refine condF ha (by kernel_rfl) (by kernel_rfl) (t := decide (a1 > 8)) (decide_eq_false hp152) ?_
      refine wp_skip ?_
      refine thenN (hK146 _ _ ?_); clear hK146
      refine wp_seq_k (fun K155 hK156 => ?_)
      refine wp_region_lit ?_
      refine stepp ha 7 (.slice none 0 0) (by kernel_rfl) (by kernel_rfl) ?_; clear ha a; intro a ha
      refine endl ?_
      refine thenN (hK156 _ _ ?_); clear hK156
      refine wp_seq_k (fun K157 hK158 => ?_)
      refine wp_seq_k (fun K159 hK160 => ?_)
      refine wp_region_lit ?_
      refine stepp ha 16 (.int .i64 a1) (by kernel_rfl) (by kernel_rfl) ?_; clear ha a; intro a ha
      refine stepp ha 17 (.bool a2) (by kernel_rfl) (by kernel_rfl) ?_; clear ha a; intro a ha
      obtain ⟨t161, ht162, h_⟩ := bind_some' h; clear h; have h := h_; clear h_
      refine stepc ha 18 (by kernel_rfl) (by kernel_rfl) (fields_shifts.calls K a1 a2 t161 _ ht162) ?_; clear ha a; rintro e W166 ⟨A163, c164, rfl, HX167⟩
      refine ⟨_, rfl, ?_⟩; intro a ha; replace HW := HW.callw HX167; clear HX167
      refine stepp ha 19 (.int .i64 (t161.length : Int)) (by kernel_rfl) (by kernel_rfl) ?_; clear ha a; intro a ha
      refine stepp ha 20 (.int .i64 0) (by kernel_rfl) (by kernel_rfl) ?_; clear ha a; intro a ha
      refine endl ?_
      refine thenN (hK160 _ _ ?_); clear hK160
      refine wp_block ?_
      refine loopk (fun k => fun a W228 => ∃ (x223 : List Int), ∃ A224, ∃ c225, ∃ (x227 : Int), fields_put_uint64.l0 K a0 t161 k x223 x227 = some r ∧ Has 34 [(0, .int .u64 a0), (7, .slice A224 x223.length c225), (18, .slice A163 t161.length c164), (19, .int .i64 (t161.length : Int)), (20, .int .i64 x227)] a ∧ Wd w W228 [] [⟨5, 1, .slice A224 x223.length c225, x223.length, encs (encI .u8) x223⟩, ⟨3, 1, .slice A163 t161.length c164, t161.length, encs (encI .i64) t161⟩]) K ?_ ?_
      · skip
        replace HW := HW.nilo 5 1
        exact ⟨([] : List Int), none, 0, 0, h, ha.sub (subs_cons (by kernel_rfl) (subs_cons (by kernel_rfl) (subs_cons (by kernel_rfl) (subs_cons (by kernel_rfl) (subs_cons (by kernel_rfl) (subs_nil _)))))), HW.pick [] [0, 1] (by decide) (by decide) (by kernel_rfl) (by kernel_rfl)⟩
      · skip
        intro k a W228 hI
        obtain ⟨x223, A224, c225, x227, h, ha, HW⟩ := hI
        cases k with
        | zero => exact (none_some (show none = some r from h)).elim
        | succ k229 =>
          replace h : fields_put_uint64.b0 K a0 t161 (fields_put_uint64.l0 K a0 t161 k229) x223 x227 = some r := h
          obtain ⟨again222, hag230⟩ : ∃ g_, g_ = fields_put_uint64.l0 K a0 t161 k229 := ⟨_, rfl⟩
          rw [← hag230] at h
          unfold fields_put_uint64.b0 at h
          refine wp_seq_k (fun K231 hK232 => ?_)
          refine wp_region_lit ?_
          refine stepp ha 21 (.bool (decide (x227 < (t161.length : Int)))) (by kernel_rfl) (by kernel_rfl) ?_; clear ha a; intro a ha
          refine endl ?_
          refine thenN (hK232 _ _ ?_); clear hK232
          refine wp_seq_k (fun K233 hK234 => ?_)
          by_cases hp235 : x227 < (t161.length : Int)
          · skip
            replace h := ite_pos' h hp235
            refine condT ha (by kernel_rfl) (by kernel_rfl) (t := decide (x227 < (t161.length : Int))) (decide_eq_true hp235) ?_
            refine wp_skip ?_
            refine thenN (hK234 _ _ ?_); clear hK234
            refine wp_seq_k (fun K236 hK237 => ?_)
            refine wp_block ?_
            refine wp_seq_k (fun K238 hK239 => ?_)
            refine wp_region_lit ?_
            obtain ⟨hA240, h_⟩ := asrt_some h; clear h; have h := h_; clear h_
            refine stepie (encI .i64) (0 : Int) ha 22 (fun _ => rfl) (v := .slice A163 t161.length c164) (xs := t161) (HW.rdo (i := 1) (q := ⟨3, 1, .slice A163 t161.length c164, t161.length, encs (encI .i64) t161⟩) (by kernel_rfl)) 115 3 (.tmp 18) (.tmp 20) .i64 x227 rfl (by kernel_rfl) (by kernel_rfl) (by kernel_rfl) (by kernel_rfl) hA240 (show (x227 : Int) < ((t161).length : Int) from hp235) (by kernel_rfl) ?_; clear ha a; intro b241 off242 a hC243 ha
            refine stepl ha 23 hC243 3 0 (.tmp 22) (.int .i64 (rdL (0 : Int) t161 x227)) rfl (by kernel_rfl) (by kernel_rfl) (by kernel_rfl) ?_; clear ha a; intro a ha
            refine stepp ha 9 (.int .i64 (rdL (0 : Int) t161 x227)) (by kernel_rfl) (by kernel_rfl) ?_; clear ha a; intro a ha
            refine endl ?_
            refine thenN (hK239 _ _ ?_); clear hK239
            refine wp_region_lit ?_
            refine stepp ha 24 (.slice A224 x223.length c225) (by kernel_rfl) (by kernel_rfl) ?_; clear ha a; intro a ha
            refine stepp ha 25 (.int .u64 a0) (by kernel_rfl) (by kernel_rfl) ?_; clear ha a; intro a ha
            refine stepp ha 26 (.int .i64 (rdL (0 : Int) t161 x227)) (by kernel_rfl) (by kernel_rfl) ?_; clear ha a; intro a ha
            obtain ⟨hA244, h_⟩ := asrt_some h; clear h; have h := h_; clear h_
            refine stepshr ha 27 45 3 (.tmp 25) (.tmp 26) .u64 .i64 a0 (rdL (0 : Int) t161 x227) rfl (by kernel_rfl) (by kernel_rfl) hA244 (by kernel_rfl) ?_; clear ha a; intro a ha
            refine stepp ha 28 (.int .u8 (IntKind.wrap .u8 (sshr .u64 a0 (rdL (0 : Int) t161 x227)))) (by kernel_rfl) (by kernel_rfl) ?_; clear ha a; intro a ha
            refine stepbs ha HW 29 5 1 1 #[.int .u8 (IntKind.wrap .u8 (sshr .u64 a0 (rdL (0 : Int) t161 x227)))] [.int .u8 (IntKind.wrap .u8 (sshr .u64 a0 (rdL (0 : Int) t161 x227)))] (by decide) (by kernel_rfl) (by kernel_rfl) (by kernel_rfl) (by kernel_rfl) ?_; clear ha HW a; intro b245 a W246 HW ha
            replace HW : Wd w W246 [] [⟨5, 1, .slice (some ⟨b245, 0, none⟩) ([IntKind.wrap .u8 (sshr .u64 a0 (rdL (0 : Int) t161 x227))] : List Int).length 1, ([IntKind.wrap .u8 (sshr .u64 a0 (rdL (0 : Int) t161 x227))] : List Int).length, encs (encI .u8) ([IntKind.wrap .u8 (sshr .u64 a0 (rdL (0 : Int) t161 x227))] : List Int)⟩, ⟨5, 1, .slice A224 x223.length c225, x223.length, encs (encI .u8) x223⟩, ⟨3, 1, .slice A163 t161.length c164, t161.length, encs (encI .i64) t161⟩] := HW
            replace ha := ha.turn 29 (v := .slice (some ⟨b245, 0, none⟩) ([IntKind.wrap .u8 (sshr .u64 a0 (rdL (0 : Int) t161 x227))] : List Int).length 1) (by kernel_rfl) rfl
            obtain ⟨hA248, h_⟩ := asrt_some h; clear h; have h := h_; clear h_
            refine stepape (encI .u8) ha HW 30 1 80 5 (.tmp 24) (.tmp 29) (.int .u8 0) 1 1 (.slice A224 x223.length c225) x223 (.slice (some ⟨b245, 0, none⟩) ([IntKind.wrap .u8 (sshr .u64 a0 (rdL (0 : Int) t161 x227))] : List Int).length 1) ([IntKind.wrap .u8 (sshr .u64 a0 (rdL (0 : Int) t161 x227))] : List Int) (by kernel_rfl) rfl (by kernel_rfl) (by kernel_rfl) (HW.rdo (i := 0) (q := ⟨5, 1, .slice (some ⟨b245, 0, none⟩) ([IntKind.wrap .u8 (sshr .u64 a0 (rdL (0 : Int) t161 x227))] : List Int).length 1, ([IntKind.wrap .u8 (sshr .u64 a0 (rdL (0 : Int) t161 x227))] : List Int).length, encs (encI .u8) ([IntKind.wrap .u8 (sshr .u64 a0 (rdL (0 : Int) t161 x227))] : List Int)⟩) (by kernel_rfl)) (fun _ => rfl) (by kernel_rfl) (by kernel_rfl) (by kernel_rfl) (by decide) (by have := hA248; unfold maxLen; omega) (by have := hA248; omega) (by kernel_rfl) ?_; clear ha HW a; intro A249 c250 a W251 HW ha
            refine stepp ha 7 (.slice A249 (x223 ++ ([IntKind.wrap .u8 (sshr .u64 a0 (rdL (0 : Int) t161 x227))] : List Int)).length c250) (by kernel_rfl) (by kernel_rfl) ?_; clear ha a; intro a ha
            refine endl ?_
            refine blkN ?_
            refine thenN (hK237 _ _ ?_); clear hK237
            refine wp_region_lit ?_
            refine stepp ha 31 (.int .i64 (IntKind.wrap .i64 (x227 + 1))) (by kernel_rfl) (by kernel_rfl) ?_; clear ha a; intro a ha
            refine stepp ha 20 (.int .i64 (IntKind.wrap .i64 (x227 + 1))) (by kernel_rfl) (by kernel_rfl) ?_; clear ha a; intro a ha
            refine endl ?_
            exact thenN ⟨k229, Nat.lt_succ_self k229, x223 ++ ([IntKind.wrap .u8 (sshr .u64 a0 (rdL (0 : Int) t161 x227))] : List Int), A249, c250, IntKind.wrap .i64 (x227 + 1), (by rw [← hag230]; exact h), ha.sub (subs_cons (by kernel_rfl) (subs_cons (by kernel_rfl) (subs_cons (by kernel_rfl) (subs_cons (by kernel_rfl) (subs_cons (by kernel_rfl) (subs_nil _)))))), HW.pick [] [1, 2] (by decide) (by decide) (by kernel_rfl) (by kernel_rfl)⟩
          · skip
            replace h := ite_neg' h hp235
            refine condF ha (by kernel_rfl) (by kernel_rfl) (t := decide (x227 < (t161.length : Int))) (decide_eq_false hp235) ?_
            refine wp_exit ?_
            refine thenE ?_
            refine thenE ?_
            refine inBlk ?_
            refine thenN (hK158 _ _ ?_); clear hK158
            refine wp_seq_k (fun K254 hK255 => ?_)
            refine wp_region_lit ?_
            refine stepp ha 32 (.slice A224 x223.length c225) (by kernel_rfl) (by kernel_rfl) ?_; clear ha a; intro a ha
            refine stepbt ha 33 80 9 5 (.tmp 32) (v := .slice A224 x223.length c225) (xs := x223) (HW.rdo (i := 0) (q := ⟨5, 1, .slice A224 x223.length c225, x223.length, encs (encI .u8) x223⟩) (by kernel_rfl)) rfl (by kernel_rfl) (by kernel_rfl) (by kernel_rfl) (by kernel_rfl) (by kernel_rfl) ?_; clear ha a; intro a ha
            refine stepp ha 6 (.string (strOfNums x223)) (by kernel_rfl) (by kernel_rfl) ?_; clear ha a; intro a ha
            refine endl ?_
            refine thenN (hK255 _ _ ?_); clear hK255
            refine wp_ret ?_
            obtain rfl := Option.some.inj h
            exact finv ha _ _ rfl (.tmp (v := .string (strOfNums x223)) (by kernel_rfl) .nil) (.string (strOfNums x223)) rfl ⟨rfl, HW.pick [] [] (by decide) (by decide) rfl (by kernel_rfl)⟩
end Go.Proofs.YtceagilmillgfaaDoor.F
