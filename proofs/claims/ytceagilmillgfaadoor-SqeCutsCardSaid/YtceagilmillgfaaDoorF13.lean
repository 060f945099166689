/- headgate/sqe.Put: a plain function, and that the call comes to what it says. No condition. -/
import Derived.Test.YtceagilmillgfaaDoorFT
import Derived.Test.YtceagilmillgfaaDoorF42
import Derived.Test.YtceagilmillgfaaDoorF43
import Derived.Test.YtceagilmillgfaaDoorF44
namespace Go.Proofs.YtceagilmillgfaaDoor.F
open Go Go.RowKit Go.Proofs.YtceagilmillgfaaDoor.X
set_option linter.unusedVariables false
set_option linter.unusedSimpArgs false
/-! ### headgate/sqe.Put: function 13 -/
def sqe_Put.j0 (K : Nat) (a0 : T_api_Sqe) (t682 : ByteArray × Bool) (x700 : Int) : Option (ByteArray × Int) :=
  (fields_Set.f t682.1 1 (strOfNums ([bor .u8 64 (IntKind.wrap .u8 a0.f1)] : List Int))).bind fun t707 => ((fields_Set.f t707.1 39 (strOfNums ([x700] : List Int))).bind fun t716 => (some (t716.1, 0)))
def sqe_Put.b0 (K : Nat) (a0 : T_api_Sqe) (a1 : Bool) (again645 : (List Int) → Int → Option (ByteArray × Int)) (x646 : List Int) (x650 : Int) : Option (ByteArray × Int) :=
  if x650 < 6 then (asrt (0 ≤ x650) (asrt (x646.length + ([IntKind.wrap .u64 (rdL (0 : Int) ([a0.f5.f0, a0.f5.f1, a0.f5.f2, a0.f5.f3, a0.f5.f4, a0.f5.f5] : List Int) x650)] : List Int).length ≤ 17592186044416) (again645 (x646 ++ ([IntKind.wrap .u64 (rdL (0 : Int) ([a0.f5.f0, a0.f5.f1, a0.f5.f2, a0.f5.f3, a0.f5.f4, a0.f5.f5] : List Int) x650)] : List Int)) (IntKind.wrap .i64 (x650 + 1))))) else ((sqe_fieldsFor.f K false).bind fun t675 => ((sqe_put.f K 64 t675 x646).bind fun t682 => (if t682.2 = true then (if a1 = true then (sqe_Put.j0 K a0 t682 1) else (sqe_Put.j0 K a0 t682 90)) else (some ((⟨#[]⟩ : ByteArray), 250)))))
def sqe_Put.l0 (K : Nat) (a0 : T_api_Sqe) (a1 : Bool) : Nat → (List Int) → Int → Option (ByteArray × Int)
  | 0, _, _ => none
  | k_ + 1, x646, x650 => sqe_Put.b0 K a0 a1 (sqe_Put.l0 K a0 a1 k_) x646 x650
def sqe_Put.f (K : Nat) (a0 : T_api_Sqe) (a1 : Bool) : Option (ByteArray × Int) :=
  sqe_Put.l0 K a0 a1 K ([IntKind.wrap .u64 a0.f0, IntKind.wrap .u64 a0.f1, IntKind.wrap .u64 a0.f2, IntKind.wrap .u64 a0.f3, IntKind.wrap .u64 a0.f4] : List Int) 0
set_option maxRecDepth 100000 in
set_option maxHeartbeats 4000000 in
theorem sqe_Put.calls (K : Nat) (a0 : T_api_Sqe) (a1 : Bool)  (r : ByteArray × Int) (w : World) (hG1 : CA w 1 0 (encs T_sqe_field.enc G_sqe_endsOf).toArray) (hG2 : CA w 2 0 (encs T_sqe_field.enc G_sqe_fieldsOf).toArray) (h : sqe_Put.f K a0 a1 = some r) :
    Calls Tryd.prog 13 #[.agg #[.int .i64 a0.f0, .int .i64 a0.f1, .int .i64 a0.f2, .int .u32 a0.f3, .int .i64 a0.f4, .int .u32 a0.f5.f0, .int .u32 a0.f5.f1, .int .u32 a0.f5.f2, .int .u32 a0.f5.f3, .int .u32 a0.f5.f4, .int .u32 a0.f5.f5], .bool a1] w (fun e W' => e = .returned (.tuple #[.string r.1, .int .i64 r.2]) ∧ Wd w W' [] [] ) := by
  refine sxstart (n := 68) (l := [(0, .agg #[.int .i64 a0.f0, .int .i64 a0.f1, .int .i64 a0.f2, .int .u32 a0.f3, .int .i64 a0.f4, .int .u32 a0.f5.f0, .int .u32 a0.f5.f1, .int .u32 a0.f5.f2, .int .u32 a0.f5.f3, .int .u32 a0.f5.f4, .int .u32 a0.f5.f5]), (1, .bool a1)]) Tryd.func13 rfl rfl (Nat.le_of_ble_eq_true (by kernel_rfl)) (subsA_cons rfl (subsA_cons rfl (subsA_nil _))) ?_
  intro a ha
  have HW := Wd.refl w
  unfold sqe_Put.f at h
  refine wp_seq_k (fun K589 hK590 => ?_)
  refine wp_region_lit ?_
  refine stepnew ha HW 2 #[.int .i64 a0.f0, .int .i64 a0.f1, .int .i64 a0.f2, .int .u32 a0.f3, .int .i64 a0.f4, .int .u32 a0.f5.f0, .int .u32 a0.f5.f1, .int .u32 a0.f5.f2, .int .u32 a0.f5.f3, .int .u32 a0.f5.f4, .int .u32 a0.f5.f5] 25 (by kernel_rfl) (by kernel_rfl) ?_; clear ha HW a; intro b591 a W592 HW ha
  refine stepp ha 4 (.string (⟨#[]⟩ : ByteArray)) (by kernel_rfl) (by kernel_rfl) ?_; clear ha a; intro a ha
  refine stepp ha 5 (.int .i64 0) (by kernel_rfl) (by kernel_rfl) ?_; clear ha a; intro a ha
  refine endl ?_
  refine thenN (hK590 _ _ ?_); clear hK590
  refine wp_seq_k (fun K593 hK594 => ?_)
  refine wp_region_lit ?_
  refine stepp ha 12 (.pointer (some ⟨b591, 0, none⟩)) (by kernel_rfl) (by kernel_rfl) ?_; clear ha a; intro a ha
  refine stepl ha 13 (HW.ca (i := 0) (b := b591) (C := #[.int .i64 a0.f0, .int .i64 a0.f1, .int .i64 a0.f2, .int .u32 a0.f3, .int .i64 a0.f4, .int .u32 a0.f5.f0, .int .u32 a0.f5.f1, .int .u32 a0.f5.f2, .int .u32 a0.f5.f3, .int .u32 a0.f5.f4, .int .u32 a0.f5.f5]) (T := 25) (fr := (0, 0)) (by kernel_rfl)) 3 0 (.tmp 12) (.int .i64 a0.f0) rfl (by kernel_rfl) (by kernel_rfl) (by kernel_rfl) ?_; clear ha a; intro a ha
  refine stepp ha 14 (.int .u64 (IntKind.wrap .u64 a0.f0)) (by kernel_rfl) (by kernel_rfl) ?_; clear ha a; intro a ha
  refine stepp ha 15 (.pointer (some ⟨b591, 1, none⟩)) (by kernel_rfl) (by kernel_rfl) ?_; clear ha a; intro a ha
  refine stepl ha 16 (HW.ca (i := 0) (b := b591) (C := #[.int .i64 a0.f0, .int .i64 a0.f1, .int .i64 a0.f2, .int .u32 a0.f3, .int .i64 a0.f4, .int .u32 a0.f5.f0, .int .u32 a0.f5.f1, .int .u32 a0.f5.f2, .int .u32 a0.f5.f3, .int .u32 a0.f5.f4, .int .u32 a0.f5.f5]) (T := 25) (fr := (0, 0)) (by kernel_rfl)) 3 1 (.tmp 15) (.int .i64 a0.f1) rfl (by kernel_rfl) (by kernel_rfl) (by kernel_rfl) ?_; clear ha a; intro a ha
  refine stepp ha 17 (.int .u64 (IntKind.wrap .u64 a0.f1)) (by kernel_rfl) (by kernel_rfl) ?_; clear ha a; intro a ha
  refine stepp ha 18 (.pointer (some ⟨b591, 2, none⟩)) (by kernel_rfl) (by kernel_rfl) ?_; clear ha a; intro a ha
  refine stepl ha 19 (HW.ca (i := 0) (b := b591) (C := #[.int .i64 a0.f0, .int .i64 a0.f1, .int .i64 a0.f2, .int .u32 a0.f3, .int .i64 a0.f4, .int .u32 a0.f5.f0, .int .u32 a0.f5.f1, .int .u32 a0.f5.f2, .int .u32 a0.f5.f3, .int .u32 a0.f5.f4, .int .u32 a0.f5.f5]) (T := 25) (fr := (0, 0)) (by kernel_rfl)) 3 2 (.tmp 18) (.int .i64 a0.f2) rfl (by kernel_rfl) (by kernel_rfl) (by kernel_rfl) ?_; clear ha a; intro a ha
  refine stepp ha 20 (.int .u64 (IntKind.wrap .u64 a0.f2)) (by kernel_rfl) (by kernel_rfl) ?_; clear ha a; intro a ha
  refine stepp ha 21 (.pointer (some ⟨b591, 3, none⟩)) (by kernel_rfl) (by kernel_rfl) ?_; clear ha a; intro a ha
  refine stepl ha 22 (HW.ca (i := 0) (b := b591) (C := #[.int .i64 a0.f0, .int .i64 a0.f1, .int .i64 a0.f2, .int .u32 a0.f3, .int .i64 a0.f4, .int .u32 a0.f5.f0, .int .u32 a0.f5.f1, .int .u32 a0.f5.f2, .int .u32 a0.f5.f3, .int .u32 a0.f5.f4, .int .u32 a0.f5.f5]) (T := 25) (fr := (0, 0)) (by kernel_rfl)) 22 3 (.tmp 21) (.int .u32 a0.f3) rfl (by kernel_rfl) (by kernel_rfl) (by kernel_rfl) ?_; clear ha a; intro a ha
  refine stepp ha 23 (.int .u64 (IntKind.wrap .u64 a0.f3)) (by kernel_rfl) (by kernel_rfl) ?_; clear ha a; intro a ha
  refine stepp ha 24 (.pointer (some ⟨b591, 4, none⟩)) (by kernel_rfl) (by kernel_rfl) ?_; clear ha a; intro a ha
  refine stepl ha 25 (HW.ca (i := 0) (b := b591) (C := #[.int .i64 a0.f0, .int .i64 a0.f1, .int .i64 a0.f2, .int .u32 a0.f3, .int .i64 a0.f4, .int .u32 a0.f5.f0, .int .u32 a0.f5.f1, .int .u32 a0.f5.f2, .int .u32 a0.f5.f3, .int .u32 a0.f5.f4, .int .u32 a0.f5.f5]) (T := 25) (fr := (0, 0)) (by kernel_rfl)) 3 4 (.tmp 24) (.int .i64 a0.f4) rfl (by kernel_rfl) (by kernel_rfl) (by kernel_rfl) ?_; clear ha a; intro a ha
  refine stepp ha 26 (.int .u64 (IntKind.wrap .u64 a0.f4)) (by kernel_rfl) (by kernel_rfl) ?_; clear ha a; intro a ha
  refine stepbs ha HW 27 45 1 5 #[.int .u64 (IntKind.wrap .u64 a0.f0), .int .u64 (IntKind.wrap .u64 a0.f1), .int .u64 (IntKind.wrap .u64 a0.f2), .int .u64 (IntKind.wrap .u64 a0.f3), .int .u64 (IntKind.wrap .u64 a0.f4)] [.int .u64 (IntKind.wrap .u64 a0.f0), .int .u64 (IntKind.wrap .u64 a0.f1), .int .u64 (IntKind.wrap .u64 a0.f2), .int .u64 (IntKind.wrap .u64 a0.f3), .int .u64 (IntKind.wrap .u64 a0.f4)] (by decide) (by kernel_rfl) (by kernel_rfl) (by kernel_rfl) (by kernel_rfl) ?_; clear ha HW a; intro b595 a W596 HW ha
  replace HW : Wd w W596 [(b591, .cells #[.int .i64 a0.f0, .int .i64 a0.f1, .int .i64 a0.f2, .int .u32 a0.f3, .int .i64 a0.f4, .int .u32 a0.f5.f0, .int .u32 a0.f5.f1, .int .u32 a0.f5.f2, .int .u32 a0.f5.f3, .int .u32 a0.f5.f4, .int .u32 a0.f5.f5] 25 (0, 0))] [⟨45, 1, .slice (some ⟨b595, 0, none⟩) ([IntKind.wrap .u64 a0.f0, IntKind.wrap .u64 a0.f1, IntKind.wrap .u64 a0.f2, IntKind.wrap .u64 a0.f3, IntKind.wrap .u64 a0.f4] : List Int).length 5, ([IntKind.wrap .u64 a0.f0, IntKind.wrap .u64 a0.f1, IntKind.wrap .u64 a0.f2, IntKind.wrap .u64 a0.f3, IntKind.wrap .u64 a0.f4] : List Int).length, encs (encI .u64) ([IntKind.wrap .u64 a0.f0, IntKind.wrap .u64 a0.f1, IntKind.wrap .u64 a0.f2, IntKind.wrap .u64 a0.f3, IntKind.wrap .u64 a0.f4] : List Int)⟩] := HW
  replace ha := ha.turn 27 (v := .slice (some ⟨b595, 0, none⟩) ([IntKind.wrap .u64 a0.f0, IntKind.wrap .u64 a0.f1, IntKind.wrap .u64 a0.f2, IntKind.wrap .u64 a0.f3, IntKind.wrap .u64 a0.f4] : List Int).length 5) (by kernel_rfl) rfl
  refine stepp ha 6 (.slice (some ⟨b595, 0, none⟩) ([IntKind.wrap .u64 a0.f0, IntKind.wrap .u64 a0.f1, IntKind.wrap .u64 a0.f2, IntKind.wrap .u64 a0.f3, IntKind.wrap .u64 a0.f4] : List Int).length 5) (by kernel_rfl) (by kernel_rfl) ?_; clear ha a; intro a ha
  refine endl ?_
  refine thenN (hK594 _ _ ?_); clear hK594
  refine wp_seq_k (fun K598 hK599 => ?_)
  refine wp_seq_k (fun K600 hK601 => ?_)
  refine wp_region_lit ?_
  refine stepp ha 28 (.pointer (some ⟨b591, 5, none⟩)) (by kernel_rfl) (by kernel_rfl) ?_; clear ha a; intro a ha
  refine stepl ha 29 (HW.ca (i := 0) (b := b591) (C := #[.int .i64 a0.f0, .int .i64 a0.f1, .int .i64 a0.f2, .int .u32 a0.f3, .int .i64 a0.f4, .int .u32 a0.f5.f0, .int .u32 a0.f5.f1, .int .u32 a0.f5.f2, .int .u32 a0.f5.f3, .int .u32 a0.f5.f4, .int .u32 a0.f5.f5]) (T := 25) (fr := (0, 0)) (by kernel_rfl)) 23 5 (.tmp 28) (.agg #[.int .u32 a0.f5.f0, .int .u32 a0.f5.f1, .int .u32 a0.f5.f2, .int .u32 a0.f5.f3, .int .u32 a0.f5.f4, .int .u32 a0.f5.f5]) rfl (by kernel_rfl) (by kernel_rfl) (by kernel_rfl) ?_; clear ha a; intro a ha
  refine stepp ha 30 (.int .i64 0) (by kernel_rfl) (by kernel_rfl) ?_; clear ha a; intro a ha
  refine endl ?_
  refine thenN (hK601 _ _ ?_); clear hK601
  refine wp_block ?_
  refine loopk (fun k => fun a W651 => ∃ (x646 : List Int), ∃ A647, ∃ c648, ∃ (x650 : Int), sqe_Put.l0 K a0 a1 k x646 x650 = some r ∧ Has 68 [(1, .bool a1), (2, .pointer (some ⟨b591, 0, none⟩)), (6, .slice A647 x646.length c648), (29, .agg #[.int .u32 a0.f5.f0, .int .u32 a0.f5.f1, .int .u32 a0.f5.f2, .int .u32 a0.f5.f3, .int .u32 a0.f5.f4, .int .u32 a0.f5.f5]), (30, .int .i64 x650)] a ∧ Wd w W651 [(b591, .cells #[.int .i64 a0.f0, .int .i64 a0.f1, .int .i64 a0.f2, .int .u32 a0.f3, .int .i64 a0.f4, .int .u32 a0.f5.f0, .int .u32 a0.f5.f1, .int .u32 a0.f5.f2, .int .u32 a0.f5.f3, .int .u32 a0.f5.f4, .int .u32 a0.f5.f5] 25 (0, 0))] [⟨45, 1, .slice A647 x646.length c648, x646.length, encs (encI .u64) x646⟩]) K ?_ ?_
  · skip
    exact ⟨([IntKind.wrap .u64 a0.f0, IntKind.wrap .u64 a0.f1, IntKind.wrap .u64 a0.f2, IntKind.wrap .u64 a0.f3, IntKind.wrap .u64 a0.f4] : List Int), some ⟨b595, 0, none⟩, 5, 0, h, ha.sub (subs_cons (by kernel_rfl) (subs_cons (by kernel_rfl) (subs_cons (by kernel_rfl) (subs_cons (by kernel_rfl) (subs_cons (by kernel_rfl) (subs_nil _)))))), HW.pick [0] [0] (by decide) (by decide) (by kernel_rfl) (by kernel_rfl)⟩
  · skip
    intro k a W651 hI
    obtain ⟨x646, A647, c648, x650, h, ha, HW⟩ := hI
    cases k with
    | zero => exact (none_some (show none = some r from h)).elim
    | succ k652 =>
      replace h : sqe_Put.b0 K a0 a1 (sqe_Put.l0 K a0 a1 k652) x646 x650 = some r := h
      obtain ⟨again645, hag653⟩ : ∃ g_, g_ = sqe_Put.l0 K a0 a1 k652 := ⟨_, rfl⟩
      rw [← hag653] at h
      unfold sqe_Put.b0 at h
      refine wp_seq_k (fun K654 hK655 => ?_)
      refine wp_region_lit ?_
      refine stepp ha 31 (.bool (decide (x650 < 6))) (by kernel_rfl) (by kernel_rfl) ?_; clear ha a; intro a ha
      refine endl ?_
      refine thenN (hK655 _ _ ?_); clear hK655
      refine wp_seq_k (fun K656 hK657 => ?_)
      by_cases hp658 : x650 < 6
      · skip
        replace h := ite_pos' h hp658
        refine condT ha (by kernel_rfl) (by kernel_rfl) (t := decide (x650 < 6)) (decide_eq_true hp658) ?_
        refine wp_skip ?_
        refine thenN (hK657 _ _ ?_); clear hK657
        refine wp_seq_k (fun K659 hK660 => ?_)
        refine wp_block ?_
        refine wp_seq_k (fun K661 hK662 => ?_)
        refine wp_region_lit ?_
        obtain ⟨hA663, h_⟩ := asrt_some h; clear h; have h := h_; clear h_
        refine stepai (Value.int .u32) (0 : Int) ha 32 23 6 22 (.tmp 29) (.tmp 30) .i64 x650 ([a0.f5.f0, a0.f5.f1, a0.f5.f2, a0.f5.f3, a0.f5.f4, a0.f5.f5] : List Int) rfl (by kernel_rfl) (by kernel_rfl) (by kernel_rfl) (by kernel_rfl) hA663 hp658 (by kernel_rfl) ?_; clear ha a; intro a ha
        refine stepp ha 8 (.int .u32 (rdL (0 : Int) ([a0.f5.f0, a0.f5.f1, a0.f5.f2, a0.f5.f3, a0.f5.f4, a0.f5.f5] : List Int) x650)) (by kernel_rfl) (by kernel_rfl) ?_; clear ha a; intro a ha
        refine endl ?_
        refine thenN (hK662 _ _ ?_); clear hK662
        refine wp_region_lit ?_
        refine stepp ha 33 (.slice A647 x646.length c648) (by kernel_rfl) (by kernel_rfl) ?_; clear ha a; intro a ha
        refine stepp ha 34 (.int .u32 (rdL (0 : Int) ([a0.f5.f0, a0.f5.f1, a0.f5.f2, a0.f5.f3, a0.f5.f4, a0.f5.f5] : List Int) x650)) (by kernel_rfl) (by kernel_rfl) ?_; clear ha a; intro a ha
        refine stepp ha 35 (.int .u64 (IntKind.wrap .u64 (rdL (0 : Int) ([a0.f5.f0, a0.f5.f1, a0.f5.f2, a0.f5.f3, a0.f5.f4, a0.f5.f5] : List Int) x650))) (by kernel_rfl) (by kernel_rfl) ?_; clear ha a; intro a ha
        refine stepbs ha HW 36 45 1 1 #[.int .u64 (IntKind.wrap .u64 (rdL (0 : Int) ([a0.f5.f0, a0.f5.f1, a0.f5.f2, a0.f5.f3, a0.f5.f4, a0.f5.f5] : List Int) x650))] [.int .u64 (IntKind.wrap .u64 (rdL (0 : Int) ([a0.f5.f0, a0.f5.f1, a0.f5.f2, a0.f5.f3, a0.f5.f4, a0.f5.f5] : List Int) x650))] (by decide) (by kernel_rfl) (by kernel_rfl) (by kernel_rfl) (by kernel_rfl) ?_; clear ha HW a; intro b664 a W665 HW ha
        replace HW : Wd w W665 [(b591, .cells #[.int .i64 a0.f0, .int .i64 a0.f1, .int .i64 a0.f2, .int .u32 a0.f3, .int .i64 a0.f4, .int .u32 a0.f5.f0, .int .u32 a0.f5.f1, .int .u32 a0.f5.f2, .int .u32 a0.f5.f3, .int .u32 a0.f5.f4, .int .u32 a0.f5.f5] 25 (0, 0))] [⟨45, 1, .slice (some ⟨b664, 0, none⟩) ([IntKind.wrap .u64 (rdL (0 : Int) ([a0.f5.f0, a0.f5.f1, a0.f5.f2, a0.f5.f3, a0.f5.f4, a0.f5.f5] : List Int) x650)] : List Int).length 1, ([IntKind.wrap .u64 (rdL (0 : Int) ([a0.f5.f0, a0.f5.f1, a0.f5.f2, a0.f5.f3, a0.f5.f4, a0.f5.f5] : List Int) x650)] : List Int).length, encs (encI .u64) ([IntKind.wrap .u64 (rdL (0 : Int) ([a0.f5.f0, a0.f5.f1, a0.f5.f2, a0.f5.f3, a0.f5.f4, a0.f5.f5] : List Int) x650)] : List Int)⟩, ⟨45, 1, .slice A647 x646.length c648, x646.length, encs (encI .u64) x646⟩] := HW
        replace ha := ha.turn 36 (v := .slice (some ⟨b664, 0, none⟩) ([IntKind.wrap .u64 (rdL (0 : Int) ([a0.f5.f0, a0.f5.f1, a0.f5.f2, a0.f5.f3, a0.f5.f4, a0.f5.f5] : List Int) x650)] : List Int).length 1) (by kernel_rfl) rfl
        obtain ⟨hA667, h_⟩ := asrt_some h; clear h; have h := h_; clear h_
        refine stepape (encI .u64) ha HW 37 1 83 45 (.tmp 33) (.tmp 36) (.int .u64 0) 1 8 (.slice A647 x646.length c648) x646 (.slice (some ⟨b664, 0, none⟩) ([IntKind.wrap .u64 (rdL (0 : Int) ([a0.f5.f0, a0.f5.f1, a0.f5.f2, a0.f5.f3, a0.f5.f4, a0.f5.f5] : List Int) x650)] : List Int).length 1) ([IntKind.wrap .u64 (rdL (0 : Int) ([a0.f5.f0, a0.f5.f1, a0.f5.f2, a0.f5.f3, a0.f5.f4, a0.f5.f5] : List Int) x650)] : List Int) (by kernel_rfl) rfl (by kernel_rfl) (by kernel_rfl) (HW.rdo (i := 0) (q := ⟨45, 1, .slice (some ⟨b664, 0, none⟩) ([IntKind.wrap .u64 (rdL (0 : Int) ([a0.f5.f0, a0.f5.f1, a0.f5.f2, a0.f5.f3, a0.f5.f4, a0.f5.f5] : List Int) x650)] : List Int).length 1, ([IntKind.wrap .u64 (rdL (0 : Int) ([a0.f5.f0, a0.f5.f1, a0.f5.f2, a0.f5.f3, a0.f5.f4, a0.f5.f5] : List Int) x650)] : List Int).length, encs (encI .u64) ([IntKind.wrap .u64 (rdL (0 : Int) ([a0.f5.f0, a0.f5.f1, a0.f5.f2, a0.f5.f3, a0.f5.f4, a0.f5.f5] : List Int) x650)] : List Int)⟩) (by kernel_rfl)) (fun _ => rfl) (by kernel_rfl) (by kernel_rfl) (by kernel_rfl) (by decide) (by have := hA667; unfold maxLen; omega) (by have := hA667; omega) (by kernel_rfl) ?_; clear ha HW a; intro A668 c669 a W670 HW ha
        refine stepp ha 6 (.slice A668 (x646 ++ ([IntKind.wrap .u64 (rdL (0 : Int) ([a0.f5.f0, a0.f5.f1, a0.f5.f2, a0.f5.f3, a0.f5.f4, a0.f5.f5] : List Int) x650)] : List Int)).length c669) (by kernel_rfl) (by kernel_rfl) ?_; clear ha a; intro a ha
        refine endl ?_
        refine blkN ?_
        refine thenN (hK660 _ _ ?_); clear hK660
        refine wp_region_lit ?_
        refine stepp ha 38 (.int .i64 (IntKind.wrap .i64 (x650 + 1))) (by kernel_rfl) (by kernel_rfl) ?_; clear ha a; intro a ha
        refine stepp ha 30 (.int .i64 (IntKind.wrap .i64 (x650 + 1))) (by kernel_rfl) (by kernel_rfl) ?_; clear ha a; intro a ha
        refine endl ?_
        exact thenN ⟨k652, Nat.lt_succ_self k652, x646 ++ ([IntKind.wrap .u64 (rdL (0 : Int) ([a0.f5.f0, a0.f5.f1, a0.f5.f2, a0.f5.f3, a0.f5.f4, a0.f5.f5] : List Int) x650)] : List Int), A668, c669, IntKind.wrap .i64 (x650 + 1), (by rw [← hag653]; exact h), ha.sub (subs_cons (by kernel_rfl) (subs_cons (by kernel_rfl) (subs_cons (by kernel_rfl) (subs_cons (by kernel_rfl) (subs_cons (by kernel_rfl) (subs_nil _)))))), HW.pick [0] [1] (by decide) (by decide) (by kernel_rfl) (by kernel_rfl)⟩
      · skip
        replace h := ite_neg' h hp658
        refine condF ha (by kernel_rfl) (by kernel_rfl) (t := decide (x650 < 6)) (decide_eq_false hp658) ?_
        refine wp_exit ?_
        refine thenE ?_
        refine thenE ?_
        refine inBlk ?_
        refine thenN (hK599 _ _ ?_); clear hK599
        refine wp_seq_k (fun K673 hK674 => ?_)
        refine wp_region_lit ?_
        obtain ⟨t675, ht676, h_⟩ := bind_some' h; clear h; have h := h_; clear h_
        refine stepc ha 40 (by kernel_rfl) (by kernel_rfl) (sqe_fieldsFor.calls K false t675 _ (HW.ca0 hG1) (HW.ca0 hG2) ht676) ?_; clear ha a; rintro e W680 ⟨A677, c678, rfl, HX681⟩
        refine ⟨_, rfl, ?_⟩; intro a ha; replace HW := HW.callw HX681; clear HX681
        refine stepp ha 41 (.slice A647 x646.length c648) (by kernel_rfl) (by kernel_rfl) ?_; clear ha a; intro a ha
        obtain ⟨t682, ht683, h_⟩ := bind_some' h; clear h; have h := h_; clear h_
        refine stepc ha 42 (by kernel_rfl) (by kernel_rfl) (sqe_put.calls K 64 t675 x646 A677 c678 A647 c648 t682 _ (HW.rdo (i := 0) (q := ⟨118, 3, .slice A677 t675.length c678, t675.length, encs T_sqe_field.enc t675⟩) (by kernel_rfl)) (HW.rdo (i := 1) (q := ⟨45, 1, .slice A647 x646.length c648, x646.length, encs (encI .u64) x646⟩) (by kernel_rfl)) ht683) ?_; clear ha a; rintro e W684 ⟨rfl, HX685⟩
        refine ⟨_, rfl, ?_⟩; intro a ha; replace HW := HW.callw HX685; clear HX685
        refine stepp ha 39 (.tuple #[.string t682.1, .bool t682.2]) (by kernel_rfl) (by kernel_rfl) ?_; clear ha a; intro a ha
        refine stepp ha 43 (.string t682.1) (by kernel_rfl) (by kernel_rfl) ?_; clear ha a; intro a ha
        refine stepp ha 44 (.bool t682.2) (by kernel_rfl) (by kernel_rfl) ?_; clear ha a; intro a ha
        refine stepp ha 9 (.string t682.1) (by kernel_rfl) (by kernel_rfl) ?_; clear ha a; intro a ha
        refine stepp ha 10 (.bool t682.2) (by kernel_rfl) (by kernel_rfl) ?_; clear ha a; intro a ha
        refine endl ?_
        refine thenN (hK674 _ _ ?_); clear hK674
        refine wp_seq_k (fun K686 hK687 => ?_)
        refine wp_seq_k (fun K688 hK689 => ?_)
        refine wp_region_lit ?_
        refine stepp ha 45 (.bool t682.2) (by kernel_rfl) (by kernel_rfl) ?_; clear ha a; intro a ha
        refine stepp ha 46 (.bool (!t682.2)) (by kernel_rfl) (by kernel_rfl) ?_; clear ha a; intro a ha
        refine endl ?_
        refine thenN (hK689 _ _ ?_); clear hK689
        by_cases hp690 : t682.2 = true
        · skip
          replace h := ite_pos' h hp690
          refine condF ha (by kernel_rfl) (by kernel_rfl) (t := (!t682.2)) (not_f (hp690)) ?_
          refine wp_skip ?_
          refine thenN (hK687 _ _ ?_); clear hK687
          refine wp_seq_k (fun K693 hK694 => ?_)
          refine wp_region_lit ?_
          refine stepp ha 11 (.int .u8 90) (by kernel_rfl) (by kernel_rfl) ?_; clear ha a; intro a ha
          refine endl ?_
          refine thenN (hK694 _ _ ?_); clear hK694
          refine wp_seq_k (fun K695 hK696 => ?_)
          refine cutn (fun a W701 => ∃ (x700 : Int), sqe_Put.j0 K a0 t682 x700 = some r ∧ Has 68 [(2, .pointer (some ⟨b591, 0, none⟩)), (9, .string t682.1), (11, .int .u8 x700)] a ∧ Wd w W701 [(b591, .cells #[.int .i64 a0.f0, .int .i64 a0.f1, .int .i64 a0.f2, .int .u32 a0.f3, .int .i64 a0.f4, .int .u32 a0.f5.f0, .int .u32 a0.f5.f1, .int .u32 a0.f5.f2, .int .u32 a0.f5.f3, .int .u32 a0.f5.f4, .int .u32 a0.f5.f5] 25 (0, 0))] []) ?_ ?_
          · skip
            refine wp_seq_k (fun K697 hK698 => ?_)
            refine wp_region_lit ?_
            refine stepp ha 47 (.bool a1) (by kernel_rfl) (by kernel_rfl) ?_; clear ha a; intro a ha
            refine endl ?_
            refine thenN (hK698 _ _ ?_); clear hK698
            by_cases hp699 : a1 = true
            · skip
              replace h := ite_pos' h hp699
              refine condT ha (by kernel_rfl) (by kernel_rfl) (t := a1) (hp699) ?_
              refine wp_region_lit ?_
              refine stepp ha 11 (.int .u8 1) (by kernel_rfl) (by kernel_rfl) ?_; clear ha a; intro a ha
              refine endl ?_
              exact thenN ⟨1, h, ha.sub (subs_cons (by kernel_rfl) (subs_cons (by kernel_rfl) (subs_cons (by kernel_rfl) (subs_nil _)))), HW.pick [0] [] (by decide) (by decide) (by kernel_rfl) (by kernel_rfl)⟩
            · skip
              replace h := ite_neg' h hp699
              refine condF ha (by kernel_rfl) (by kernel_rfl) (t := a1) (bool_f hp699) ?_
              refine wp_skip ?_
              exact thenN ⟨90, h, ha.sub (subs_cons (by kernel_rfl) (subs_cons (by kernel_rfl) (subs_cons (by kernel_rfl) (subs_nil _)))), HW.pick [0] [] (by decide) (by decide) (by kernel_rfl) (by kernel_rfl)⟩
          · skip
            intro a W701 hJ
            obtain ⟨x700, h, ha, HW⟩ := hJ
            replace h : sqe_Put.j0 K a0 t682 x700 = some r := h
            unfold sqe_Put.j0 at h
            refine hK696 _ _ ?_; clear hK696
            refine wp_seq_k (fun K702 hK703 => ?_)
            refine wp_region_lit ?_
            refine stepp ha 49 (.string t682.1) (by kernel_rfl) (by kernel_rfl) ?_; clear ha a; intro a ha
            refine stepp ha 50 (.pointer (some ⟨b591, 1, none⟩)) (by kernel_rfl) (by kernel_rfl) ?_; clear ha a; intro a ha
            refine stepl ha 51 (HW.ca (i := 0) (b := b591) (C := #[.int .i64 a0.f0, .int .i64 a0.f1, .int .i64 a0.f2, .int .u32 a0.f3, .int .i64 a0.f4, .int .u32 a0.f5.f0, .int .u32 a0.f5.f1, .int .u32 a0.f5.f2, .int .u32 a0.f5.f3, .int .u32 a0.f5.f4, .int .u32 a0.f5.f5]) (T := 25) (fr := (0, 0)) (by kernel_rfl)) 3 1 (.tmp 50) (.int .i64 a0.f1) rfl (by kernel_rfl) (by kernel_rfl) (by kernel_rfl) ?_; clear ha a; intro a ha
            refine stepp ha 52 (.int .u8 (IntKind.wrap .u8 a0.f1)) (by kernel_rfl) (by kernel_rfl) ?_; clear ha a; intro a ha
            refine stepp ha 53 (.int .u8 (bor .u8 64 (IntKind.wrap .u8 a0.f1))) (by kernel_rfl) (by kernel_rfl) ?_; clear ha a; intro a ha
            refine stepbs ha HW 54 5 1 1 #[.int .u8 (bor .u8 64 (IntKind.wrap .u8 a0.f1))] [.int .u8 (bor .u8 64 (IntKind.wrap .u8 a0.f1))] (by decide) (by kernel_rfl) (by kernel_rfl) (by kernel_rfl) (by kernel_rfl) ?_; clear ha HW a; intro b704 a W705 HW ha
            replace HW : Wd w W705 [(b591, .cells #[.int .i64 a0.f0, .int .i64 a0.f1, .int .i64 a0.f2, .int .u32 a0.f3, .int .i64 a0.f4, .int .u32 a0.f5.f0, .int .u32 a0.f5.f1, .int .u32 a0.f5.f2, .int .u32 a0.f5.f3, .int .u32 a0.f5.f4, .int .u32 a0.f5.f5] 25 (0, 0))] [⟨5, 1, .slice (some ⟨b704, 0, none⟩) ([bor .u8 64 (IntKind.wrap .u8 a0.f1)] : List Int).length 1, ([bor .u8 64 (IntKind.wrap .u8 a0.f1)] : List Int).length, encs (encI .u8) ([bor .u8 64 (IntKind.wrap .u8 a0.f1)] : List Int)⟩] := HW
            replace ha := ha.turn 54 (v := .slice (some ⟨b704, 0, none⟩) ([bor .u8 64 (IntKind.wrap .u8 a0.f1)] : List Int).length 1) (by kernel_rfl) rfl
            refine stepbt ha 55 80 9 5 (.tmp 54) (v := .slice (some ⟨b704, 0, none⟩) ([bor .u8 64 (IntKind.wrap .u8 a0.f1)] : List Int).length 1) (xs := ([bor .u8 64 (IntKind.wrap .u8 a0.f1)] : List Int)) (HW.rdo (i := 0) (q := ⟨5, 1, .slice (some ⟨b704, 0, none⟩) ([bor .u8 64 (IntKind.wrap .u8 a0.f1)] : List Int).length 1, ([bor .u8 64 (IntKind.wrap .u8 a0.f1)] : List Int).length, encs (encI .u8) ([bor .u8 64 (IntKind.wrap .u8 a0.f1)] : List Int)⟩) (by kernel_rfl)) rfl (by kernel_rfl) (by kernel_rfl) (by kernel_rfl) (by kernel_rfl) (by kernel_rfl) ?_; clear ha a; intro a ha
            obtain ⟨t707, ht708, h_⟩ := bind_some' h; clear h; have h := h_; clear h_
            refine stepc ha 56 (by kernel_rfl) (by kernel_rfl) (fields_Set.calls t682.1 1 (strOfNums ([bor .u8 64 (IntKind.wrap .u8 a0.f1)] : List Int)) t707 _ ht708) ?_; clear ha a; rintro e W709 ⟨rfl, HX710⟩
            refine ⟨_, rfl, ?_⟩; intro a ha; replace HW := HW.callw HX710; clear HX710
            refine stepp ha 48 (.tuple #[.string t707.1, .bool t707.2]) (by kernel_rfl) (by kernel_rfl) ?_; clear ha a; intro a ha
            refine stepp ha 57 (.string t707.1) (by kernel_rfl) (by kernel_rfl) ?_; clear ha a; intro a ha
            refine stepp ha 58 (.bool t707.2) (by kernel_rfl) (by kernel_rfl) ?_; clear ha a; intro a ha
            refine stepp ha 9 (.string t707.1) (by kernel_rfl) (by kernel_rfl) ?_; clear ha a; intro a ha
            refine endl ?_
            refine thenN (hK703 _ _ ?_); clear hK703
            refine wp_seq_k (fun K711 hK712 => ?_)
            refine wp_region_lit ?_
            refine stepp ha 60 (.string t707.1) (by kernel_rfl) (by kernel_rfl) ?_; clear ha a; intro a ha
            refine stepp ha 61 (.int .u8 x700) (by kernel_rfl) (by kernel_rfl) ?_; clear ha a; intro a ha
            refine stepbs ha HW 62 5 1 1 #[.int .u8 x700] [.int .u8 x700] (by decide) (by kernel_rfl) (by kernel_rfl) (by kernel_rfl) (by kernel_rfl) ?_; clear ha HW a; intro b713 a W714 HW ha
            replace HW : Wd w W714 [(b591, .cells #[.int .i64 a0.f0, .int .i64 a0.f1, .int .i64 a0.f2, .int .u32 a0.f3, .int .i64 a0.f4, .int .u32 a0.f5.f0, .int .u32 a0.f5.f1, .int .u32 a0.f5.f2, .int .u32 a0.f5.f3, .int .u32 a0.f5.f4, .int .u32 a0.f5.f5] 25 (0, 0))] [⟨5, 1, .slice (some ⟨b713, 0, none⟩) ([x700] : List Int).length 1, ([x700] : List Int).length, encs (encI .u8) ([x700] : List Int)⟩, ⟨5, 1, .slice (some ⟨b704, 0, none⟩) ([bor .u8 64 (IntKind.wrap .u8 a0.f1)] : List Int).length 1, ([bor .u8 64 (IntKind.wrap .u8 a0.f1)] : List Int).length, encs (encI .u8) ([bor .u8 64 (IntKind.wrap .u8 a0.f1)] : List Int)⟩] := HW
            replace ha := ha.turn 62 (v := .slice (some ⟨b713, 0, none⟩) ([x700] : List Int).length 1) (by kernel_rfl) rfl
            refine stepbt ha 63 80 9 5 (.tmp 62) (v := .slice (some ⟨b713, 0, none⟩) ([x700] : List Int).length 1) (xs := ([x700] : List Int)) (HW.rdo (i := 0) (q := ⟨5, 1, .slice (some ⟨b713, 0, none⟩) ([x700] : List Int).length 1, ([x700] : List Int).length, encs (encI .u8) ([x700] : List Int)⟩) (by kernel_rfl)) rfl (by kernel_rfl) (by kernel_rfl) (by kernel_rfl) (by kernel_rfl) (by kernel_rfl) ?_; clear ha a; intro a ha
            obtain ⟨t716, ht717, h_⟩ := bind_some' h; clear h; have h := h_; clear h_
            refine stepc ha 64 (by kernel_rfl) (by kernel_rfl) (fields_Set.calls t707.1 39 (strOfNums ([x700] : List Int)) t716 _ ht717) ?_; clear ha a; rintro e W718 ⟨rfl, HX719⟩
            refine ⟨_, rfl, ?_⟩; intro a ha; replace HW := HW.callw HX719; clear HX719
            refine stepp ha 59 (.tuple #[.string t716.1, .bool t716.2]) (by kernel_rfl) (by kernel_rfl) ?_; clear ha a; intro a ha
            refine stepp ha 65 (.string t716.1) (by kernel_rfl) (by kernel_rfl) ?_; clear ha a; intro a ha
            refine stepp ha 66 (.bool t716.2) (by kernel_rfl) (by kernel_rfl) ?_; clear ha a; intro a ha
            refine stepp ha 9 (.string t716.1) (by kernel_rfl) (by kernel_rfl) ?_; clear ha a; intro a ha
            refine endl ?_
            refine thenN (hK712 _ _ ?_); clear hK712
            refine wp_seq_k (fun K720 hK721 => ?_)
            refine wp_region_lit ?_
            refine stepp ha 67 (.string t716.1) (by kernel_rfl) (by kernel_rfl) ?_; clear ha a; intro a ha
            refine stepp ha 4 (.string t716.1) (by kernel_rfl) (by kernel_rfl) ?_; clear ha a; intro a ha
            refine stepp ha 5 (.int .i64 0) (by kernel_rfl) (by kernel_rfl) ?_; clear ha a; intro a ha
            refine endl ?_
            refine thenN (hK721 _ _ ?_); clear hK721
            refine wp_ret ?_
            obtain rfl := Option.some.inj h
            exact finv ha _ _ rfl (.tmp (v := .string t716.1) (by kernel_rfl) (.tmp (v := .int .i64 0) (by kernel_rfl) .nil)) (.tuple #[.string t716.1, .int .i64 0]) rfl ⟨rfl, HW.pick [] [] (by decide) (by decide) rfl (by kernel_rfl)⟩
        · skip
          replace h := ite_neg' h hp690
          refine condT ha (by kernel_rfl) (by kernel_rfl) (t := (!t682.2)) (not_t (bool_f hp690)) ?_
          refine wp_seq_k (fun K691 hK692 => ?_)
          refine wp_region_lit ?_
          refine stepp ha 4 (.string (⟨#[]⟩ : ByteArray)) (by kernel_rfl) (by kernel_rfl) ?_; clear ha a; intro a ha
          refine stepp ha 5 (.int .i64 250) (by kernel_rfl) (by kernel_rfl) ?_; clear ha a; intro a ha
          refine endl ?_
          refine thenN (hK692 _ _ ?_); clear hK692
          refine wp_ret ?_
          refine thenR ?_
          obtain rfl := Option.some.inj h
          exact finv ha _ _ rfl (.tmp (v := .string (⟨#[]⟩ : ByteArray)) (by kernel_rfl) (.tmp (v := .int .i64 250) (by kernel_rfl) .nil)) (.tuple #[.string (⟨#[]⟩ : ByteArray), .int .i64 250]) rfl ⟨rfl, HW.pick [] [] (by decide) (by decide) rfl (by kernel_rfl)⟩
end Go.Proofs.YtceagilmillgfaaDoor.F
