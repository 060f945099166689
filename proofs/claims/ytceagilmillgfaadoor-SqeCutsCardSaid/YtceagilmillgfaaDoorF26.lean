/- headgate/sqe.Ended: a plain function, and that the call comes to what it says. No condition. -/
import Derived.Test.YtceagilmillgfaaDoorFT
import Derived.Test.YtceagilmillgfaaDoorF15
import Derived.Test.YtceagilmillgfaaDoorF43
import Derived.Test.YtceagilmillgfaaDoorF53
namespace Go.Proofs.YtceagilmillgfaaDoor.F
open Go Go.RowKit Go.Proofs.YtceagilmillgfaaDoor.X
set_option linter.unusedVariables false
set_option linter.unusedSimpArgs false
/-! ### headgate/sqe.Ended: function 26 -/
def sqe_Ended.f (K : Nat) (a0 : ByteArray) : Option (T_api_Cqe × Int) :=
  if (a0.size : Int) = 16 then ((sqe_fieldsFor.f K true).bind fun t2621 => ((sqe_get.f K a0 t2621).bind fun t2628 => (asrt (0 < (t2628.length : Int)) (asrt (1 < (t2628.length : Int)) (asrt (2 < (t2628.length : Int)) (asrt (3 < (t2628.length : Int)) (asrt (4 < (t2628.length : Int)) (asrt (5 < (t2628.length : Int)) ((sqe_End.f K (⟨IntKind.wrap .u32 (rdL (0 : Int) t2628 0), IntKind.wrap .u32 (rdL (0 : Int) t2628 1), IntKind.wrap .i64 (rdL (0 : Int) t2628 2), IntKind.wrap .i64 (rdL (0 : Int) t2628 3), IntKind.wrap .i64 (rdL (0 : Int) t2628 4), IntKind.wrap .i64 (IntKind.wrap .u64 (Int.tdiv (rdL (0 : Int) t2628 5) 2))⟩ : T_api_Cqe)).bind fun t2660 => (if t2660.2 = 0 then (if t2660.1 = a0 then (some ((⟨IntKind.wrap .u32 (rdL (0 : Int) t2628 0), IntKind.wrap .u32 (rdL (0 : Int) t2628 1), IntKind.wrap .i64 (rdL (0 : Int) t2628 2), IntKind.wrap .i64 (rdL (0 : Int) t2628 3), IntKind.wrap .i64 (rdL (0 : Int) t2628 4), IntKind.wrap .i64 (IntKind.wrap .u64 (Int.tdiv (rdL (0 : Int) t2628 5) 2))⟩ : T_api_Cqe), 0)) else (some ((⟨0, 0, 0, 0, 0, 0⟩ : T_api_Cqe), 250))) else (some ((⟨0, 0, 0, 0, 0, 0⟩ : T_api_Cqe), 250)))))))))))) else (some ((⟨0, 0, 0, 0, 0, 0⟩ : T_api_Cqe), 250))
set_option maxRecDepth 100000 in
set_option maxHeartbeats 4000000 in
theorem sqe_Ended.calls (K : Nat) (a0 : ByteArray)  (r : T_api_Cqe × Int) (w : World) (hG1 : CA w 1 0 (encs T_sqe_field.enc G_sqe_endsOf).toArray) (hG2 : CA w 2 0 (encs T_sqe_field.enc G_sqe_fieldsOf).toArray) (h : sqe_Ended.f K a0 = some r) :
    Calls Tryd.prog 26 #[.string a0] w (fun e W' => e = .returned (.tuple #[.agg #[.int .u32 r.1.f0, .int .u32 r.1.f1, .int .i64 r.1.f2, .int .i64 r.1.f3, .int .i64 r.1.f4, .int .i64 r.1.f5], .int .i64 r.2]) ∧ Wd w W' [] [] ) := by
  refine sxstart (n := 55) (l := [(0, .string a0)]) Tryd.func26 rfl rfl (Nat.le_of_ble_eq_true (by kernel_rfl)) (subsA_cons rfl (subsA_nil _)) ?_
  intro a ha
  have HW := Wd.refl w
  unfold sqe_Ended.f at h
  refine wp_seq_k (fun K2607 hK2608 => ?_)
  refine wp_region_lit ?_
  refine stepnew ha HW 2 #[.int .u32 0, .int .u32 0, .int .i64 0, .int .i64 0, .int .i64 0, .int .i64 0] 27 (by kernel_rfl) (by kernel_rfl) ?_; clear ha HW a; intro b2609 a W2610 HW ha
  refine stepp ha 3 (.int .i64 0) (by kernel_rfl) (by kernel_rfl) ?_; clear ha a; intro a ha
  refine endl ?_
  refine thenN (hK2608 _ _ ?_); clear hK2608
  refine wp_seq_k (fun K2611 hK2612 => ?_)
  refine wp_seq_k (fun K2613 hK2614 => ?_)
  refine wp_region_lit ?_
  refine stepp ha 8 (.string a0) (by kernel_rfl) (by kernel_rfl) ?_; clear ha a; intro a ha
  refine stepp ha 9 (.int .i64 (a0.size : Int)) (by kernel_rfl) (by kernel_rfl) ?_; clear ha a; intro a ha
  refine stepp ha 10 (.bool ((a0.size : Int) != 16)) (by kernel_rfl) (by kernel_rfl) ?_; clear ha a; intro a ha
  refine endl ?_
  refine thenN (hK2614 _ _ ?_); clear hK2614
  by_cases hp2615 : (a0.size : Int) = 16
  · skip
    replace h := ite_pos' h hp2615
    refine condF ha (by kernel_rfl) (by kernel_rfl) (t := ((a0.size : Int) != 16)) (ineq_f hp2615) ?_
    refine wp_skip ?_
    refine thenN (hK2612 _ _ ?_); clear hK2612
    refine wp_seq_k (fun K2619 hK2620 => ?_)
    refine wp_region_lit ?_
    refine stepp ha 12 (.string a0) (by kernel_rfl) (by kernel_rfl) ?_; clear ha a; intro a ha
    obtain ⟨t2621, ht2622, h_⟩ := bind_some' h; clear h; have h := h_; clear h_
    refine stepc ha 13 (by kernel_rfl) (by kernel_rfl) (sqe_fieldsFor.calls K true t2621 _ (HW.ca0 hG1) (HW.ca0 hG2) ht2622) ?_; clear ha a; rintro e W2626 ⟨A2623, c2624, rfl, HX2627⟩
    refine ⟨_, rfl, ?_⟩; intro a ha; replace HW := HW.callw HX2627; clear HX2627
    obtain ⟨t2628, ht2629, h_⟩ := bind_some' h; clear h; have h := h_; clear h_
    refine stepc ha 14 (by kernel_rfl) (by kernel_rfl) (sqe_get.calls K a0 t2621 A2623 c2624 t2628 _ (HW.rdo (i := 0) (q := ⟨118, 3, .slice A2623 t2621.length c2624, t2621.length, encs T_sqe_field.enc t2621⟩) (by kernel_rfl)) ht2629) ?_; clear ha a; rintro e W2633 ⟨A2630, c2631, rfl, HX2634⟩
    refine ⟨_, rfl, ?_⟩; intro a ha; replace HW := HW.callw HX2634; clear HX2634
    refine stepp ha 4 (.slice A2630 t2628.length c2631) (by kernel_rfl) (by kernel_rfl) ?_; clear ha a; intro a ha
    refine endl ?_
    refine thenN (hK2620 _ _ ?_); clear hK2620
    refine wp_seq_k (fun K2635 hK2636 => ?_)
    obtain ⟨hA2637, h_⟩ := asrt_some h; clear h; have h := h_; clear h_
    obtain ⟨b2639, off2640, hA2641⟩ := Rd.addr (HW.rdo (i := 0) (q := ⟨45, 1, .slice A2630 t2628.length c2631, t2628.length, encs (encI .u64) t2628⟩) (by kernel_rfl)) (by decide) (show (0 : Int) < ((t2628).length : Int) from hA2637)
    obtain ⟨hA2642, h_⟩ := asrt_some h; clear h; have h := h_; clear h_
    obtain ⟨hA2644, h_⟩ := asrt_some h; clear h; have h := h_; clear h_
    obtain ⟨hA2646, h_⟩ := asrt_some h; clear h; have h := h_; clear h_
    obtain ⟨hA2648, h_⟩ := asrt_some h; clear h; have h := h_; clear h_
    obtain ⟨hA2650, h_⟩ := asrt_some h; clear h; have h := h_; clear h_
    refine regionG 27 (by kernel_rfl) (by kernel_rfl) ha HW [.fix (.slice A2630 t2628.length c2631), .fix (.pointer (some ⟨b2639, off2640 + (0 : Int).toNat * 1, none⟩)), .fix (.int .u64 (rdL (0 : Int) t2628 0)), .fix (.int .u32 (IntKind.wrap .u32 (rdL (0 : Int) t2628 0))), .fix (.slice A2630 t2628.length c2631), .fix (.pointer (some ⟨b2639, off2640 + (1 : Int).toNat * 1, none⟩)), .fix (.int .u64 (rdL (0 : Int) t2628 1)), .fix (.int .u32 (IntKind.wrap .u32 (rdL (0 : Int) t2628 1))), .fix (.slice A2630 t2628.length c2631), .fix (.pointer (some ⟨b2639, off2640 + (2 : Int).toNat * 1, none⟩)), .fix (.int .u64 (rdL (0 : Int) t2628 2)), .fix (.int .i64 (IntKind.wrap .i64 (rdL (0 : Int) t2628 2))), .fix (.slice A2630 t2628.length c2631), .fix (.pointer (some ⟨b2639, off2640 + (3 : Int).toNat * 1, none⟩)), .fix (.int .u64 (rdL (0 : Int) t2628 3)), .fix (.int .i64 (IntKind.wrap .i64 (rdL (0 : Int) t2628 3))), .fix (.slice A2630 t2628.length c2631), .fix (.pointer (some ⟨b2639, off2640 + (4 : Int).toNat * 1, none⟩)), .fix (.int .u64 (rdL (0 : Int) t2628 4)), .fix (.int .i64 (IntKind.wrap .i64 (rdL (0 : Int) t2628 4))), .fix (.slice A2630 t2628.length c2631), .fix (.pointer (some ⟨b2639, off2640 + (5 : Int).toNat * 1, none⟩)), .fix (.int .u64 (rdL (0 : Int) t2628 5)), .fix (.int .u64 (IntKind.wrap .u64 (Int.tdiv (rdL (0 : Int) t2628 5) 2))), .fix (.int .i64 (IntKind.wrap .i64 (IntKind.wrap .u64 (Int.tdiv (rdL (0 : Int) t2628 5) 2)))), .fix (.agg #[.int .u32 (IntKind.wrap .u32 (rdL (0 : Int) t2628 0)), .int .u32 (IntKind.wrap .u32 (rdL (0 : Int) t2628 1)), .int .i64 (IntKind.wrap .i64 (rdL (0 : Int) t2628 2)), .int .i64 (IntKind.wrap .i64 (rdL (0 : Int) t2628 3)), .int .i64 (IntKind.wrap .i64 (rdL (0 : Int) t2628 4)), .int .i64 (IntKind.wrap .i64 (IntKind.wrap .u64 (Int.tdiv (rdL (0 : Int) t2628 5) 2)))]), .blk w #[.int .u32 0, .int .u32 0, .int .i64 0, .int .i64 0, .int .i64 0, .int .i64 0] 27 [(b2609, .cells #[.int .u32 0, .int .u32 0, .int .i64 0, .int .i64 0, .int .i64 0, .int .i64 0] 27 (0, 0))] [⟨45, 1, .slice A2630 t2628.length c2631, t2628.length, encs (encI .u64) t2628⟩, ⟨118, 3, .slice A2623 t2621.length c2624, t2621.length, encs T_sqe_field.enc t2621⟩]] ?_ ?_
    · skip
      refine ⟨?_, ?_, ?_, ?_, ?_, ?_, ?_, ?_, ?_, ?_, ?_, ?_, ?_, ?_, ?_, ?_, ?_, ?_, ?_, ?_, ?_, ?_, ?_, ?_, ?_, ?_, ?_, trivial⟩
      · skip
        intro a wr hn hd HW hs; have ha := hasNil hn hd
        have ha := ha.add (seeE hs 4 (.slice A2630 t2628.length c2631) (by kernel_rfl) (by kernel_rfl))
        refine yStep ha 15 (by kernel_rfl) ?_; intro l_ ha HK
        refine stepp ha 15 (.slice A2630 t2628.length c2631) (by kernel_rfl) (by kernel_rfl) ?_; intro ax hax; exact HK _ _ _ hax rfl (Below.refl _ _)
      · skip
        intro a wr hn hd HW hs; have ha := hasNil hn hd
        have ha := ha.add (seeF hs 15 0 (.slice A2630 t2628.length c2631) (by kernel_rfl) (by kernel_rfl))
        replace ha := ha.turn 15 (u := .slice A2630 t2628.length c2631) (v := .slice (some ⟨b2639, off2640, none⟩) t2628.length c2631) (by kernel_rfl) (by rw [hA2641])
        refine yStep ha 16 (by kernel_rfl) ?_; intro l_ ha HK
        refine stepif ha 16 (sz := 1) (len := t2628.length) (b := b2639) (off := off2640) (c := c2631) 83 45 (.tmp 15) (.const (.int .i64 0)) .i64 0 rfl (by kernel_rfl) (by kernel_rfl) (by kernel_rfl) (by kernel_rfl) (by decide) (show (0 : Int) < ((t2628).length : Int) from hA2637) (by kernel_rfl) ?_; intro ax hax; exact HK _ _ _ hax rfl (Below.refl _ _)
      · skip
        intro a wr hn hd HW hs; have ha := hasNil hn hd
        have ha := ha.add (seeF hs 16 1 (.pointer (some ⟨b2639, off2640 + (0 : Int).toNat * 1, none⟩)) (by kernel_rfl) (by kernel_rfl))
        refine yStep ha 17 (by kernel_rfl) ?_; intro l_ ha HK
        refine stepl ha 17 (Rd.ca (encI .u64) (0 : Int) (fun _ => rfl) (by have h_ := (HW.rdo (i := 0) (q := ⟨45, 1, .slice A2630 t2628.length c2631, t2628.length, encs (encI .u64) t2628⟩) (by kernel_rfl)); rw [hA2641] at h_; exact h_) (by decide) (show (0 : Int) < ((t2628).length : Int) from hA2637)) 45 0 (.tmp 16) (.int .u64 (rdL (0 : Int) t2628 0)) rfl (by kernel_rfl) (by kernel_rfl) (by kernel_rfl) ?_; intro ax hax; exact HK _ _ _ hax rfl (Below.refl _ _)
      · skip
        intro a wr hn hd HW hs; have ha := hasNil hn hd
        have ha := ha.add (seeF hs 17 2 (.int .u64 (rdL (0 : Int) t2628 0)) (by kernel_rfl) (by kernel_rfl))
        refine yStep ha 18 (by kernel_rfl) ?_; intro l_ ha HK
        refine stepp ha 18 (.int .u32 (IntKind.wrap .u32 (rdL (0 : Int) t2628 0))) (by kernel_rfl) (by kernel_rfl) ?_; intro ax hax; exact HK _ _ _ hax rfl (Below.refl _ _)
      · skip
        intro a wr hn hd HW hs; have ha := hasNil hn hd
        have ha := ha.add (seeE hs 4 (.slice A2630 t2628.length c2631) (by kernel_rfl) (by kernel_rfl))
        refine yStep ha 19 (by kernel_rfl) ?_; intro l_ ha HK
        refine stepp ha 19 (.slice A2630 t2628.length c2631) (by kernel_rfl) (by kernel_rfl) ?_; intro ax hax; exact HK _ _ _ hax rfl (Below.refl _ _)
      · skip
        intro a wr hn hd HW hs; have ha := hasNil hn hd
        have ha := ha.add (seeF hs 19 4 (.slice A2630 t2628.length c2631) (by kernel_rfl) (by kernel_rfl))
        replace ha := ha.turn 19 (u := .slice A2630 t2628.length c2631) (v := .slice (some ⟨b2639, off2640, none⟩) t2628.length c2631) (by kernel_rfl) (by rw [hA2641])
        refine yStep ha 20 (by kernel_rfl) ?_; intro l_ ha HK
        refine stepif ha 20 (sz := 1) (len := t2628.length) (b := b2639) (off := off2640) (c := c2631) 83 45 (.tmp 19) (.const (.int .i64 1)) .i64 1 rfl (by kernel_rfl) (by kernel_rfl) (by kernel_rfl) (by kernel_rfl) (by decide) (show (1 : Int) < ((t2628).length : Int) from hA2642) (by kernel_rfl) ?_; intro ax hax; exact HK _ _ _ hax rfl (Below.refl _ _)
      · skip
        intro a wr hn hd HW hs; have ha := hasNil hn hd
        have ha := ha.add (seeF hs 20 5 (.pointer (some ⟨b2639, off2640 + (1 : Int).toNat * 1, none⟩)) (by kernel_rfl) (by kernel_rfl))
        refine yStep ha 21 (by kernel_rfl) ?_; intro l_ ha HK
        refine stepl ha 21 (Rd.ca (encI .u64) (0 : Int) (fun _ => rfl) (by have h_ := (HW.rdo (i := 0) (q := ⟨45, 1, .slice A2630 t2628.length c2631, t2628.length, encs (encI .u64) t2628⟩) (by kernel_rfl)); rw [hA2641] at h_; exact h_) (by decide) (show (1 : Int) < ((t2628).length : Int) from hA2642)) 45 0 (.tmp 20) (.int .u64 (rdL (0 : Int) t2628 1)) rfl (by kernel_rfl) (by kernel_rfl) (by kernel_rfl) ?_; intro ax hax; exact HK _ _ _ hax rfl (Below.refl _ _)
      · skip
        intro a wr hn hd HW hs; have ha := hasNil hn hd
        have ha := ha.add (seeF hs 21 6 (.int .u64 (rdL (0 : Int) t2628 1)) (by kernel_rfl) (by kernel_rfl))
        refine yStep ha 22 (by kernel_rfl) ?_; intro l_ ha HK
        refine stepp ha 22 (.int .u32 (IntKind.wrap .u32 (rdL (0 : Int) t2628 1))) (by kernel_rfl) (by kernel_rfl) ?_; intro ax hax; exact HK _ _ _ hax rfl (Below.refl _ _)
      · skip
        intro a wr hn hd HW hs; have ha := hasNil hn hd
        have ha := ha.add (seeE hs 4 (.slice A2630 t2628.length c2631) (by kernel_rfl) (by kernel_rfl))
        refine yStep ha 23 (by kernel_rfl) ?_; intro l_ ha HK
        refine stepp ha 23 (.slice A2630 t2628.length c2631) (by kernel_rfl) (by kernel_rfl) ?_; intro ax hax; exact HK _ _ _ hax rfl (Below.refl _ _)
      · skip
        intro a wr hn hd HW hs; have ha := hasNil hn hd
        have ha := ha.add (seeF hs 23 8 (.slice A2630 t2628.length c2631) (by kernel_rfl) (by kernel_rfl))
        replace ha := ha.turn 23 (u := .slice A2630 t2628.length c2631) (v := .slice (some ⟨b2639, off2640, none⟩) t2628.length c2631) (by kernel_rfl) (by rw [hA2641])
        refine yStep ha 24 (by kernel_rfl) ?_; intro l_ ha HK
        refine stepif ha 24 (sz := 1) (len := t2628.length) (b := b2639) (off := off2640) (c := c2631) 83 45 (.tmp 23) (.const (.int .i64 2)) .i64 2 rfl (by kernel_rfl) (by kernel_rfl) (by kernel_rfl) (by kernel_rfl) (by decide) (show (2 : Int) < ((t2628).length : Int) from hA2644) (by kernel_rfl) ?_; intro ax hax; exact HK _ _ _ hax rfl (Below.refl _ _)
      · skip
        intro a wr hn hd HW hs; have ha := hasNil hn hd
        have ha := ha.add (seeF hs 24 9 (.pointer (some ⟨b2639, off2640 + (2 : Int).toNat * 1, none⟩)) (by kernel_rfl) (by kernel_rfl))
        refine yStep ha 25 (by kernel_rfl) ?_; intro l_ ha HK
        refine stepl ha 25 (Rd.ca (encI .u64) (0 : Int) (fun _ => rfl) (by have h_ := (HW.rdo (i := 0) (q := ⟨45, 1, .slice A2630 t2628.length c2631, t2628.length, encs (encI .u64) t2628⟩) (by kernel_rfl)); rw [hA2641] at h_; exact h_) (by decide) (show (2 : Int) < ((t2628).length : Int) from hA2644)) 45 0 (.tmp 24) (.int .u64 (rdL (0 : Int) t2628 2)) rfl (by kernel_rfl) (by kernel_rfl) (by kernel_rfl) ?_; intro ax hax; exact HK _ _ _ hax rfl (Below.refl _ _)
      · skip
        intro a wr hn hd HW hs; have ha := hasNil hn hd
        have ha := ha.add (seeF hs 25 10 (.int .u64 (rdL (0 : Int) t2628 2)) (by kernel_rfl) (by kernel_rfl))
        refine yStep ha 26 (by kernel_rfl) ?_; intro l_ ha HK
        refine stepp ha 26 (.int .i64 (IntKind.wrap .i64 (rdL (0 : Int) t2628 2))) (by kernel_rfl) (by kernel_rfl) ?_; intro ax hax; exact HK _ _ _ hax rfl (Below.refl _ _)
      · skip
        intro a wr hn hd HW hs; have ha := hasNil hn hd
        have ha := ha.add (seeE hs 4 (.slice A2630 t2628.length c2631) (by kernel_rfl) (by kernel_rfl))
        refine yStep ha 27 (by kernel_rfl) ?_; intro l_ ha HK
        refine stepp ha 27 (.slice A2630 t2628.length c2631) (by kernel_rfl) (by kernel_rfl) ?_; intro ax hax; exact HK _ _ _ hax rfl (Below.refl _ _)
      · skip
        intro a wr hn hd HW hs; have ha := hasNil hn hd
        have ha := ha.add (seeF hs 27 12 (.slice A2630 t2628.length c2631) (by kernel_rfl) (by kernel_rfl))
        replace ha := ha.turn 27 (u := .slice A2630 t2628.length c2631) (v := .slice (some ⟨b2639, off2640, none⟩) t2628.length c2631) (by kernel_rfl) (by rw [hA2641])
        refine yStep ha 28 (by kernel_rfl) ?_; intro l_ ha HK
        refine stepif ha 28 (sz := 1) (len := t2628.length) (b := b2639) (off := off2640) (c := c2631) 83 45 (.tmp 27) (.const (.int .i64 3)) .i64 3 rfl (by kernel_rfl) (by kernel_rfl) (by kernel_rfl) (by kernel_rfl) (by decide) (show (3 : Int) < ((t2628).length : Int) from hA2646) (by kernel_rfl) ?_; intro ax hax; exact HK _ _ _ hax rfl (Below.refl _ _)
      · skip
        intro a wr hn hd HW hs; have ha := hasNil hn hd
        have ha := ha.add (seeF hs 28 13 (.pointer (some ⟨b2639, off2640 + (3 : Int).toNat * 1, none⟩)) (by kernel_rfl) (by kernel_rfl))
        refine yStep ha 29 (by kernel_rfl) ?_; intro l_ ha HK
        refine stepl ha 29 (Rd.ca (encI .u64) (0 : Int) (fun _ => rfl) (by have h_ := (HW.rdo (i := 0) (q := ⟨45, 1, .slice A2630 t2628.length c2631, t2628.length, encs (encI .u64) t2628⟩) (by kernel_rfl)); rw [hA2641] at h_; exact h_) (by decide) (show (3 : Int) < ((t2628).length : Int) from hA2646)) 45 0 (.tmp 28) (.int .u64 (rdL (0 : Int) t2628 3)) rfl (by kernel_rfl) (by kernel_rfl) (by kernel_rfl) ?_; intro ax hax; exact HK _ _ _ hax rfl (Below.refl _ _)
      · skip
        intro a wr hn hd HW hs; have ha := hasNil hn hd
        have ha := ha.add (seeF hs 29 14 (.int .u64 (rdL (0 : Int) t2628 3)) (by kernel_rfl) (by kernel_rfl))
        refine yStep ha 30 (by kernel_rfl) ?_; intro l_ ha HK
        refine stepp ha 30 (.int .i64 (IntKind.wrap .i64 (rdL (0 : Int) t2628 3))) (by kernel_rfl) (by kernel_rfl) ?_; intro ax hax; exact HK _ _ _ hax rfl (Below.refl _ _)
      · skip
        intro a wr hn hd HW hs; have ha := hasNil hn hd
        have ha := ha.add (seeE hs 4 (.slice A2630 t2628.length c2631) (by kernel_rfl) (by kernel_rfl))
        refine yStep ha 31 (by kernel_rfl) ?_; intro l_ ha HK
        refine stepp ha 31 (.slice A2630 t2628.length c2631) (by kernel_rfl) (by kernel_rfl) ?_; intro ax hax; exact HK _ _ _ hax rfl (Below.refl _ _)
      · skip
        intro a wr hn hd HW hs; have ha := hasNil hn hd
        have ha := ha.add (seeF hs 31 16 (.slice A2630 t2628.length c2631) (by kernel_rfl) (by kernel_rfl))
        replace ha := ha.turn 31 (u := .slice A2630 t2628.length c2631) (v := .slice (some ⟨b2639, off2640, none⟩) t2628.length c2631) (by kernel_rfl) (by rw [hA2641])
        refine yStep ha 32 (by kernel_rfl) ?_; intro l_ ha HK
        refine stepif ha 32 (sz := 1) (len := t2628.length) (b := b2639) (off := off2640) (c := c2631) 83 45 (.tmp 31) (.const (.int .i64 4)) .i64 4 rfl (by kernel_rfl) (by kernel_rfl) (by kernel_rfl) (by kernel_rfl) (by decide) (show (4 : Int) < ((t2628).length : Int) from hA2648) (by kernel_rfl) ?_; intro ax hax; exact HK _ _ _ hax rfl (Below.refl _ _)
      · skip
        intro a wr hn hd HW hs; have ha := hasNil hn hd
        have ha := ha.add (seeF hs 32 17 (.pointer (some ⟨b2639, off2640 + (4 : Int).toNat * 1, none⟩)) (by kernel_rfl) (by kernel_rfl))
        refine yStep ha 33 (by kernel_rfl) ?_; intro l_ ha HK
        refine stepl ha 33 (Rd.ca (encI .u64) (0 : Int) (fun _ => rfl) (by have h_ := (HW.rdo (i := 0) (q := ⟨45, 1, .slice A2630 t2628.length c2631, t2628.length, encs (encI .u64) t2628⟩) (by kernel_rfl)); rw [hA2641] at h_; exact h_) (by decide) (show (4 : Int) < ((t2628).length : Int) from hA2648)) 45 0 (.tmp 32) (.int .u64 (rdL (0 : Int) t2628 4)) rfl (by kernel_rfl) (by kernel_rfl) (by kernel_rfl) ?_; intro ax hax; exact HK _ _ _ hax rfl (Below.refl _ _)
      · skip
        intro a wr hn hd HW hs; have ha := hasNil hn hd
        have ha := ha.add (seeF hs 33 18 (.int .u64 (rdL (0 : Int) t2628 4)) (by kernel_rfl) (by kernel_rfl))
        refine yStep ha 34 (by kernel_rfl) ?_; intro l_ ha HK
        refine stepp ha 34 (.int .i64 (IntKind.wrap .i64 (rdL (0 : Int) t2628 4))) (by kernel_rfl) (by kernel_rfl) ?_; intro ax hax; exact HK _ _ _ hax rfl (Below.refl _ _)
      · skip
        intro a wr hn hd HW hs; have ha := hasNil hn hd
        have ha := ha.add (seeE hs 4 (.slice A2630 t2628.length c2631) (by kernel_rfl) (by kernel_rfl))
        refine yStep ha 35 (by kernel_rfl) ?_; intro l_ ha HK
        refine stepp ha 35 (.slice A2630 t2628.length c2631) (by kernel_rfl) (by kernel_rfl) ?_; intro ax hax; exact HK _ _ _ hax rfl (Below.refl _ _)
      · skip
        intro a wr hn hd HW hs; have ha := hasNil hn hd
        have ha := ha.add (seeF hs 35 20 (.slice A2630 t2628.length c2631) (by kernel_rfl) (by kernel_rfl))
        replace ha := ha.turn 35 (u := .slice A2630 t2628.length c2631) (v := .slice (some ⟨b2639, off2640, none⟩) t2628.length c2631) (by kernel_rfl) (by rw [hA2641])
        refine yStep ha 36 (by kernel_rfl) ?_; intro l_ ha HK
        refine stepif ha 36 (sz := 1) (len := t2628.length) (b := b2639) (off := off2640) (c := c2631) 83 45 (.tmp 35) (.const (.int .i64 5)) .i64 5 rfl (by kernel_rfl) (by kernel_rfl) (by kernel_rfl) (by kernel_rfl) (by decide) (show (5 : Int) < ((t2628).length : Int) from hA2650) (by kernel_rfl) ?_; intro ax hax; exact HK _ _ _ hax rfl (Below.refl _ _)
      · skip
        intro a wr hn hd HW hs; have ha := hasNil hn hd
        have ha := ha.add (seeF hs 36 21 (.pointer (some ⟨b2639, off2640 + (5 : Int).toNat * 1, none⟩)) (by kernel_rfl) (by kernel_rfl))
        refine yStep ha 37 (by kernel_rfl) ?_; intro l_ ha HK
        refine stepl ha 37 (Rd.ca (encI .u64) (0 : Int) (fun _ => rfl) (by have h_ := (HW.rdo (i := 0) (q := ⟨45, 1, .slice A2630 t2628.length c2631, t2628.length, encs (encI .u64) t2628⟩) (by kernel_rfl)); rw [hA2641] at h_; exact h_) (by decide) (show (5 : Int) < ((t2628).length : Int) from hA2650)) 45 0 (.tmp 36) (.int .u64 (rdL (0 : Int) t2628 5)) rfl (by kernel_rfl) (by kernel_rfl) (by kernel_rfl) ?_; intro ax hax; exact HK _ _ _ hax rfl (Below.refl _ _)
      · skip
        intro a wr hn hd HW hs; have ha := hasNil hn hd
        have ha := ha.add (seeF hs 37 22 (.int .u64 (rdL (0 : Int) t2628 5)) (by kernel_rfl) (by kernel_rfl))
        refine yStep ha 38 (by kernel_rfl) ?_; intro l_ ha HK
        refine stepp ha 38 (.int .u64 (IntKind.wrap .u64 (Int.tdiv (rdL (0 : Int) t2628 5) 2))) (by kernel_rfl) (by kernel_rfl) ?_; intro ax hax; exact HK _ _ _ hax rfl (Below.refl _ _)
      · skip
        intro a wr hn hd HW hs; have ha := hasNil hn hd
        have ha := ha.add (seeF hs 38 23 (.int .u64 (IntKind.wrap .u64 (Int.tdiv (rdL (0 : Int) t2628 5) 2))) (by kernel_rfl) (by kernel_rfl))
        refine yStep ha 39 (by kernel_rfl) ?_; intro l_ ha HK
        refine stepp ha 39 (.int .i64 (IntKind.wrap .i64 (IntKind.wrap .u64 (Int.tdiv (rdL (0 : Int) t2628 5) 2)))) (by kernel_rfl) (by kernel_rfl) ?_; intro ax hax; exact HK _ _ _ hax rfl (Below.refl _ _)
      · skip
        intro a wr hn hd HW hs; have ha := hasNil hn hd
        have ha := ha.add (seeF hs 18 3 (.int .u32 (IntKind.wrap .u32 (rdL (0 : Int) t2628 0))) (by kernel_rfl) (by kernel_rfl))
        have ha := ha.add (seeF hs 22 7 (.int .u32 (IntKind.wrap .u32 (rdL (0 : Int) t2628 1))) (by kernel_rfl) (by kernel_rfl))
        have ha := ha.add (seeF hs 26 11 (.int .i64 (IntKind.wrap .i64 (rdL (0 : Int) t2628 2))) (by kernel_rfl) (by kernel_rfl))
        have ha := ha.add (seeF hs 30 15 (.int .i64 (IntKind.wrap .i64 (rdL (0 : Int) t2628 3))) (by kernel_rfl) (by kernel_rfl))
        have ha := ha.add (seeF hs 34 19 (.int .i64 (IntKind.wrap .i64 (rdL (0 : Int) t2628 4))) (by kernel_rfl) (by kernel_rfl))
        have ha := ha.add (seeF hs 39 24 (.int .i64 (IntKind.wrap .i64 (IntKind.wrap .u64 (Int.tdiv (rdL (0 : Int) t2628 5) 2)))) (by kernel_rfl) (by kernel_rfl))
        refine yStep ha 40 (by kernel_rfl) ?_; intro l_ ha HK
        refine stepp ha 40 (.agg #[.int .u32 (IntKind.wrap .u32 (rdL (0 : Int) t2628 0)), .int .u32 (IntKind.wrap .u32 (rdL (0 : Int) t2628 1)), .int .i64 (IntKind.wrap .i64 (rdL (0 : Int) t2628 2)), .int .i64 (IntKind.wrap .i64 (rdL (0 : Int) t2628 3)), .int .i64 (IntKind.wrap .i64 (rdL (0 : Int) t2628 4)), .int .i64 (IntKind.wrap .i64 (IntKind.wrap .u64 (Int.tdiv (rdL (0 : Int) t2628 5) 2)))]) (by kernel_rfl) (by kernel_rfl) ?_; intro ax hax; exact HK _ _ _ hax rfl (Below.refl _ _)
      · skip
        intro a wr hn hd HW hs; have ha := hasNil hn hd
        refine yStep ha 5 (by kernel_rfl) ?_; intro l_ ha HK
        refine stepnew ha (Wd.refl wr) 5 #[.int .u32 0, .int .u32 0, .int .i64 0, .int .i64 0, .int .i64 0, .int .i64 0] 27 (by kernel_rfl) (by kernel_rfl) ?_; intro b2652 ax W2653 HV hax
        exact HK _ _ _ hax ⟨b2652, rfl, HW.callw HV⟩ HV.below
    · skip
      intro a W2654 ha HW he hf
      replace ha := ha.add (he 0 (.string a0) (by kernel_rfl) (by kernel_rfl))
      replace ha := ha.add (he 2 (.pointer (some ⟨b2609, 0, none⟩)) (by kernel_rfl) (by kernel_rfl))
      obtain ⟨b2652, he_, HW⟩ := gotB (w1 := w) (m := 27) (j := 26) (d := 5) (C := #[.int .u32 0, .int .u32 0, .int .i64 0, .int .i64 0, .int .i64 0, .int .i64 0]) (T := 27) (bs1 := [(b2609, .cells #[.int .u32 0, .int .u32 0, .int .i64 0, .int .i64 0, .int .i64 0, .int .i64 0] 27 (0, 0))]) (os1 := [⟨45, 1, .slice A2630 t2628.length c2631, t2628.length, encs (encI .u64) t2628⟩, ⟨118, 3, .slice A2623 t2621.length c2624, t2621.length, encs T_sqe_field.enc t2621⟩]) hf (by kernel_rfl) (by kernel_rfl) (by kernel_rfl); replace ha := ha.add he_; clear he_
      replace ha := ha.add (gotF (m := 27) (j := 25) (d := 40) (v := .agg #[.int .u32 (IntKind.wrap .u32 (rdL (0 : Int) t2628 0)), .int .u32 (IntKind.wrap .u32 (rdL (0 : Int) t2628 1)), .int .i64 (IntKind.wrap .i64 (rdL (0 : Int) t2628 2)), .int .i64 (IntKind.wrap .i64 (rdL (0 : Int) t2628 3)), .int .i64 (IntKind.wrap .i64 (rdL (0 : Int) t2628 4)), .int .i64 (IntKind.wrap .i64 (IntKind.wrap .u64 (Int.tdiv (rdL (0 : Int) t2628 5) 2)))]) hf (by kernel_rfl) (by kernel_rfl) (by kernel_rfl))
      clear he hf
      refine stepst ha HW 0 (b := b2652) (C := #[.int .u32 0, .int .u32 0, .int .i64 0, .int .i64 0, .int .i64 0, .int .i64 0]) (T := 27) (by kernel_rfl) 27 0 (.tmp 5) (.tmp 40) (.agg #[.int .u32 (IntKind.wrap .u32 (rdL (0 : Int) t2628 0)), .int .u32 (IntKind.wrap .u32 (rdL (0 : Int) t2628 1)), .int .i64 (IntKind.wrap .i64 (rdL (0 : Int) t2628 2)), .int .i64 (IntKind.wrap .i64 (rdL (0 : Int) t2628 3)), .int .i64 (IntKind.wrap .i64 (rdL (0 : Int) t2628 4)), .int .i64 (IntKind.wrap .i64 (IntKind.wrap .u64 (Int.tdiv (rdL (0 : Int) t2628 5) 2)))]) #[.int .u32 (IntKind.wrap .u32 (rdL (0 : Int) t2628 0)), .int .u32 (IntKind.wrap .u32 (rdL (0 : Int) t2628 1)), .int .i64 (IntKind.wrap .i64 (rdL (0 : Int) t2628 2)), .int .i64 (IntKind.wrap .i64 (rdL (0 : Int) t2628 3)), .int .i64 (IntKind.wrap .i64 (rdL (0 : Int) t2628 4)), .int .i64 (IntKind.wrap .i64 (IntKind.wrap .u64 (Int.tdiv (rdL (0 : Int) t2628 5) 2)))] rfl (by kernel_rfl) (by kernel_rfl) (by kernel_rfl) (by kernel_rfl) (by kernel_rfl) (by kernel_rfl) (by kernel_rfl) ?_; clear ha HW a; intro a W2655 HW ha
      refine endl ?_
      refine thenN (hK2636 _ _ ?_); clear hK2636
      refine wp_seq_k (fun K2656 hK2657 => ?_)
      refine wp_seq_k (fun K2658 hK2659 => ?_)
      refine wp_region_lit ?_
      refine stepl ha 42 (HW.ca (i := 0) (b := b2652) (C := #[.int .u32 (IntKind.wrap .u32 (rdL (0 : Int) t2628 0)), .int .u32 (IntKind.wrap .u32 (rdL (0 : Int) t2628 1)), .int .i64 (IntKind.wrap .i64 (rdL (0 : Int) t2628 2)), .int .i64 (IntKind.wrap .i64 (rdL (0 : Int) t2628 3)), .int .i64 (IntKind.wrap .i64 (rdL (0 : Int) t2628 4)), .int .i64 (IntKind.wrap .i64 (IntKind.wrap .u64 (Int.tdiv (rdL (0 : Int) t2628 5) 2)))]) (T := 27) (fr := (0, 0)) (by kernel_rfl)) 27 0 (.tmp 5) (.agg #[.int .u32 (IntKind.wrap .u32 (rdL (0 : Int) t2628 0)), .int .u32 (IntKind.wrap .u32 (rdL (0 : Int) t2628 1)), .int .i64 (IntKind.wrap .i64 (rdL (0 : Int) t2628 2)), .int .i64 (IntKind.wrap .i64 (rdL (0 : Int) t2628 3)), .int .i64 (IntKind.wrap .i64 (rdL (0 : Int) t2628 4)), .int .i64 (IntKind.wrap .i64 (IntKind.wrap .u64 (Int.tdiv (rdL (0 : Int) t2628 5) 2)))]) rfl (by kernel_rfl) (by kernel_rfl) (by kernel_rfl) ?_; clear ha a; intro a ha
      obtain ⟨t2660, ht2661, h_⟩ := bind_some' h; clear h; have h := h_; clear h_
      refine stepc ha 43 (by kernel_rfl) (by kernel_rfl) (sqe_End.calls K (⟨IntKind.wrap .u32 (rdL (0 : Int) t2628 0), IntKind.wrap .u32 (rdL (0 : Int) t2628 1), IntKind.wrap .i64 (rdL (0 : Int) t2628 2), IntKind.wrap .i64 (rdL (0 : Int) t2628 3), IntKind.wrap .i64 (rdL (0 : Int) t2628 4), IntKind.wrap .i64 (IntKind.wrap .u64 (Int.tdiv (rdL (0 : Int) t2628 5) 2))⟩ : T_api_Cqe) t2660 _ (HW.ca0 hG1) (HW.ca0 hG2) ht2661) ?_; clear ha a; rintro e W2662 ⟨rfl, HX2663⟩
      refine ⟨_, rfl, ?_⟩; intro a ha; replace HW := HW.callw HX2663; clear HX2663
      refine stepp ha 41 (.tuple #[.string t2660.1, .int .i64 t2660.2]) (by kernel_rfl) (by kernel_rfl) ?_; clear ha a; intro a ha
      refine stepp ha 44 (.string t2660.1) (by kernel_rfl) (by kernel_rfl) ?_; clear ha a; intro a ha
      refine stepp ha 45 (.int .i64 t2660.2) (by kernel_rfl) (by kernel_rfl) ?_; clear ha a; intro a ha
      refine stepp ha 6 (.string t2660.1) (by kernel_rfl) (by kernel_rfl) ?_; clear ha a; intro a ha
      refine stepp ha 7 (.int .i64 t2660.2) (by kernel_rfl) (by kernel_rfl) ?_; clear ha a; intro a ha
      refine endl ?_
      refine thenN (hK2659 _ _ ?_); clear hK2659
      refine wp_seq_k (fun K2664 hK2665 => ?_)
      refine wp_region_lit ?_
      refine stepp ha 46 (.int .i64 t2660.2) (by kernel_rfl) (by kernel_rfl) ?_; clear ha a; intro a ha
      refine stepp ha 47 (.bool (t2660.2 != 0)) (by kernel_rfl) (by kernel_rfl) ?_; clear ha a; intro a ha
      refine stepp ha 48 (.bool (t2660.2 != 0)) (by kernel_rfl) (by kernel_rfl) ?_; clear ha a; intro a ha
      by_cases hp2666 : t2660.2 = 0
      · skip
        replace h := ite_pos' h hp2666
        replace ha := ha.bool 48 (by kernel_rfl) (ineq_f hp2666)
        refine stepp ha 49 (.string t2660.1) (by kernel_rfl) (by kernel_rfl) ?_; clear ha a; intro a ha
        refine stepp ha 50 (.string a0) (by kernel_rfl) (by kernel_rfl) ?_; clear ha a; intro a ha
        refine stepp ha 51 (.bool (!(t2660.1.toList == a0.toList))) (by kernel_rfl) (by kernel_rfl) ?_; clear ha a; intro a ha
        refine stepp ha 52 (.bool (!(t2660.1.toList == a0.toList))) (by kernel_rfl) (by kernel_rfl) ?_; clear ha a; intro a ha
        refine endl ?_
        refine thenN (hK2665 _ _ ?_); clear hK2665
        by_cases hp2667 : t2660.1 = a0
        · skip
          replace h := ite_pos' h hp2667
          refine condF ha (by kernel_rfl) (by kernel_rfl) (t := (!(t2660.1.toList == a0.toList))) (str_ne_f hp2667) ?_
          refine wp_skip ?_
          refine thenN (hK2657 _ _ ?_); clear hK2657
          refine wp_seq_k (fun K2674 hK2675 => ?_)
          refine wp_region_lit ?_
          refine stepl ha 54 (HW.ca (i := 0) (b := b2652) (C := #[.int .u32 (IntKind.wrap .u32 (rdL (0 : Int) t2628 0)), .int .u32 (IntKind.wrap .u32 (rdL (0 : Int) t2628 1)), .int .i64 (IntKind.wrap .i64 (rdL (0 : Int) t2628 2)), .int .i64 (IntKind.wrap .i64 (rdL (0 : Int) t2628 3)), .int .i64 (IntKind.wrap .i64 (rdL (0 : Int) t2628 4)), .int .i64 (IntKind.wrap .i64 (IntKind.wrap .u64 (Int.tdiv (rdL (0 : Int) t2628 5) 2)))]) (T := 27) (fr := (0, 0)) (by kernel_rfl)) 27 0 (.tmp 5) (.agg #[.int .u32 (IntKind.wrap .u32 (rdL (0 : Int) t2628 0)), .int .u32 (IntKind.wrap .u32 (rdL (0 : Int) t2628 1)), .int .i64 (IntKind.wrap .i64 (rdL (0 : Int) t2628 2)), .int .i64 (IntKind.wrap .i64 (rdL (0 : Int) t2628 3)), .int .i64 (IntKind.wrap .i64 (rdL (0 : Int) t2628 4)), .int .i64 (IntKind.wrap .i64 (IntKind.wrap .u64 (Int.tdiv (rdL (0 : Int) t2628 5) 2)))]) rfl (by kernel_rfl) (by kernel_rfl) (by kernel_rfl) ?_; clear ha a; intro a ha
          refine stepst ha HW 1 (b := b2609) (C := #[.int .u32 0, .int .u32 0, .int .i64 0, .int .i64 0, .int .i64 0, .int .i64 0]) (T := 27) (by kernel_rfl) 27 0 (.tmp 2) (.tmp 54) (.agg #[.int .u32 (IntKind.wrap .u32 (rdL (0 : Int) t2628 0)), .int .u32 (IntKind.wrap .u32 (rdL (0 : Int) t2628 1)), .int .i64 (IntKind.wrap .i64 (rdL (0 : Int) t2628 2)), .int .i64 (IntKind.wrap .i64 (rdL (0 : Int) t2628 3)), .int .i64 (IntKind.wrap .i64 (rdL (0 : Int) t2628 4)), .int .i64 (IntKind.wrap .i64 (IntKind.wrap .u64 (Int.tdiv (rdL (0 : Int) t2628 5) 2)))]) #[.int .u32 (IntKind.wrap .u32 (rdL (0 : Int) t2628 0)), .int .u32 (IntKind.wrap .u32 (rdL (0 : Int) t2628 1)), .int .i64 (IntKind.wrap .i64 (rdL (0 : Int) t2628 2)), .int .i64 (IntKind.wrap .i64 (rdL (0 : Int) t2628 3)), .int .i64 (IntKind.wrap .i64 (rdL (0 : Int) t2628 4)), .int .i64 (IntKind.wrap .i64 (IntKind.wrap .u64 (Int.tdiv (rdL (0 : Int) t2628 5) 2)))] rfl (by kernel_rfl) (by kernel_rfl) (by kernel_rfl) (by kernel_rfl) (by kernel_rfl) (by kernel_rfl) (by kernel_rfl) ?_; clear ha HW a; intro a W2676 HW ha
          refine stepp ha 3 (.int .i64 0) (by kernel_rfl) (by kernel_rfl) ?_; clear ha a; intro a ha
          refine endl ?_
          refine thenN (hK2675 _ _ ?_); clear hK2675
          refine wp_ret ?_
          obtain rfl := Option.some.inj h
          exact finv ha _ _ rfl (.cell (ad := ⟨b2609, 0, none⟩) (v := .agg #[.int .u32 (IntKind.wrap .u32 (rdL (0 : Int) t2628 0)), .int .u32 (IntKind.wrap .u32 (rdL (0 : Int) t2628 1)), .int .i64 (IntKind.wrap .i64 (rdL (0 : Int) t2628 2)), .int .i64 (IntKind.wrap .i64 (rdL (0 : Int) t2628 3)), .int .i64 (IntKind.wrap .i64 (rdL (0 : Int) t2628 4)), .int .i64 (IntKind.wrap .i64 (IntKind.wrap .u64 (Int.tdiv (rdL (0 : Int) t2628 5) 2)))]) (by kernel_rfl) (run_loadVar_ca0 (HW.ca (i := 1) (b := b2609) (C := #[.int .u32 (IntKind.wrap .u32 (rdL (0 : Int) t2628 0)), .int .u32 (IntKind.wrap .u32 (rdL (0 : Int) t2628 1)), .int .i64 (IntKind.wrap .i64 (rdL (0 : Int) t2628 2)), .int .i64 (IntKind.wrap .i64 (rdL (0 : Int) t2628 3)), .int .i64 (IntKind.wrap .i64 (rdL (0 : Int) t2628 4)), .int .i64 (IntKind.wrap .i64 (IntKind.wrap .u64 (Int.tdiv (rdL (0 : Int) t2628 5) 2)))]) (T := 27) (fr := (0, 0)) (by kernel_rfl)) 27 0 (.agg #[.int .u32 (IntKind.wrap .u32 (rdL (0 : Int) t2628 0)), .int .u32 (IntKind.wrap .u32 (rdL (0 : Int) t2628 1)), .int .i64 (IntKind.wrap .i64 (rdL (0 : Int) t2628 2)), .int .i64 (IntKind.wrap .i64 (rdL (0 : Int) t2628 3)), .int .i64 (IntKind.wrap .i64 (rdL (0 : Int) t2628 4)), .int .i64 (IntKind.wrap .i64 (IntKind.wrap .u64 (Int.tdiv (rdL (0 : Int) t2628 5) 2)))]) (by kernel_rfl)) (.tmp (v := .int .i64 0) (by kernel_rfl) .nil)) (.tuple #[.agg #[.int .u32 (IntKind.wrap .u32 (rdL (0 : Int) t2628 0)), .int .u32 (IntKind.wrap .u32 (rdL (0 : Int) t2628 1)), .int .i64 (IntKind.wrap .i64 (rdL (0 : Int) t2628 2)), .int .i64 (IntKind.wrap .i64 (rdL (0 : Int) t2628 3)), .int .i64 (IntKind.wrap .i64 (rdL (0 : Int) t2628 4)), .int .i64 (IntKind.wrap .i64 (IntKind.wrap .u64 (Int.tdiv (rdL (0 : Int) t2628 5) 2)))], .int .i64 0]) rfl ⟨rfl, HW.pick [] [] (by decide) (by decide) rfl (by kernel_rfl)⟩
        · skip
          replace h := ite_neg' h hp2667
          refine condT ha (by kernel_rfl) (by kernel_rfl) (t := (!(t2660.1.toList == a0.toList))) (str_ne_t hp2667) ?_
          refine wp_seq_k (fun K2668 hK2669 => ?_)
          refine wp_region_lit ?_
          refine stepp ha 53 (.agg #[.int .u32 0, .int .u32 0, .int .i64 0, .int .i64 0, .int .i64 0, .int .i64 0]) (by kernel_rfl) (by kernel_rfl) ?_; clear ha a; intro a ha
          refine stepst ha HW 1 (b := b2609) (C := #[.int .u32 0, .int .u32 0, .int .i64 0, .int .i64 0, .int .i64 0, .int .i64 0]) (T := 27) (by kernel_rfl) 27 0 (.tmp 2) (.tmp 53) (.agg #[.int .u32 0, .int .u32 0, .int .i64 0, .int .i64 0, .int .i64 0, .int .i64 0]) #[.int .u32 0, .int .u32 0, .int .i64 0, .int .i64 0, .int .i64 0, .int .i64 0] rfl (by kernel_rfl) (by kernel_rfl) (by kernel_rfl) (by kernel_rfl) (by kernel_rfl) (by kernel_rfl) (by kernel_rfl) ?_; clear ha HW a; intro a W2670 HW ha
          refine stepp ha 3 (.int .i64 250) (by kernel_rfl) (by kernel_rfl) ?_; clear ha a; intro a ha
          refine endl ?_
          refine thenN (hK2669 _ _ ?_); clear hK2669
          refine wp_ret ?_
          refine thenR ?_
          obtain rfl := Option.some.inj h
          exact finv ha _ _ rfl (.cell (ad := ⟨b2609, 0, none⟩) (v := .agg #[.int .u32 0, .int .u32 0, .int .i64 0, .int .i64 0, .int .i64 0, .int .i64 0]) (by kernel_rfl) (run_loadVar_ca0 (HW.ca (i := 1) (b := b2609) (C := #[.int .u32 0, .int .u32 0, .int .i64 0, .int .i64 0, .int .i64 0, .int .i64 0]) (T := 27) (fr := (0, 0)) (by kernel_rfl)) 27 0 (.agg #[.int .u32 0, .int .u32 0, .int .i64 0, .int .i64 0, .int .i64 0, .int .i64 0]) (by kernel_rfl)) (.tmp (v := .int .i64 250) (by kernel_rfl) .nil)) (.tuple #[.agg #[.int .u32 0, .int .u32 0, .int .i64 0, .int .i64 0, .int .i64 0, .int .i64 0], .int .i64 250]) rfl ⟨rfl, HW.pick [] [] (by decide) (by decide) rfl (by kernel_rfl)⟩
      · skip
        replace h := ite_neg' h hp2666
        replace ha := ha.bool 48 (by kernel_rfl) (ineq_t hp2666)
        refine stepo ha 49 (by kernel_rfl) ?_; clear ha a; intro a ha
        refine stepo ha 50 (by kernel_rfl) ?_; clear ha a; intro a ha
        refine stepo ha 51 (by kernel_rfl) ?_; clear ha a; intro a ha
        refine stepp ha 52 (.bool true) (by kernel_rfl) (by kernel_rfl) ?_; clear ha a; intro a ha
        refine endl ?_
        refine thenN (hK2665 _ _ ?_); clear hK2665
        refine condT ha (by kernel_rfl) (by kernel_rfl) (t := true) (rfl) ?_
        refine wp_seq_k (fun K2671 hK2672 => ?_)
        refine wp_region_lit ?_
        refine stepp ha 53 (.agg #[.int .u32 0, .int .u32 0, .int .i64 0, .int .i64 0, .int .i64 0, .int .i64 0]) (by kernel_rfl) (by kernel_rfl) ?_; clear ha a; intro a ha
        refine stepst ha HW 1 (b := b2609) (C := #[.int .u32 0, .int .u32 0, .int .i64 0, .int .i64 0, .int .i64 0, .int .i64 0]) (T := 27) (by kernel_rfl) 27 0 (.tmp 2) (.tmp 53) (.agg #[.int .u32 0, .int .u32 0, .int .i64 0, .int .i64 0, .int .i64 0, .int .i64 0]) #[.int .u32 0, .int .u32 0, .int .i64 0, .int .i64 0, .int .i64 0, .int .i64 0] rfl (by kernel_rfl) (by kernel_rfl) (by kernel_rfl) (by kernel_rfl) (by kernel_rfl) (by kernel_rfl) (by kernel_rfl) ?_; clear ha HW a; intro a W2673 HW ha
        refine stepp ha 3 (.int .i64 250) (by kernel_rfl) (by kernel_rfl) ?_; clear ha a; intro a ha
        refine endl ?_
        refine thenN (hK2672 _ _ ?_); clear hK2672
        refine wp_ret ?_
        refine thenR ?_
        obtain rfl := Option.some.inj h
        exact finv ha _ _ rfl (.cell (ad := ⟨b2609, 0, none⟩) (v := .agg #[.int .u32 0, .int .u32 0, .int .i64 0, .int .i64 0, .int .i64 0, .int .i64 0]) (by kernel_rfl) (run_loadVar_ca0 (HW.ca (i := 1) (b := b2609) (C := #[.int .u32 0, .int .u32 0, .int .i64 0, .int .i64 0, .int .i64 0, .int .i64 0]) (T := 27) (fr := (0, 0)) (by kernel_rfl)) 27 0 (.agg #[.int .u32 0, .int .u32 0, .int .i64 0, .int .i64 0, .int .i64 0, .int .i64 0]) (by kernel_rfl)) (.tmp (v := .int .i64 250) (by kernel_rfl) .nil)) (.tuple #[.agg #[.int .u32 0, .int .u32 0, .int .i64 0, .int .i64 0, .int .i64 0, .int .i64 0], .int .i64 250]) rfl ⟨rfl, HW.pick [] [] (by decide) (by decide) rfl (by kernel_rfl)⟩
  · skip
    replace h := ite_neg' h hp2615
    refine condT ha (by kernel_rfl) (by kernel_rfl) (t := ((a0.size : Int) != 16)) (ineq_t hp2615) ?_
    refine wp_seq_k (fun K2616 hK2617 => ?_)
    refine wp_region_lit ?_
    refine stepp ha 11 (.agg #[.int .u32 0, .int .u32 0, .int .i64 0, .int .i64 0, .int .i64 0, .int .i64 0]) (by kernel_rfl) (by kernel_rfl) ?_; clear ha a; intro a ha
    refine stepst ha HW 0 (b := b2609) (C := #[.int .u32 0, .int .u32 0, .int .i64 0, .int .i64 0, .int .i64 0, .int .i64 0]) (T := 27) (by kernel_rfl) 27 0 (.tmp 2) (.tmp 11) (.agg #[.int .u32 0, .int .u32 0, .int .i64 0, .int .i64 0, .int .i64 0, .int .i64 0]) #[.int .u32 0, .int .u32 0, .int .i64 0, .int .i64 0, .int .i64 0, .int .i64 0] rfl (by kernel_rfl) (by kernel_rfl) (by kernel_rfl) (by kernel_rfl) (by kernel_rfl) (by kernel_rfl) (by kernel_rfl) ?_; clear ha HW a; intro a W2618 HW ha
    refine stepp ha 3 (.int .i64 250) (by kernel_rfl) (by kernel_rfl) ?_; clear ha a; intro a ha
    refine endl ?_
    refine thenN (hK2617 _ _ ?_); clear hK2617
    refine wp_ret ?_
    refine thenR ?_
    obtain rfl := Option.some.inj h
    exact finv ha _ _ rfl (.cell (ad := ⟨b2609, 0, none⟩) (v := .agg #[.int .u32 0, .int .u32 0, .int .i64 0, .int .i64 0, .int .i64 0, .int .i64 0]) (by kernel_rfl) (run_loadVar_ca0 (HW.ca (i := 0) (b := b2609) (C := #[.int .u32 0, .int .u32 0, .int .i64 0, .int .i64 0, .int .i64 0, .int .i64 0]) (T := 27) (fr := (0, 0)) (by kernel_rfl)) 27 0 (.agg #[.int .u32 0, .int .u32 0, .int .i64 0, .int .i64 0, .int .i64 0, .int .i64 0]) (by kernel_rfl)) (.tmp (v := .int .i64 250) (by kernel_rfl) .nil)) (.tuple #[.agg #[.int .u32 0, .int .u32 0, .int .i64 0, .int .i64 0, .int .i64 0, .int .i64 0], .int .i64 250]) rfl ⟨rfl, HW.pick [] [] (by decide) (by decide) rfl (by kernel_rfl)⟩
end Go.Proofs.YtceagilmillgfaaDoor.F
