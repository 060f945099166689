/- headgate/sqe.put: a plain function, and that the call comes to what it says. No condition. -/
import Derived.Test.YtceagilmillgfaaDoorFT
import Derived.Test.YtceagilmillgfaaDoorF44
import Derived.Test.YtceagilmillgfaaDoorF47
namespace Go.Proofs.YtceagilmillgfaaDoor.F
open Go Go.RowKit Go.Proofs.YtceagilmillgfaaDoor.X
set_option linter.unusedVariables false
set_option linter.unusedSimpArgs false
/-! ### headgate/sqe.put: function 42 -/
def sqe_put.b0 (K : Nat) (a1 : List T_sqe_field) (a2 : List Int) (again359 : ByteArray → Int → Option (ByteArray × Bool)) (x360 : ByteArray) (x361 : Int) : Option (ByteArray × Bool) :=
  if x361 < (a1.length : Int) then (asrt (0 ≤ x361) (asrt (x361 < (a2.length : Int)) (if (rdL (0 : Int) a2 x361) ≥ ((rdL T_sqe_field.z a1 x361).f2) then (some ((⟨#[]⟩ : ByteArray), false)) else ((fields_PutLittle.f K (rdL (0 : Int) a2 x361) ((rdL T_sqe_field.z a1 x361).f1)).bind fun t395 => ((fields_Set.f x360 ((rdL T_sqe_field.z a1 x361).f0) t395).bind fun t399 => (again359 t399.1 (IntKind.wrap .i64 (x361 + 1)))))))) else (some (x360, true))
def sqe_put.l0 (K : Nat) (a1 : List T_sqe_field) (a2 : List Int) : Nat → ByteArray → Int → Option (ByteArray × Bool)
  | 0, _, _ => none
  | k_ + 1, x360, x361 => sqe_put.b0 K a1 a2 (sqe_put.l0 K a1 a2 k_) x360 x361
def sqe_put.f (K : Nat) (a0 : Int) (a1 : List T_sqe_field) (a2 : List Int) : Option (ByteArray × Bool) :=
  asrt (0 ≤ a0) (asrt (a0 ≤ 281474976710656) (sqe_put.l0 K a1 a2 K (strOfNums (List.replicate (a0 : Int).toNat (0 : Int))) 0))
set_option maxRecDepth 100000 in
set_option maxHeartbeats 4000000 in
theorem sqe_put.calls (K : Nat) (a0 : Int) (a1 : List T_sqe_field) (a2 : List Int) (A1_0 : Option Addr) (c1_0 : Nat) (A2_1 : Option Addr) (c2_1 : Nat) (r : ByteArray × Bool) (w : World) (hr1_0 : Rd 3 w (.slice A1_0 a1.length c1_0) a1.length (encs T_sqe_field.enc a1)) (hr2_1 : Rd 1 w (.slice A2_1 a2.length c2_1) a2.length (encs (encI .u64) a2)) (h : sqe_put.f K a0 a1 a2 = some r) :
    Calls Tryd.prog 42 #[.int .i64 a0, .slice A1_0 a1.length c1_0, .slice A2_1 a2.length c2_1] w (fun e W' => e = .returned (.tuple #[.string r.1, .bool r.2]) ∧ Wd w W' [] [] ) := by
  refine sxstart (n := 44) (l := [(0, .int .i64 a0), (1, .slice A1_0 a1.length c1_0), (2, .slice A2_1 a2.length c2_1)]) Tryd.func42 rfl rfl (Nat.le_of_ble_eq_true (by kernel_rfl)) (subsA_cons rfl (subsA_cons rfl (subsA_cons rfl (subsA_nil _)))) ?_
  intro a ha
  have HW := Wd.refl w
  unfold sqe_put.f at h
  refine wp_seq_k (fun K264 hK265 => ?_)
  refine wp_region_lit ?_
  refine stepp ha 6 (.string (⟨#[]⟩ : ByteArray)) (by kernel_rfl) (by kernel_rfl) ?_; clear ha a; intro a ha
  refine stepp ha 7 (.bool false) (by kernel_rfl) (by kernel_rfl) ?_; clear ha a; intro a ha
  refine endl ?_
  refine thenN (hK265 _ _ ?_); clear hK265
  refine wp_seq_k (fun K266 hK267 => ?_)
  refine wp_region_lit ?_
  refine stepp ha 11 (.int .i64 a0) (by kernel_rfl) (by kernel_rfl) ?_; clear ha a; intro a ha
  obtain ⟨hA268, h_⟩ := asrt_some h; clear h; have h := h_; clear h_
  obtain ⟨hA269, h_⟩ := asrt_some h; clear h; have h := h_; clear h_
  refine stepmk (encI .u8) (0 : Int) ha HW 12 80 5 (.tmp 11) (.tmp 11) .i64 .i64 a0 (.int .u8 0) 1 rfl (by kernel_rfl) (by kernel_rfl) (by kernel_rfl) (by kernel_rfl) rfl rfl hA268 (by have := hA269; omega) (by have := hA269; omega) (by kernel_rfl) ?_; clear ha HW a; intro b270 a W271 HW ha
  refine stepbt ha 13 80 9 5 (.tmp 12) (v := .slice (some ⟨b270, 0, none⟩) (List.replicate (a0 : Int).toNat (0 : Int)).length ((a0 : Int).toNat)) (xs := List.replicate (a0 : Int).toNat (0 : Int)) (HW.rdo (i := 0) (q := ⟨5, 1, .slice (some ⟨b270, 0, none⟩) (List.replicate (a0 : Int).toNat (0 : Int)).length ((a0 : Int).toNat), (List.replicate (a0 : Int).toNat (0 : Int)).length, encs (encI .u8) (List.replicate (a0 : Int).toNat (0 : Int))⟩) (by kernel_rfl)) rfl (by kernel_rfl) (by kernel_rfl) (by kernel_rfl) (by kernel_rfl) (by kernel_rfl) ?_; clear ha a; intro a ha
  refine stepp ha 8 (.string (strOfNums (List.replicate (a0 : Int).toNat (0 : Int)))) (by kernel_rfl) (by kernel_rfl) ?_; clear ha a; intro a ha
  refine endl ?_
  refine thenN (hK267 _ _ ?_); clear hK267
  refine wp_seq_k (fun K273 hK274 => ?_)
  refine wp_seq_k (fun K275 hK276 => ?_)
  refine wp_region_lit ?_
  refine stepp ha 14 (.slice A1_0 a1.length c1_0) (by kernel_rfl) (by kernel_rfl) ?_; clear ha a; intro a ha
  refine stepp ha 15 (.int .i64 (a1.length : Int)) (by kernel_rfl) (by kernel_rfl) ?_; clear ha a; intro a ha
  refine stepp ha 16 (.int .i64 0) (by kernel_rfl) (by kernel_rfl) ?_; clear ha a; intro a ha
  refine endl ?_
  refine thenN (hK276 _ _ ?_); clear hK276
  refine wp_block ?_
  refine loopk (fun k => fun a W362 => ∃ (x360 : ByteArray), ∃ (x361 : Int), sqe_put.l0 K a1 a2 k x360 x361 = some r ∧ Has 44 [(2, .slice A2_1 a2.length c2_1), (8, .string x360), (14, .slice A1_0 a1.length c1_0), (15, .int .i64 (a1.length : Int)), (16, .int .i64 x361)] a ∧ Wd w W362 [] []) K ?_ ?_
  · skip
    exact ⟨strOfNums (List.replicate (a0 : Int).toNat (0 : Int)), 0, h, ha.sub (subs_cons (by kernel_rfl) (subs_cons (by kernel_rfl) (subs_cons (by kernel_rfl) (subs_cons (by kernel_rfl) (subs_cons (by kernel_rfl) (subs_nil _)))))), HW.pick [] [] (by decide) (by decide) (by kernel_rfl) (by kernel_rfl)⟩
  · skip
    intro k a W362 hI
    obtain ⟨x360, x361, h, ha, HW⟩ := hI
    cases k with
    | zero => exact (none_some (show none = some r from h)).elim
    | succ k363 =>
      replace h : sqe_put.b0 K a1 a2 (sqe_put.l0 K a1 a2 k363) x360 x361 = some r := h
      obtain ⟨again359, hag364⟩ : ∃ g_, g_ = sqe_put.l0 K a1 a2 k363 := ⟨_, rfl⟩
      rw [← hag364] at h
      unfold sqe_put.b0 at h
      refine wp_seq_k (fun K365 hK366 => ?_)
      refine wp_region_lit ?_
      refine stepp ha 17 (.bool (decide (x361 < (a1.length : Int)))) (by kernel_rfl) (by kernel_rfl) ?_; clear ha a; intro a ha
      refine endl ?_
      refine thenN (hK366 _ _ ?_); clear hK366
      refine wp_seq_k (fun K367 hK368 => ?_)
      by_cases hp369 : x361 < (a1.length : Int)
      · skip
        replace h := ite_pos' h hp369
        refine condT ha (by kernel_rfl) (by kernel_rfl) (t := decide (x361 < (a1.length : Int))) (decide_eq_true hp369) ?_
        refine wp_skip ?_
        refine thenN (hK368 _ _ ?_); clear hK368
        refine wp_seq_k (fun K370 hK371 => ?_)
        refine wp_block ?_
        refine wp_seq_k (fun K372 hK373 => ?_)
        refine wp_region_lit ?_
        refine stepp ha 18 (.int .i64 x361) (by kernel_rfl) (by kernel_rfl) ?_; clear ha a; intro a ha
        obtain ⟨hA374, h_⟩ := asrt_some h; clear h; have h := h_; clear h_
        refine stepie T_sqe_field.enc T_sqe_field.z ha 19 (fun _ => rfl) (v := .slice A1_0 a1.length c1_0) (xs := a1) ((HW.rd0 hr1_0)) 86 118 (.tmp 14) (.tmp 16) .i64 x361 rfl (by kernel_rfl) (by kernel_rfl) (by kernel_rfl) (by kernel_rfl) hA374 (show (x361 : Int) < ((a1).length : Int) from hp369) (by kernel_rfl) ?_; clear ha a; intro b375 off376 a hC377 ha
        refine stepl ha 20 hC377 118 0 (.tmp 19) (.agg #[.int .i64 ((rdL T_sqe_field.z a1 x361).f0), .int .i64 ((rdL T_sqe_field.z a1 x361).f1), .int .u64 ((rdL T_sqe_field.z a1 x361).f2)]) rfl (by kernel_rfl) (by kernel_rfl) (by kernel_rfl) ?_; clear ha a; intro a ha
        refine stepnew ha HW 10 #[.int .i64 0, .int .i64 0, .int .u64 0] 118 (by kernel_rfl) (by kernel_rfl) ?_; clear ha HW a; intro b378 a W379 HW ha
        refine stepp ha 9 (.int .i64 x361) (by kernel_rfl) (by kernel_rfl) ?_; clear ha a; intro a ha
        refine stepst ha HW 0 (b := b378) (C := #[.int .i64 0, .int .i64 0, .int .u64 0]) (T := 118) (by kernel_rfl) 118 0 (.tmp 10) (.tmp 20) (.agg #[.int .i64 ((rdL T_sqe_field.z a1 x361).f0), .int .i64 ((rdL T_sqe_field.z a1 x361).f1), .int .u64 ((rdL T_sqe_field.z a1 x361).f2)]) #[.int .i64 ((rdL T_sqe_field.z a1 x361).f0), .int .i64 ((rdL T_sqe_field.z a1 x361).f1), .int .u64 ((rdL T_sqe_field.z a1 x361).f2)] rfl (by kernel_rfl) (by kernel_rfl) (by kernel_rfl) (by kernel_rfl) (by kernel_rfl) (by kernel_rfl) (by kernel_rfl) ?_; clear ha HW a; intro a W380 HW ha
        refine endl ?_
        refine thenN (hK373 _ _ ?_); clear hK373
        refine wp_seq_k (fun K381 hK382 => ?_)
        refine wp_seq_k (fun K383 hK384 => ?_)
        obtain ⟨hA385, h_⟩ := asrt_some h; clear h; have h := h_; clear h_
        obtain ⟨b387, off388, hA389⟩ := Rd.addr ((HW.rd0 hr2_1)) hA374 (show (x361 : Int) < ((a2).length : Int) from hA385)
        refine regionG 7 (by kernel_rfl) (by kernel_rfl) ha HW [.fix (.slice A2_1 a2.length c2_1), .fix (.int .i64 x361), .fix (.pointer (some ⟨b387, off388 + (x361 : Int).toNat * 1, none⟩)), .fix (.int .u64 (rdL (0 : Int) a2 x361)), .fix (.pointer (some ⟨b378, 2, none⟩)), .fix (.int .u64 ((rdL T_sqe_field.z a1 x361).f2)), .fix (.bool (decide ((rdL (0 : Int) a2 x361) ≥ ((rdL T_sqe_field.z a1 x361).f2))))] ?_ ?_
        · skip
          refine ⟨?_, ?_, ?_, ?_, ?_, ?_, ?_, trivial⟩
          · skip
            intro a wr hn hd HW hs; have ha := hasNil hn hd
            have ha := ha.add (seeE hs 2 (.slice A2_1 a2.length c2_1) (by kernel_rfl) (by kernel_rfl))
            refine yStep ha 21 (by kernel_rfl) ?_; intro l_ ha HK
            refine stepp ha 21 (.slice A2_1 a2.length c2_1) (by kernel_rfl) (by kernel_rfl) ?_; intro ax hax; exact HK _ _ _ hax rfl (Below.refl _ _)
          · skip
            intro a wr hn hd HW hs; have ha := hasNil hn hd
            have ha := ha.add (seeE hs 9 (.int .i64 x361) (by kernel_rfl) (by kernel_rfl))
            refine yStep ha 22 (by kernel_rfl) ?_; intro l_ ha HK
            refine stepp ha 22 (.int .i64 x361) (by kernel_rfl) (by kernel_rfl) ?_; intro ax hax; exact HK _ _ _ hax rfl (Below.refl _ _)
          · skip
            intro a wr hn hd HW hs; have ha := hasNil hn hd
            have ha := ha.add (seeF hs 21 0 (.slice A2_1 a2.length c2_1) (by kernel_rfl) (by kernel_rfl))
            have ha := ha.add (seeF hs 22 1 (.int .i64 x361) (by kernel_rfl) (by kernel_rfl))
            replace ha := ha.turn 21 (u := .slice A2_1 a2.length c2_1) (v := .slice (some ⟨b387, off388, none⟩) a2.length c2_1) (by kernel_rfl) (by rw [hA389])
            refine yStep ha 23 (by kernel_rfl) ?_; intro l_ ha HK
            refine stepif ha 23 (sz := 1) (len := a2.length) (b := b387) (off := off388) (c := c2_1) 83 45 (.tmp 21) (.tmp 22) .i64 x361 rfl (by kernel_rfl) (by kernel_rfl) (by kernel_rfl) (by kernel_rfl) hA374 (show (x361 : Int) < ((a2).length : Int) from hA385) (by kernel_rfl) ?_; intro ax hax; exact HK _ _ _ hax rfl (Below.refl _ _)
          · skip
            intro a wr hn hd HW hs; have ha := hasNil hn hd
            have ha := ha.add (seeF hs 23 2 (.pointer (some ⟨b387, off388 + (x361 : Int).toNat * 1, none⟩)) (by kernel_rfl) (by kernel_rfl))
            refine yStep ha 24 (by kernel_rfl) ?_; intro l_ ha HK
            refine stepl ha 24 (Rd.ca (encI .u64) (0 : Int) (fun _ => rfl) (by have h_ := ((HW.rd0 hr2_1)); rw [hA389] at h_; exact h_) hA374 (show (x361 : Int) < ((a2).length : Int) from hA385)) 45 0 (.tmp 23) (.int .u64 (rdL (0 : Int) a2 x361)) rfl (by kernel_rfl) (by kernel_rfl) (by kernel_rfl) ?_; intro ax hax; exact HK _ _ _ hax rfl (Below.refl _ _)
          · skip
            intro a wr hn hd HW hs; have ha := hasNil hn hd
            have ha := ha.add (seeE hs 10 (.pointer (some ⟨b378, 0, none⟩)) (by kernel_rfl) (by kernel_rfl))
            refine yStep ha 25 (by kernel_rfl) ?_; intro l_ ha HK
            refine stepp ha 25 (.pointer (some ⟨b378, 2, none⟩)) (by kernel_rfl) (by kernel_rfl) ?_; intro ax hax; exact HK _ _ _ hax rfl (Below.refl _ _)
          · skip
            intro a wr hn hd HW hs; have ha := hasNil hn hd
            have ha := ha.add (seeF hs 25 4 (.pointer (some ⟨b378, 2, none⟩)) (by kernel_rfl) (by kernel_rfl))
            refine yStep ha 26 (by kernel_rfl) ?_; intro l_ ha HK
            refine stepl ha 26 (HW.ca (i := 0) (b := b378) (C := #[.int .i64 ((rdL T_sqe_field.z a1 x361).f0), .int .i64 ((rdL T_sqe_field.z a1 x361).f1), .int .u64 ((rdL T_sqe_field.z a1 x361).f2)]) (T := 118) (fr := (0, 0)) (by kernel_rfl)) 45 2 (.tmp 25) (.int .u64 ((rdL T_sqe_field.z a1 x361).f2)) rfl (by kernel_rfl) (by kernel_rfl) (by kernel_rfl) ?_; intro ax hax; exact HK _ _ _ hax rfl (Below.refl _ _)
          · skip
            intro a wr hn hd HW hs; have ha := hasNil hn hd
            have ha := ha.add (seeF hs 24 3 (.int .u64 (rdL (0 : Int) a2 x361)) (by kernel_rfl) (by kernel_rfl))
            have ha := ha.add (seeF hs 26 5 (.int .u64 ((rdL T_sqe_field.z a1 x361).f2)) (by kernel_rfl) (by kernel_rfl))
            refine yStep ha 27 (by kernel_rfl) ?_; intro l_ ha HK
            refine stepp ha 27 (.bool (decide ((rdL (0 : Int) a2 x361) ≥ ((rdL T_sqe_field.z a1 x361).f2)))) (by kernel_rfl) (by kernel_rfl) ?_; intro ax hax; exact HK _ _ _ hax rfl (Below.refl _ _)
        · skip
          intro a W390 ha HW he hf
          replace ha := ha.add (he 2 (.slice A2_1 a2.length c2_1) (by kernel_rfl) (by kernel_rfl))
          replace ha := ha.add (he 8 (.string x360) (by kernel_rfl) (by kernel_rfl))
          replace ha := ha.add (he 9 (.int .i64 x361) (by kernel_rfl) (by kernel_rfl))
          replace ha := ha.add (he 10 (.pointer (some ⟨b378, 0, none⟩)) (by kernel_rfl) (by kernel_rfl))
          replace ha := ha.add (he 14 (.slice A1_0 a1.length c1_0) (by kernel_rfl) (by kernel_rfl))
          replace ha := ha.add (he 15 (.int .i64 (a1.length : Int)) (by kernel_rfl) (by kernel_rfl))
          replace ha := ha.add (he 16 (.int .i64 x361) (by kernel_rfl) (by kernel_rfl))
          replace ha := ha.add (gotF (m := 7) (j := 6) (d := 27) (v := .bool (decide ((rdL (0 : Int) a2 x361) ≥ ((rdL T_sqe_field.z a1 x361).f2)))) hf (by kernel_rfl) (by kernel_rfl) (by kernel_rfl))
          clear he hf
          refine endl ?_
          refine thenN (hK384 _ _ ?_); clear hK384
          by_cases hp391 : (rdL (0 : Int) a2 x361) ≥ ((rdL T_sqe_field.z a1 x361).f2)
          · skip
            replace h := ite_pos' h hp391
            refine condT ha (by kernel_rfl) (by kernel_rfl) (t := decide ((rdL (0 : Int) a2 x361) ≥ ((rdL T_sqe_field.z a1 x361).f2))) (decide_eq_true hp391) ?_
            refine wp_seq_k (fun K392 hK393 => ?_)
            refine wp_region_lit ?_
            refine stepp ha 6 (.string (⟨#[]⟩ : ByteArray)) (by kernel_rfl) (by kernel_rfl) ?_; clear ha a; intro a ha
            refine stepp ha 7 (.bool false) (by kernel_rfl) (by kernel_rfl) ?_; clear ha a; intro a ha
            refine endl ?_
            refine thenN (hK393 _ _ ?_); clear hK393
            refine wp_ret ?_
            refine thenR ?_
            refine blkR ?_
            refine thenR ?_
            refine thenR ?_
            refine blkR ?_
            refine thenR ?_
            obtain rfl := Option.some.inj h
            exact finv ha _ _ rfl (.tmp (v := .string (⟨#[]⟩ : ByteArray)) (by kernel_rfl) (.tmp (v := .bool false) (by kernel_rfl) .nil)) (.tuple #[.string (⟨#[]⟩ : ByteArray), .bool false]) rfl ⟨rfl, HW.pick [] [] (by decide) (by decide) rfl (by kernel_rfl)⟩
          · skip
            replace h := ite_neg' h hp391
            refine condF ha (by kernel_rfl) (by kernel_rfl) (t := decide ((rdL (0 : Int) a2 x361) ≥ ((rdL T_sqe_field.z a1 x361).f2))) (decide_eq_false hp391) ?_
            refine wp_skip ?_
            refine thenN (hK382 _ _ ?_); clear hK382
            obtain ⟨t395, ht396, h_⟩ := bind_some' h; clear h; have h := h_; clear h_
            obtain ⟨t399, ht400, h_⟩ := bind_some' h; clear h; have h := h_; clear h_
            refine regionG 15 (by kernel_rfl) (by kernel_rfl) ha HW [.fix (.string x360), .fix (.pointer (some ⟨b378, 0, none⟩)), .fix (.int .i64 ((rdL T_sqe_field.z a1 x361).f0)), .fix (.slice A2_1 a2.length c2_1), .fix (.int .i64 x361), .fix (.pointer (some ⟨b387, off388 + (x361 : Int).toNat * 1, none⟩)), .fix (.int .u64 (rdL (0 : Int) a2 x361)), .fix (.pointer (some ⟨b378, 1, none⟩)), .fix (.int .i64 ((rdL T_sqe_field.z a1 x361).f1)), .fix (.string t395), .fix (.tuple #[.string t399.1, .bool t399.2]), .fix (.tuple #[.string t399.1, .bool t399.2]), .fix (.string t399.1), .fix (.bool t399.2), .fix (.string t399.1)] ?_ ?_
            · skip
              refine ⟨?_, ?_, ?_, ?_, ?_, ?_, ?_, ?_, ?_, ?_, ?_, ?_, ?_, ?_, ?_, trivial⟩
              · skip
                intro a wr hn hd HW hs; have ha := hasNil hn hd
                have ha := ha.add (seeE hs 8 (.string x360) (by kernel_rfl) (by kernel_rfl))
                refine yStep ha 29 (by kernel_rfl) ?_; intro l_ ha HK
                refine stepp ha 29 (.string x360) (by kernel_rfl) (by kernel_rfl) ?_; intro ax hax; exact HK _ _ _ hax rfl (Below.refl _ _)
              · skip
                intro a wr hn hd HW hs; have ha := hasNil hn hd
                have ha := ha.add (seeE hs 10 (.pointer (some ⟨b378, 0, none⟩)) (by kernel_rfl) (by kernel_rfl))
                refine yStep ha 30 (by kernel_rfl) ?_; intro l_ ha HK
                refine stepp ha 30 (.pointer (some ⟨b378, 0, none⟩)) (by kernel_rfl) (by kernel_rfl) ?_; intro ax hax; exact HK _ _ _ hax rfl (Below.refl _ _)
              · skip
                intro a wr hn hd HW hs; have ha := hasNil hn hd
                have ha := ha.add (seeF hs 30 1 (.pointer (some ⟨b378, 0, none⟩)) (by kernel_rfl) (by kernel_rfl))
                refine yStep ha 31 (by kernel_rfl) ?_; intro l_ ha HK
                refine stepl ha 31 (HW.ca (i := 0) (b := b378) (C := #[.int .i64 ((rdL T_sqe_field.z a1 x361).f0), .int .i64 ((rdL T_sqe_field.z a1 x361).f1), .int .u64 ((rdL T_sqe_field.z a1 x361).f2)]) (T := 118) (fr := (0, 0)) (by kernel_rfl)) 3 0 (.tmp 30) (.int .i64 ((rdL T_sqe_field.z a1 x361).f0)) rfl (by kernel_rfl) (by kernel_rfl) (by kernel_rfl) ?_; intro ax hax; exact HK _ _ _ hax rfl (Below.refl _ _)
              · skip
                intro a wr hn hd HW hs; have ha := hasNil hn hd
                have ha := ha.add (seeE hs 2 (.slice A2_1 a2.length c2_1) (by kernel_rfl) (by kernel_rfl))
                refine yStep ha 32 (by kernel_rfl) ?_; intro l_ ha HK
                refine stepp ha 32 (.slice A2_1 a2.length c2_1) (by kernel_rfl) (by kernel_rfl) ?_; intro ax hax; exact HK _ _ _ hax rfl (Below.refl _ _)
              · skip
                intro a wr hn hd HW hs; have ha := hasNil hn hd
                have ha := ha.add (seeE hs 9 (.int .i64 x361) (by kernel_rfl) (by kernel_rfl))
                refine yStep ha 33 (by kernel_rfl) ?_; intro l_ ha HK
                refine stepp ha 33 (.int .i64 x361) (by kernel_rfl) (by kernel_rfl) ?_; intro ax hax; exact HK _ _ _ hax rfl (Below.refl _ _)
              · skip
                intro a wr hn hd HW hs; have ha := hasNil hn hd
                have ha := ha.add (seeF hs 32 3 (.slice A2_1 a2.length c2_1) (by kernel_rfl) (by kernel_rfl))
                have ha := ha.add (seeF hs 33 4 (.int .i64 x361) (by kernel_rfl) (by kernel_rfl))
                replace ha := ha.turn 32 (u := .slice A2_1 a2.length c2_1) (v := .slice (some ⟨b387, off388, none⟩) a2.length c2_1) (by kernel_rfl) (by rw [hA389])
                refine yStep ha 34 (by kernel_rfl) ?_; intro l_ ha HK
                refine stepif ha 34 (sz := 1) (len := a2.length) (b := b387) (off := off388) (c := c2_1) 83 45 (.tmp 32) (.tmp 33) .i64 x361 rfl (by kernel_rfl) (by kernel_rfl) (by kernel_rfl) (by kernel_rfl) hA374 (show (x361 : Int) < ((a2).length : Int) from hA385) (by kernel_rfl) ?_; intro ax hax; exact HK _ _ _ hax rfl (Below.refl _ _)
              · skip
                intro a wr hn hd HW hs; have ha := hasNil hn hd
                have ha := ha.add (seeF hs 34 5 (.pointer (some ⟨b387, off388 + (x361 : Int).toNat * 1, none⟩)) (by kernel_rfl) (by kernel_rfl))
                refine yStep ha 35 (by kernel_rfl) ?_; intro l_ ha HK
                refine stepl ha 35 (Rd.ca (encI .u64) (0 : Int) (fun _ => rfl) (by have h_ := ((HW.rd0 hr2_1)); rw [hA389] at h_; exact h_) hA374 (show (x361 : Int) < ((a2).length : Int) from hA385)) 45 0 (.tmp 34) (.int .u64 (rdL (0 : Int) a2 x361)) rfl (by kernel_rfl) (by kernel_rfl) (by kernel_rfl) ?_; intro ax hax; exact HK _ _ _ hax rfl (Below.refl _ _)
              · skip
                intro a wr hn hd HW hs; have ha := hasNil hn hd
                have ha := ha.add (seeE hs 10 (.pointer (some ⟨b378, 0, none⟩)) (by kernel_rfl) (by kernel_rfl))
                refine yStep ha 36 (by kernel_rfl) ?_; intro l_ ha HK
                refine stepp ha 36 (.pointer (some ⟨b378, 1, none⟩)) (by kernel_rfl) (by kernel_rfl) ?_; intro ax hax; exact HK _ _ _ hax rfl (Below.refl _ _)
              · skip
                intro a wr hn hd HW hs; have ha := hasNil hn hd
                have ha := ha.add (seeF hs 36 7 (.pointer (some ⟨b378, 1, none⟩)) (by kernel_rfl) (by kernel_rfl))
                refine yStep ha 37 (by kernel_rfl) ?_; intro l_ ha HK
                refine stepl ha 37 (HW.ca (i := 0) (b := b378) (C := #[.int .i64 ((rdL T_sqe_field.z a1 x361).f0), .int .i64 ((rdL T_sqe_field.z a1 x361).f1), .int .u64 ((rdL T_sqe_field.z a1 x361).f2)]) (T := 118) (fr := (0, 0)) (by kernel_rfl)) 3 1 (.tmp 36) (.int .i64 ((rdL T_sqe_field.z a1 x361).f1)) rfl (by kernel_rfl) (by kernel_rfl) (by kernel_rfl) ?_; intro ax hax; exact HK _ _ _ hax rfl (Below.refl _ _)
              · skip
                intro a wr hn hd HW hs; have ha := hasNil hn hd
                have ha := ha.add (seeF hs 35 6 (.int .u64 (rdL (0 : Int) a2 x361)) (by kernel_rfl) (by kernel_rfl))
                have ha := ha.add (seeF hs 37 8 (.int .i64 ((rdL T_sqe_field.z a1 x361).f1)) (by kernel_rfl) (by kernel_rfl))
                refine yStep ha 38 (by kernel_rfl) ?_; intro l_ ha HK
                refine stepc ha 38 (by kernel_rfl) (by kernel_rfl) (fields_PutLittle.calls K (rdL (0 : Int) a2 x361) ((rdL T_sqe_field.z a1 x361).f1) t395 _ ht396) ?_; rintro e W397 ⟨rfl, HX398⟩
                refine ⟨_, rfl, ?_⟩; intro ax hax; exact HK _ _ _ hax rfl HX398.below
              · skip
                intro a wr hn hd HW hs; have ha := hasNil hn hd
                have ha := ha.add (seeF hs 29 0 (.string x360) (by kernel_rfl) (by kernel_rfl))
                have ha := ha.add (seeF hs 31 2 (.int .i64 ((rdL T_sqe_field.z a1 x361).f0)) (by kernel_rfl) (by kernel_rfl))
                have ha := ha.add (seeF hs 38 9 (.string t395) (by kernel_rfl) (by kernel_rfl))
                refine yStep ha 39 (by kernel_rfl) ?_; intro l_ ha HK
                refine stepc ha 39 (by kernel_rfl) (by kernel_rfl) (fields_Set.calls x360 ((rdL T_sqe_field.z a1 x361).f0) t395 t399 _ ht400) ?_; rintro e W401 ⟨rfl, HX402⟩
                refine ⟨_, rfl, ?_⟩; intro ax hax; exact HK _ _ _ hax rfl HX402.below
              · skip
                intro a wr hn hd HW hs; have ha := hasNil hn hd
                have ha := ha.add (seeF hs 39 10 (.tuple #[.string t399.1, .bool t399.2]) (by kernel_rfl) (by kernel_rfl))
                refine yStep ha 28 (by kernel_rfl) ?_; intro l_ ha HK
                refine stepp ha 28 (.tuple #[.string t399.1, .bool t399.2]) (by kernel_rfl) (by kernel_rfl) ?_; intro ax hax; exact HK _ _ _ hax rfl (Below.refl _ _)
              · skip
                intro a wr hn hd HW hs; have ha := hasNil hn hd
                have ha := ha.add (seeF hs 28 11 (.tuple #[.string t399.1, .bool t399.2]) (by kernel_rfl) (by kernel_rfl))
                refine yStep ha 40 (by kernel_rfl) ?_; intro l_ ha HK
                refine stepp ha 40 (.string t399.1) (by kernel_rfl) (by kernel_rfl) ?_; intro ax hax; exact HK _ _ _ hax rfl (Below.refl _ _)
              · skip
                intro a wr hn hd HW hs; have ha := hasNil hn hd
                have ha := ha.add (seeF hs 28 11 (.tuple #[.string t399.1, .bool t399.2]) (by kernel_rfl) (by kernel_rfl))
                refine yStep ha 41 (by kernel_rfl) ?_; intro l_ ha HK
                refine stepp ha 41 (.bool t399.2) (by kernel_rfl) (by kernel_rfl) ?_; intro ax hax; exact HK _ _ _ hax rfl (Below.refl _ _)
              · skip
                intro a wr hn hd HW hs; have ha := hasNil hn hd
                have ha := ha.add (seeF hs 40 12 (.string t399.1) (by kernel_rfl) (by kernel_rfl))
                refine yStep ha 8 (by kernel_rfl) ?_; intro l_ ha HK
                refine stepp ha 8 (.string t399.1) (by kernel_rfl) (by kernel_rfl) ?_; intro ax hax; exact HK _ _ _ hax rfl (Below.refl _ _)
            · skip
              intro a W403 ha HW he hf
              replace ha := ha.add (he 2 (.slice A2_1 a2.length c2_1) (by kernel_rfl) (by kernel_rfl))
              replace ha := ha.add (gotF (m := 15) (j := 14) (d := 8) (v := .string t399.1) hf (by kernel_rfl) (by kernel_rfl) (by kernel_rfl))
              replace ha := ha.add (he 14 (.slice A1_0 a1.length c1_0) (by kernel_rfl) (by kernel_rfl))
              replace ha := ha.add (he 15 (.int .i64 (a1.length : Int)) (by kernel_rfl) (by kernel_rfl))
              replace ha := ha.add (he 16 (.int .i64 x361) (by kernel_rfl) (by kernel_rfl))
              clear he hf
              refine endl ?_
              refine blkN ?_
              refine thenN (hK371 _ _ ?_); clear hK371
              refine wp_region_lit ?_
              refine stepp ha 42 (.int .i64 (IntKind.wrap .i64 (x361 + 1))) (by kernel_rfl) (by kernel_rfl) ?_; clear ha a; intro a ha
              refine stepp ha 16 (.int .i64 (IntKind.wrap .i64 (x361 + 1))) (by kernel_rfl) (by kernel_rfl) ?_; clear ha a; intro a ha
              refine endl ?_
              exact thenN ⟨k363, Nat.lt_succ_self k363, t399.1, IntKind.wrap .i64 (x361 + 1), (by rw [← hag364]; exact h), ha.sub (subs_cons (by kernel_rfl) (subs_cons (by kernel_rfl) (subs_cons (by kernel_rfl) (subs_cons (by kernel_rfl) (subs_cons (by kernel_rfl) (subs_nil _)))))), HW.pick [] [] (by decide) (by decide) (by kernel_rfl) (by kernel_rfl)⟩
      · skip
        replace h := ite_neg' h hp369
        refine condF ha (by kernel_rfl) (by kernel_rfl) (t := decide (x361 < (a1.length : Int))) (decide_eq_false hp369) ?_
        refine wp_exit ?_
        refine thenE ?_
        refine thenE ?_
        refine inBlk ?_
        refine thenN (hK274 _ _ ?_); clear hK274
        refine wp_seq_k (fun K404 hK405 => ?_)
        refine wp_region_lit ?_
        refine stepp ha 43 (.string x360) (by kernel_rfl) (by kernel_rfl) ?_; clear ha a; intro a ha
        refine stepp ha 6 (.string x360) (by kernel_rfl) (by kernel_rfl) ?_; clear ha a; intro a ha
        refine stepp ha 7 (.bool true) (by kernel_rfl) (by kernel_rfl) ?_; clear ha a; intro a ha
        refine endl ?_
        refine thenN (hK405 _ _ ?_); clear hK405
        refine wp_ret ?_
        obtain rfl := Option.some.inj h
        exact finv ha _ _ rfl (.tmp (v := .string x360) (by kernel_rfl) (.tmp (v := .bool true) (by kernel_rfl) .nil)) (.tuple #[.string x360, .bool true]) rfl ⟨rfl, HW.pick [] [] (by decide) (by decide) rfl (by kernel_rfl)⟩
end Go.Proofs.YtceagilmillgfaaDoor.F
