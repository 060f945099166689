/- headgate/fields.Set: a plain function, and that the call comes to what it says. No condition. -/
import Derived.Test.YtceagilmillgfaaDoorFT
namespace Go.Proofs.YtceagilmillgfaaDoor.F
open Go Go.RowKit Go.Proofs.YtceagilmillgfaaDoor.X
set_option linter.unusedVariables false
set_option linter.unusedSimpArgs false
/-! ### headgate/fields.Set: function 44 -/
def fields_Set.f (a0 : ByteArray) (a1 : Int) (a2 : ByteArray) : Option (ByteArray × Bool) :=
  if a1 < 0 then (some ((⟨#[]⟩ : ByteArray), false)) else (if (a2.size : Int) > (a0.size : Int) then (some ((⟨#[]⟩ : ByteArray), false)) else (if a1 > (IntKind.wrap .i64 ((a0.size : Int) - (a2.size : Int))) then (some ((⟨#[]⟩ : ByteArray), false)) else (asrt (0 ≤ a1) (asrt (a1 ≤ (a0.size : Int)) (asrt ((a0.extract 0 (a1 : Int).toNat).size + a2.size ≤ 9223372036854775807) (asrt (0 ≤ (IntKind.wrap .i64 (a1 + (a2.size : Int)))) (asrt ((IntKind.wrap .i64 (a1 + (a2.size : Int))) ≤ (a0.size : Int)) (asrt (((a0.extract 0 (a1 : Int).toNat) ++ a2).size + (a0.extract (IntKind.wrap .i64 (a1 + (a2.size : Int)) : Int).toNat (a0).size).size ≤ 9223372036854775807) (some (((a0.extract 0 (a1 : Int).toNat) ++ a2) ++ (a0.extract (IntKind.wrap .i64 (a1 + (a2.size : Int)) : Int).toNat (a0).size), true))))))))))
set_option maxRecDepth 100000 in
set_option maxHeartbeats 4000000 in
theorem fields_Set.calls (a0 : ByteArray) (a1 : Int) (a2 : ByteArray)  (r : ByteArray × Bool) (w : World)  (h : fields_Set.f a0 a1 a2 = some r) :
    Calls Tryd.prog 44 #[.string a0, .int .i64 a1, .string a2] w (fun e W' => e = .returned (.tuple #[.string r.1, .bool r.2]) ∧ Wd w W' [] [] ) := by
  refine sxstart (n := 38) (l := [(0, .string a0), (1, .int .i64 a1), (2, .string a2)]) Tryd.func44 rfl rfl (Nat.le_of_ble_eq_true (by kernel_rfl)) (subsA_cons rfl (subsA_cons rfl (subsA_cons rfl (subsA_nil _)))) ?_
  intro a ha
  have HW := Wd.refl w
  unfold fields_Set.f at h
  refine wp_seq_k (fun K1 hK2 => ?_)
  refine wp_region_lit ?_
  refine stepp ha 6 (.string (⟨#[]⟩ : ByteArray)) (by kernel_rfl) (by kernel_rfl) ?_; clear ha a; intro a ha
  refine stepp ha 7 (.bool false) (by kernel_rfl) (by kernel_rfl) ?_; clear ha a; intro a ha
  refine endl ?_
  refine thenN (hK2 _ _ ?_); clear hK2
  refine wp_seq_k (fun K3 hK4 => ?_)
  refine wp_seq_k (fun K5 hK6 => ?_)
  refine wp_region_lit ?_
  refine stepp ha 8 (.int .i64 a1) (by kernel_rfl) (by kernel_rfl) ?_; clear ha a; intro a ha
  refine stepp ha 9 (.bool (decide (a1 < 0))) (by kernel_rfl) (by kernel_rfl) ?_; clear ha a; intro a ha
  refine stepp ha 10 (.bool (decide (a1 < 0))) (by kernel_rfl) (by kernel_rfl) ?_; clear ha a; intro a ha
  by_cases hp7 : a1 < 0
  · skip
    replace h := ite_pos' h hp7
    replace ha := ha.bool 10 (by kernel_rfl) (decide_eq_true hp7)
    refine stepo ha 11 (by kernel_rfl) ?_; clear ha a; intro a ha
    refine stepo ha 12 (by kernel_rfl) ?_; clear ha a; intro a ha
    refine stepo ha 13 (by kernel_rfl) ?_; clear ha a; intro a ha
    refine stepo ha 14 (by kernel_rfl) ?_; clear ha a; intro a ha
    refine stepo ha 15 (by kernel_rfl) ?_; clear ha a; intro a ha
    refine stepp ha 16 (.bool true) (by kernel_rfl) (by kernel_rfl) ?_; clear ha a; intro a ha
    refine stepp ha 17 (.bool true) (by kernel_rfl) (by kernel_rfl) ?_; clear ha a; intro a ha
    refine stepo ha 18 (by kernel_rfl) ?_; clear ha a; intro a ha
    refine stepo ha 19 (by kernel_rfl) ?_; clear ha a; intro a ha
    refine stepo ha 20 (by kernel_rfl) ?_; clear ha a; intro a ha
    refine stepo ha 21 (by kernel_rfl) ?_; clear ha a; intro a ha
    refine stepo ha 22 (by kernel_rfl) ?_; clear ha a; intro a ha
    refine stepo ha 23 (by kernel_rfl) ?_; clear ha a; intro a ha
    refine stepo ha 24 (by kernel_rfl) ?_; clear ha a; intro a ha
    refine stepp ha 25 (.bool true) (by kernel_rfl) (by kernel_rfl) ?_; clear ha a; intro a ha
    refine endl ?_
    refine thenN (hK6 _ _ ?_); clear hK6
    refine condT ha (by kernel_rfl) (by kernel_rfl) (t := true) (rfl) ?_
    refine wp_seq_k (fun K9 hK10 => ?_)
    refine wp_region_lit ?_
    refine stepp ha 6 (.string (⟨#[]⟩ : ByteArray)) (by kernel_rfl) (by kernel_rfl) ?_; clear ha a; intro a ha
    refine stepp ha 7 (.bool false) (by kernel_rfl) (by kernel_rfl) ?_; clear ha a; intro a ha
    refine endl ?_
    refine thenN (hK10 _ _ ?_); clear hK10
    refine wp_ret ?_
    refine thenR ?_
    obtain rfl := Option.some.inj h
    exact finv ha _ _ rfl (.tmp (v := .string (⟨#[]⟩ : ByteArray)) (by kernel_rfl) (.tmp (v := .bool false) (by kernel_rfl) .nil)) (.tuple #[.string (⟨#[]⟩ : ByteArray), .bool false]) rfl ⟨rfl, HW.pick [] [] (by decide) (by decide) rfl (by kernel_rfl)⟩
  · skip
    replace h := ite_neg' h hp7
    replace ha := ha.bool 10 (by kernel_rfl) (decide_eq_false hp7)
    refine stepp ha 11 (.string a2) (by kernel_rfl) (by kernel_rfl) ?_; clear ha a; intro a ha
    refine stepp ha 12 (.int .i64 (a2.size : Int)) (by kernel_rfl) (by kernel_rfl) ?_; clear ha a; intro a ha
    refine stepp ha 13 (.string a0) (by kernel_rfl) (by kernel_rfl) ?_; clear ha a; intro a ha
    refine stepp ha 14 (.int .i64 (a0.size : Int)) (by kernel_rfl) (by kernel_rfl) ?_; clear ha a; intro a ha
    refine stepp ha 15 (.bool (decide ((a2.size : Int) > (a0.size : Int)))) (by kernel_rfl) (by kernel_rfl) ?_; clear ha a; intro a ha
    refine stepp ha 16 (.bool (decide ((a2.size : Int) > (a0.size : Int)))) (by kernel_rfl) (by kernel_rfl) ?_; clear ha a; intro a ha
    refine stepp ha 17 (.bool (decide ((a2.size : Int) > (a0.size : Int)))) (by kernel_rfl) (by kernel_rfl) ?_; clear ha a; intro a ha
    by_cases hp8 : (a2.size : Int) > (a0.size : Int)
    · skip
      replace h := ite_pos' h hp8
      replace ha := ha.bool 17 (by kernel_rfl) (decide_eq_true hp8)
      refine stepo ha 18 (by kernel_rfl) ?_; clear ha a; intro a ha
      refine stepo ha 19 (by kernel_rfl) ?_; clear ha a; intro a ha
      refine stepo ha 20 (by kernel_rfl) ?_; clear ha a; intro a ha
      refine stepo ha 21 (by kernel_rfl) ?_; clear ha a; intro a ha
      refine stepo ha 22 (by kernel_rfl) ?_; clear ha a; intro a ha
      refine stepo ha 23 (by kernel_rfl) ?_; clear ha a; intro a ha
      refine stepo ha 24 (by kernel_rfl) ?_; clear ha a; intro a ha
      refine stepp ha 25 (.bool true) (by kernel_rfl) (by kernel_rfl) ?_; clear ha a; intro a ha
      refine endl ?_
      refine thenN (hK6 _ _ ?_); clear hK6
      refine condT ha (by kernel_rfl) (by kernel_rfl) (t := true) (rfl) ?_
      refine wp_seq_k (fun K11 hK12 => ?_)
      refine wp_region_lit ?_
      refine stepp ha 6 (.string (⟨#[]⟩ : ByteArray)) (by kernel_rfl) (by kernel_rfl) ?_; clear ha a; intro a ha
      refine stepp ha 7 (.bool false) (by kernel_rfl) (by kernel_rfl) ?_; clear ha a; intro a ha
      refine endl ?_
      refine thenN (hK12 _ _ ?_); clear hK12
      refine wp_ret ?_
      refine thenR ?_
      obtain rfl := Option.some.inj h
      exact finv ha _ _ rfl (.tmp (v := .string (⟨#[]⟩ : ByteArray)) (by kernel_rfl) (.tmp (v := .bool false) (by kernel_rfl) .nil)) (.tuple #[.string (⟨#[]⟩ : ByteArray), .bool false]) rfl ⟨rfl, HW.pick [] [] (by decide) (by decide) rfl (by kernel_rfl)⟩
    · skip
      replace h := ite_neg' h hp8
      replace ha := ha.bool 17 (by kernel_rfl) (decide_eq_false hp8)
      refine stepp ha 18 (.int .i64 a1) (by kernel_rfl) (by kernel_rfl) ?_; clear ha a; intro a ha
      refine stepp ha 19 (.string a0) (by kernel_rfl) (by kernel_rfl) ?_; clear ha a; intro a ha
      refine stepp ha 20 (.int .i64 (a0.size : Int)) (by kernel_rfl) (by kernel_rfl) ?_; clear ha a; intro a ha
      refine stepp ha 21 (.string a2) (by kernel_rfl) (by kernel_rfl) ?_; clear ha a; intro a ha
      refine stepp ha 22 (.int .i64 (a2.size : Int)) (by kernel_rfl) (by kernel_rfl) ?_; clear ha a; intro a ha
      refine stepp ha 23 (.int .i64 (IntKind.wrap .i64 ((a0.size : Int) - (a2.size : Int)))) (by kernel_rfl) (by kernel_rfl) ?_; clear ha a; intro a ha
      refine stepp ha 24 (.bool (decide (a1 > (IntKind.wrap .i64 ((a0.size : Int) - (a2.size : Int)))))) (by kernel_rfl) (by kernel_rfl) ?_; clear ha a; intro a ha
      refine stepp ha 25 (.bool (decide (a1 > (IntKind.wrap .i64 ((a0.size : Int) - (a2.size : Int)))))) (by kernel_rfl) (by kernel_rfl) ?_; clear ha a; intro a ha
      refine endl ?_
      refine thenN (hK6 _ _ ?_); clear hK6
      by_cases hp13 : a1 > (IntKind.wrap .i64 ((a0.size : Int) - (a2.size : Int)))
      · skip
        replace h := ite_pos' h hp13
        refine condT ha (by kernel_rfl) (by kernel_rfl) (t := decide (a1 > (IntKind.wrap .i64 ((a0.size : Int) - (a2.size : Int))))) (decide_eq_true hp13) ?_
        refine wp_seq_k (fun K14 hK15 => ?_)
        refine wp_region_lit ?_
        refine stepp ha 6 (.string (⟨#[]⟩ : ByteArray)) (by kernel_rfl) (by kernel_rfl) ?_; clear ha a; intro a ha
        refine stepp ha 7 (.bool false) (by kernel_rfl) (by kernel_rfl) ?_; clear ha a; intro a ha
        refine endl ?_
        refine thenN (hK15 _ _ ?_); clear hK15
        refine wp_ret ?_
        refine thenR ?_
        obtain rfl := Option.some.inj h
        exact finv ha _ _ rfl (.tmp (v := .string (⟨#[]⟩ : ByteArray)) (by kernel_rfl) (.tmp (v := .bool false) (by kernel_rfl) .nil)) (.tuple #[.string (⟨#[]⟩ : ByteArray), .bool false]) rfl ⟨rfl, HW.pick [] [] (by decide) (by decide) rfl (by kernel_rfl)⟩
      · skip
        replace h := ite_neg' h hp13
        refine condF ha (by kernel_rfl) (by kernel_rfl) (t := decide (a1 > (IntKind.wrap .i64 ((a0.size : Int) - (a2.size : Int))))) (decide_eq_false hp13) ?_
        refine wp_skip ?_
        refine thenN (hK4 _ _ ?_); clear hK4
        refine wp_seq_k (fun K16 hK17 => ?_)
        obtain ⟨hA18, h_⟩ := asrt_some h; clear h; have h := h_; clear h_
        obtain ⟨hA19, h_⟩ := asrt_some h; clear h; have h := h_; clear h_
        obtain ⟨hA20, h_⟩ := asrt_some h; clear h; have h := h_; clear h_
        obtain ⟨hA21, h_⟩ := asrt_some h; clear h; have h := h_; clear h_
        obtain ⟨hA22, h_⟩ := asrt_some h; clear h; have h := h_; clear h_
        obtain ⟨hA23, h_⟩ := asrt_some h; clear h; have h := h_; clear h_
        refine regionG 12 (by kernel_rfl) (by kernel_rfl) ha HW [.fix (.string a0), .fix (.int .i64 a1), .fix (.string (a0.extract 0 (a1 : Int).toNat)), .fix (.string a2), .fix (.string ((a0.extract 0 (a1 : Int).toNat) ++ a2)), .fix (.string a0), .fix (.int .i64 a1), .fix (.string a2), .fix (.int .i64 (a2.size : Int)), .fix (.int .i64 (IntKind.wrap .i64 (a1 + (a2.size : Int)))), .fix (.string (a0.extract (IntKind.wrap .i64 (a1 + (a2.size : Int)) : Int).toNat (a0).size)), .fix (.string (((a0.extract 0 (a1 : Int).toNat) ++ a2) ++ (a0.extract (IntKind.wrap .i64 (a1 + (a2.size : Int)) : Int).toNat (a0).size)))] ?_ ?_
        · skip
          refine ⟨?_, ?_, ?_, ?_, ?_, ?_, ?_, ?_, ?_, ?_, ?_, ?_, trivial⟩
          · skip
            intro a wr hn hd HW hs; have ha := hasNil hn hd
            have ha := ha.add (seeE hs 0 (.string a0) (by kernel_rfl) (by kernel_rfl))
            refine yStep ha 26 (by kernel_rfl) ?_; intro l_ ha HK
            refine stepp ha 26 (.string a0) (by kernel_rfl) (by kernel_rfl) ?_; intro ax hax; exact HK _ _ _ hax rfl (Below.refl _ _)
          · skip
            intro a wr hn hd HW hs; have ha := hasNil hn hd
            have ha := ha.add (seeE hs 1 (.int .i64 a1) (by kernel_rfl) (by kernel_rfl))
            refine yStep ha 27 (by kernel_rfl) ?_; intro l_ ha HK
            refine stepp ha 27 (.int .i64 a1) (by kernel_rfl) (by kernel_rfl) ?_; intro ax hax; exact HK _ _ _ hax rfl (Below.refl _ _)
          · skip
            intro a wr hn hd HW hs; have ha := hasNil hn hd
            have ha := ha.add (seeF hs 26 0 (.string a0) (by kernel_rfl) (by kernel_rfl))
            have ha := ha.add (seeF hs 27 1 (.int .i64 a1) (by kernel_rfl) (by kernel_rfl))
            refine yStep ha 28 (by kernel_rfl) ?_; intro l_ ha HK
            refine stepssh ha 28 9 (.tmp 26) (.tmp 27) a0 .i64 a1 rfl (by kernel_rfl) (by kernel_rfl) (by kernel_rfl) hA18 (show (a1 : Int) ≤ ((a0).size : Int) from hA19) (by kernel_rfl) ?_; intro ax hax; exact HK _ _ _ hax rfl (Below.refl _ _)
          · skip
            intro a wr hn hd HW hs; have ha := hasNil hn hd
            have ha := ha.add (seeE hs 2 (.string a2) (by kernel_rfl) (by kernel_rfl))
            refine yStep ha 29 (by kernel_rfl) ?_; intro l_ ha HK
            refine stepp ha 29 (.string a2) (by kernel_rfl) (by kernel_rfl) ?_; intro ax hax; exact HK _ _ _ hax rfl (Below.refl _ _)
          · skip
            intro a wr hn hd HW hs; have ha := hasNil hn hd
            have ha := ha.add (seeF hs 28 2 (.string (a0.extract 0 (a1 : Int).toNat)) (by kernel_rfl) (by kernel_rfl))
            have ha := ha.add (seeF hs 29 3 (.string a2) (by kernel_rfl) (by kernel_rfl))
            refine yStep ha 30 (by kernel_rfl) ?_; intro l_ ha HK
            refine stepsa ha 30 9 9 (.tmp 28) (.tmp 29) (a0.extract 0 (a1 : Int).toNat) a2 rfl (by kernel_rfl) (by kernel_rfl) (show (a0.extract 0 (a1 : Int).toNat).size + (a2).size ≤ 9223372036854775807 from hA20) (by kernel_rfl) ?_; intro ax hax; exact HK _ _ _ hax rfl (Below.refl _ _)
          · skip
            intro a wr hn hd HW hs; have ha := hasNil hn hd
            have ha := ha.add (seeE hs 0 (.string a0) (by kernel_rfl) (by kernel_rfl))
            refine yStep ha 31 (by kernel_rfl) ?_; intro l_ ha HK
            refine stepp ha 31 (.string a0) (by kernel_rfl) (by kernel_rfl) ?_; intro ax hax; exact HK _ _ _ hax rfl (Below.refl _ _)
          · skip
            intro a wr hn hd HW hs; have ha := hasNil hn hd
            have ha := ha.add (seeE hs 1 (.int .i64 a1) (by kernel_rfl) (by kernel_rfl))
            refine yStep ha 32 (by kernel_rfl) ?_; intro l_ ha HK
            refine stepp ha 32 (.int .i64 a1) (by kernel_rfl) (by kernel_rfl) ?_; intro ax hax; exact HK _ _ _ hax rfl (Below.refl _ _)
          · skip
            intro a wr hn hd HW hs; have ha := hasNil hn hd
            have ha := ha.add (seeE hs 2 (.string a2) (by kernel_rfl) (by kernel_rfl))
            refine yStep ha 33 (by kernel_rfl) ?_; intro l_ ha HK
            refine stepp ha 33 (.string a2) (by kernel_rfl) (by kernel_rfl) ?_; intro ax hax; exact HK _ _ _ hax rfl (Below.refl _ _)
          · skip
            intro a wr hn hd HW hs; have ha := hasNil hn hd
            have ha := ha.add (seeF hs 33 7 (.string a2) (by kernel_rfl) (by kernel_rfl))
            refine yStep ha 34 (by kernel_rfl) ?_; intro l_ ha HK
            refine stepp ha 34 (.int .i64 (a2.size : Int)) (by kernel_rfl) (by kernel_rfl) ?_; intro ax hax; exact HK _ _ _ hax rfl (Below.refl _ _)
          · skip
            intro a wr hn hd HW hs; have ha := hasNil hn hd
            have ha := ha.add (seeF hs 32 6 (.int .i64 a1) (by kernel_rfl) (by kernel_rfl))
            have ha := ha.add (seeF hs 34 8 (.int .i64 (a2.size : Int)) (by kernel_rfl) (by kernel_rfl))
            refine yStep ha 35 (by kernel_rfl) ?_; intro l_ ha HK
            refine stepp ha 35 (.int .i64 (IntKind.wrap .i64 (a1 + (a2.size : Int)))) (by kernel_rfl) (by kernel_rfl) ?_; intro ax hax; exact HK _ _ _ hax rfl (Below.refl _ _)
          · skip
            intro a wr hn hd HW hs; have ha := hasNil hn hd
            have ha := ha.add (seeF hs 31 5 (.string a0) (by kernel_rfl) (by kernel_rfl))
            have ha := ha.add (seeF hs 35 9 (.int .i64 (IntKind.wrap .i64 (a1 + (a2.size : Int)))) (by kernel_rfl) (by kernel_rfl))
            refine yStep ha 36 (by kernel_rfl) ?_; intro l_ ha HK
            refine stepssl ha 36 9 (.tmp 31) (.tmp 35) a0 .i64 (IntKind.wrap .i64 (a1 + (a2.size : Int))) rfl (by kernel_rfl) (by kernel_rfl) (by kernel_rfl) hA21 (show (IntKind.wrap .i64 (a1 + (a2.size : Int)) : Int) ≤ ((a0).size : Int) from hA22) (by kernel_rfl) ?_; intro ax hax; exact HK _ _ _ hax rfl (Below.refl _ _)
          · skip
            intro a wr hn hd HW hs; have ha := hasNil hn hd
            have ha := ha.add (seeF hs 30 4 (.string ((a0.extract 0 (a1 : Int).toNat) ++ a2)) (by kernel_rfl) (by kernel_rfl))
            have ha := ha.add (seeF hs 36 10 (.string (a0.extract (IntKind.wrap .i64 (a1 + (a2.size : Int)) : Int).toNat (a0).size)) (by kernel_rfl) (by kernel_rfl))
            refine yStep ha 37 (by kernel_rfl) ?_; intro l_ ha HK
            refine stepsa ha 37 9 9 (.tmp 30) (.tmp 36) ((a0.extract 0 (a1 : Int).toNat) ++ a2) (a0.extract (IntKind.wrap .i64 (a1 + (a2.size : Int)) : Int).toNat (a0).size) rfl (by kernel_rfl) (by kernel_rfl) (show ((a0.extract 0 (a1 : Int).toNat) ++ a2).size + (a0.extract (IntKind.wrap .i64 (a1 + (a2.size : Int)) : Int).toNat (a0).size).size ≤ 9223372036854775807 from hA23) (by kernel_rfl) ?_; intro ax hax; exact HK _ _ _ hax rfl (Below.refl _ _)
        · skip
          intro a W24 ha HW he hf
          replace ha := ha.add (gotF (m := 12) (j := 11) (d := 37) (v := .string (((a0.extract 0 (a1 : Int).toNat) ++ a2) ++ (a0.extract (IntKind.wrap .i64 (a1 + (a2.size : Int)) : Int).toNat (a0).size))) hf (by kernel_rfl) (by kernel_rfl) (by kernel_rfl))
          clear he hf
          refine stepp ha 6 (.string (((a0.extract 0 (a1 : Int).toNat) ++ a2) ++ (a0.extract (IntKind.wrap .i64 (a1 + (a2.size : Int)) : Int).toNat (a0).size))) (by kernel_rfl) (by kernel_rfl) ?_; clear ha a; intro a ha
          refine stepp ha 7 (.bool true) (by kernel_rfl) (by kernel_rfl) ?_; clear ha a; intro a ha
          refine endl ?_
          refine thenN (hK17 _ _ ?_); clear hK17
          refine wp_ret ?_
          obtain rfl := Option.some.inj h
          exact finv ha _ _ rfl (.tmp (v := .string (((a0.extract 0 (a1 : Int).toNat) ++ a2) ++ (a0.extract (IntKind.wrap .i64 (a1 + (a2.size : Int)) : Int).toNat (a0).size))) (by kernel_rfl) (.tmp (v := .bool true) (by kernel_rfl) .nil)) (.tuple #[.string (((a0.extract 0 (a1 : Int).toNat) ++ a2) ++ (a0.extract (IntKind.wrap .i64 (a1 + (a2.size : Int)) : Int).toNat (a0).size)), .bool true]) rfl ⟨rfl, HW.pick [] [] (by decide) (by decide) rfl (by kernel_rfl)⟩
end Go.Proofs.YtceagilmillgfaaDoor.F
