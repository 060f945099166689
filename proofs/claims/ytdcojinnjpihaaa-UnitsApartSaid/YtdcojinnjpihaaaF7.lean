/- headgate/units.New, headgate/names.letters, headgate/names.Name, slices.Clone[[]int,int], (*headgate/units.Units).Add, (*headgate/units.Units).Wait, (*headgate/units.Units).Take, (*headgate/units.Units).Forget: plain functions, and that the calls come to what they say. No condition. -/
import Derived.Test.YtdcojinnjpihaaaFT
import Derived.Test.YtdcojinnjpihaaaXLet
import Derived.Test.YtdcojinnjpihaaaXPan2
import Derived.Test.YtdcojinnjpihaaaXStage
import Derived.Test.YtdcojinnjpihaaaXObj
import Derived.Test.YtdcojinnjpihaaaXUnits
namespace Go.Proofs.Ytdcojinnjpihaaa.F
open Go Go.RowKit Go.Proofs.Ytdcojinnjpihaaa.X
set_option linter.unusedVariables false
set_option linter.unusedSimpArgs false
/-! ### headgate/units.New: function 7 -/
def units_New.f  : Option UMap :=
  some (none : UMap)
set_option maxRecDepth 100000 in
set_option maxHeartbeats 4000000 in
theorem units_New.calls    (r : UMap) (w w1 : World) (F bs : Blks) (os : List OwnA) (HW : Wd w w1 (F ++ bs) os) (h : units_New.f  = some r) :
    Calls Try.prog 7 #[] w1 (fun e W' => ∃ p_0, ∃ U_0 : Blks, e = .returned (.pointer (some ⟨p_0, 0, none⟩)) ∧ UAt w F p_0 r U_0 ∧ Wd w W' (U_0 ++ (F ++ bs)) (os)) := by
  refine sxstart (n := 3) (l := []) Try.func7 rfl rfl (Nat.le_of_ble_eq_true KR) (subsA_nil _) ?_
  intro a ha
  replace HW : Wd w w1 (F ++ bs) (os) := HW
  unfold units_New.f at h
  refine wp_seq_k (fun K1 hK2 => ?_)
  refine wp_region_lit ?_
  refine stepp ha 0 (.pointer none) KR KR ?_; clear ha a; intro a ha
  refine endl ?_
  refine thenN (hK2 _ _ ?_); clear hK2
  refine wp_seq_k (fun K3 hK4 => ?_)
  refine wp_region_lit ?_
  refine stepp ha 1 (.agg #[.map none]) KR KR ?_; clear ha a; intro a ha
  refine stepnew ha HW 2 #[.map none] 49 KR KR ?_; clear ha HW a; intro b5 a W6 HW ha
  refine stepp ha 0 (.pointer (some ⟨b5, 0, none⟩)) KR KR ?_; clear ha a; intro a ha
  refine endl ?_
  refine thenN (hK4 _ _ ?_); clear hK4
  refine wp_ret ?_
  obtain ⟨U7, hU8, HW⟩ := uat_new (F := F) (Wd.segs (ss := [[(b5, .cells #[.map none] 49 (0, 0))], F]) (bt := bs) (m := []) (ot := os) [[(b5, .cells #[.map none] 49 (0, 0))], F] [] HW [0, 1] [] [] KR KR (by decide) KR)
  replace HW := Wd.segs (ss := [U7, F]) (bt := bs) (m := []) (ot := os) [U7, F] [] HW [0, 1] [] [] KR KR (by decide) KR
  replace HW : Wd w W6 (U7 ++ (F ++ bs)) (os) := HW
  obtain rfl := Option.some.inj h
  exact finv ha _ _ rfl (.tmp (v := .pointer (some ⟨b5, 0, none⟩)) KR .nil) (.pointer (some ⟨b5, 0, none⟩)) rfl ⟨b5, U7, rfl, hU8, (Wd.segs (ss := [U7, F]) (bt := bs) (m := []) (ot := os) [U7, F] [] HW [0, 1] [] [] KR KR (by decide) KR)⟩
/-! ### headgate/names.letters: function 28, by a plain run (XLet) -/
/-! ### headgate/names.Name: function 22 -/
def names_Name.b0 (K : Nat) (a0 : ByteArray) (again76 : Int → Option Bool) (x77 : Int) : Option Bool :=
  if x77 < (a0.size : Int) then (asrt (0 ≤ x77) (asrt (0 ≤ (bt a0 x77)) (asrt ((bt a0 x77) < 256) (if (rdL false LETTERS (bt a0 x77)) = true then (again76 (IntKind.wrap .i64 (x77 + 1))) else (some false))))) else (some true)
def names_Name.l0 (K : Nat) (a0 : ByteArray) : Nat → Int → Option Bool
  | 0, _ => none
  | k_ + 1, x77 => names_Name.b0 K a0 (names_Name.l0 K a0 k_) x77
def names_Name.f (K : Nat) (a0 : ByteArray) : Option Bool :=
  if (a0.size : Int) < 1 then (some false) else (if (a0.size : Int) > 64 then (some false) else (asrt (0 < (a0.size : Int)) (if (bt a0 0) < 97 then (some false) else (if (bt a0 0) > 122 then (some false) else (names_Name.l0 K a0 K 0)))))
set_option maxRecDepth 100000 in
set_option maxHeartbeats 4000000 in
theorem names_Name.calls (K : Nat) (a0 : ByteArray)  (r : Bool) (w : World)  (h : names_Name.f K a0 = some r) :
    Calls Try.prog 22 #[.string a0] w (fun e W' => e = .returned (.bool r) ∧ Wd w W' [] [] ) := by
  refine sxstart (n := 38) (l := [(0, .string a0)]) Try.func22 rfl rfl (Nat.le_of_ble_eq_true KR) (subsA_cons rfl (subsA_nil _)) ?_
  intro a ha
  have HW := Wd.refl w
  unfold names_Name.f at h
  refine wp_seq_k (fun K9 hK10 => ?_)
  refine wp_region_lit ?_
  refine stepp ha 2 (.bool false) KR KR ?_; clear ha a; intro a ha
  refine endl ?_
  refine thenN (hK10 _ _ ?_); clear hK10
  refine wp_seq_k (fun K11 hK12 => ?_)
  refine wp_seq_k (fun K13 hK14 => ?_)
  refine wp_region_lit ?_
  refine stepp ha 5 (.string a0) KR KR ?_; clear ha a; intro a ha
  refine stepp ha 6 (.int .i64 (a0.size : Int)) KR KR ?_; clear ha a; intro a ha
  refine stepp ha 7 (.bool (decide ((a0.size : Int) < 1))) KR KR ?_; clear ha a; intro a ha
  refine stepp ha 8 (.bool (decide ((a0.size : Int) < 1))) KR KR ?_; clear ha a; intro a ha
  by_cases hp15 : (a0.size : Int) < 1
  · skip
    replace h := ite_pos' h hp15
    replace ha := ha.bool 8 KR (decide_eq_true hp15)
    refine stepo ha 9 KR ?_; clear ha a; intro a ha
    refine stepo ha 10 KR ?_; clear ha a; intro a ha
    refine stepo ha 11 KR ?_; clear ha a; intro a ha
    refine stepp ha 12 (.bool true) KR KR ?_; clear ha a; intro a ha
    refine stepp ha 13 (.bool true) KR KR ?_; clear ha a; intro a ha
    refine stepo ha 14 KR ?_; clear ha a; intro a ha
    refine stepo ha 15 KR ?_; clear ha a; intro a ha
    refine stepo ha 16 KR ?_; clear ha a; intro a ha
    refine stepp ha 17 (.bool true) KR KR ?_; clear ha a; intro a ha
    refine stepp ha 18 (.bool true) KR KR ?_; clear ha a; intro a ha
    refine stepo ha 19 KR ?_; clear ha a; intro a ha
    refine stepo ha 20 KR ?_; clear ha a; intro a ha
    refine stepo ha 21 KR ?_; clear ha a; intro a ha
    refine stepp ha 22 (.bool true) KR KR ?_; clear ha a; intro a ha
    refine endl ?_
    refine thenN (hK14 _ _ ?_); clear hK14
    refine condT ha KR KR (t := true) (rfl) ?_
    refine wp_seq_k (fun K19 hK20 => ?_)
    refine wp_region_lit ?_
    refine stepp ha 2 (.bool false) KR KR ?_; clear ha a; intro a ha
    refine endl ?_
    refine thenN (hK20 _ _ ?_); clear hK20
    refine wp_ret ?_
    refine thenR ?_
    obtain rfl := Option.some.inj h
    exact finv ha _ _ rfl (.tmp (v := .bool false) KR .nil) (.bool false) rfl ⟨rfl, HW.pick [] [] (by decide) (by decide) rfl KR⟩
  · skip
    replace h := ite_neg' h hp15
    replace ha := ha.bool 8 KR (decide_eq_false hp15)
    refine stepp ha 9 (.string a0) KR KR ?_; clear ha a; intro a ha
    refine stepp ha 10 (.int .i64 (a0.size : Int)) KR KR ?_; clear ha a; intro a ha
    refine stepp ha 11 (.bool (decide ((a0.size : Int) > 64))) KR KR ?_; clear ha a; intro a ha
    refine stepp ha 12 (.bool (decide ((a0.size : Int) > 64))) KR KR ?_; clear ha a; intro a ha
    refine stepp ha 13 (.bool (decide ((a0.size : Int) > 64))) KR KR ?_; clear ha a; intro a ha
    by_cases hp16 : (a0.size : Int) > 64
    · skip
      replace h := ite_pos' h hp16
      replace ha := ha.bool 13 KR (decide_eq_true hp16)
      refine stepo ha 14 KR ?_; clear ha a; intro a ha
      refine stepo ha 15 KR ?_; clear ha a; intro a ha
      refine stepo ha 16 KR ?_; clear ha a; intro a ha
      refine stepp ha 17 (.bool true) KR KR ?_; clear ha a; intro a ha
      refine stepp ha 18 (.bool true) KR KR ?_; clear ha a; intro a ha
      refine stepo ha 19 KR ?_; clear ha a; intro a ha
      refine stepo ha 20 KR ?_; clear ha a; intro a ha
      refine stepo ha 21 KR ?_; clear ha a; intro a ha
      refine stepp ha 22 (.bool true) KR KR ?_; clear ha a; intro a ha
      refine endl ?_
      refine thenN (hK14 _ _ ?_); clear hK14
      refine condT ha KR KR (t := true) (rfl) ?_
      refine wp_seq_k (fun K21 hK22 => ?_)
      refine wp_region_lit ?_
      refine stepp ha 2 (.bool false) KR KR ?_; clear ha a; intro a ha
      refine endl ?_
      refine thenN (hK22 _ _ ?_); clear hK22
      refine wp_ret ?_
      refine thenR ?_
      obtain rfl := Option.some.inj h
      exact finv ha _ _ rfl (.tmp (v := .bool false) KR .nil) (.bool false) rfl ⟨rfl, HW.pick [] [] (by decide) (by decide) rfl KR⟩
    · skip
      replace h := ite_neg' h hp16
      replace ha := ha.bool 13 KR (decide_eq_false hp16)
      refine stepp ha 14 (.string a0) KR KR ?_; clear ha a; intro a ha
      obtain ⟨hA17, h_⟩ := asrt_some h; clear h; have h := h_; clear h_
      refine stepsi ha 15 9 (.tmp 14) (.const (.int .i64 0)) a0 .i64 0 rfl KR KR KR (by decide) (show (0 : Int) < ((a0).size : Int) from hA17) KR ?_; clear ha a; intro a ha
      refine stepp ha 16 (.bool (decide ((bt a0 0) < 97))) KR KR ?_; clear ha a; intro a ha
      refine stepp ha 17 (.bool (decide ((bt a0 0) < 97))) KR KR ?_; clear ha a; intro a ha
      refine stepp ha 18 (.bool (decide ((bt a0 0) < 97))) KR KR ?_; clear ha a; intro a ha
      by_cases hp18 : (bt a0 0) < 97
      · skip
        replace h := ite_pos' h hp18
        replace ha := ha.bool 18 KR (decide_eq_true hp18)
        refine stepo ha 19 KR ?_; clear ha a; intro a ha
        refine stepo ha 20 KR ?_; clear ha a; intro a ha
        refine stepo ha 21 KR ?_; clear ha a; intro a ha
        refine stepp ha 22 (.bool true) KR KR ?_; clear ha a; intro a ha
        refine endl ?_
        refine thenN (hK14 _ _ ?_); clear hK14
        refine condT ha KR KR (t := true) (rfl) ?_
        refine wp_seq_k (fun K23 hK24 => ?_)
        refine wp_region_lit ?_
        refine stepp ha 2 (.bool false) KR KR ?_; clear ha a; intro a ha
        refine endl ?_
        refine thenN (hK24 _ _ ?_); clear hK24
        refine wp_ret ?_
        refine thenR ?_
        obtain rfl := Option.some.inj h
        exact finv ha _ _ rfl (.tmp (v := .bool false) KR .nil) (.bool false) rfl ⟨rfl, HW.pick [] [] (by decide) (by decide) rfl KR⟩
      · skip
        replace h := ite_neg' h hp18
        replace ha := ha.bool 18 KR (decide_eq_false hp18)
        refine stepp ha 19 (.string a0) KR KR ?_; clear ha a; intro a ha
        refine stepsi ha 20 9 (.tmp 19) (.const (.int .i64 0)) a0 .i64 0 rfl KR KR KR (by decide) (show (0 : Int) < ((a0).size : Int) from hA17) KR ?_; clear ha a; intro a ha
        refine stepp ha 21 (.bool (decide ((bt a0 0) > 122))) KR KR ?_; clear ha a; intro a ha
        refine stepp ha 22 (.bool (decide ((bt a0 0) > 122))) KR KR ?_; clear ha a; intro a ha
        refine endl ?_
        refine thenN (hK14 _ _ ?_); clear hK14
        by_cases hp25 : (bt a0 0) > 122
        · skip
          replace h := ite_pos' h hp25
          refine condT ha KR KR (t := decide ((bt a0 0) > 122)) (decide_eq_true hp25) ?_
          refine wp_seq_k (fun K26 hK27 => ?_)
          refine wp_region_lit ?_
          refine stepp ha 2 (.bool false) KR KR ?_; clear ha a; intro a ha
          refine endl ?_
          refine thenN (hK27 _ _ ?_); clear hK27
          refine wp_ret ?_
          refine thenR ?_
          obtain rfl := Option.some.inj h
          exact finv ha _ _ rfl (.tmp (v := .bool false) KR .nil) (.bool false) rfl ⟨rfl, HW.pick [] [] (by decide) (by decide) rfl KR⟩
        · skip
          replace h := ite_neg' h hp25
          refine condF ha KR KR (t := decide ((bt a0 0) > 122)) (decide_eq_false hp25) ?_
          refine wp_skip ?_
          refine thenN (hK12 _ _ ?_); clear hK12
          refine wp_seq_k (fun K28 hK29 => ?_)
          refine wp_region_lit ?_
          refine stepc ha 23 KR KR (letters_calls _) ?_; clear ha a; rintro e W30 ⟨b32, fr33, rfl, HX31⟩
          refine ⟨_, rfl, ?_⟩; intro a ha; replace HW : Wd w W30 [(b32, .cells (encs encB LETTERS).toArray 62 fr33)] [] := HW.callw HX31; clear HX31
          refine stepp ha 3 (.pointer (some ⟨b32, 0, none⟩)) KR KR ?_; clear ha a; intro a ha
          refine endl ?_
          refine thenN (hK29 _ _ ?_); clear hK29
          refine wp_seq_k (fun K34 hK35 => ?_)
          refine wp_seq_k (fun K36 hK37 => ?_)
          refine wp_region_lit ?_
          refine stepp ha 24 (.string a0) KR KR ?_; clear ha a; intro a ha
          refine stepp ha 25 (.int .i64 (a0.size : Int)) KR KR ?_; clear ha a; intro a ha
          refine stepp ha 26 (.int .i64 0) KR KR ?_; clear ha a; intro a ha
          refine endl ?_
          refine thenN (hK37 _ _ ?_); clear hK37
          refine wp_block ?_
          refine loopk (fun k => fun a W78 => ∃ (x77 : Int), names_Name.l0 K a0 k x77 = some r ∧ Has 38 [(0, .string a0), (3, .pointer (some ⟨b32, 0, none⟩)), (25, .int .i64 (a0.size : Int)), (26, .int .i64 x77)] a ∧ Wd w W78 [(b32, .cells (encs encB LETTERS).toArray 62 fr33)] []) K ?_ ?_
          · skip
            exact ⟨0, h, ha.sub (subs_cons KR (subs_cons KR (subs_cons KR (subs_cons KR (subs_nil _))))), HW.pick [0] [] (by decide) (by decide) KR KR⟩
          · skip
            intro k a W78 hI
            obtain ⟨x77, h, ha, HW⟩ := hI
            cases k with
            | zero => exact (none_some (show none = some r from h)).elim
            | succ k79 =>
              replace h : names_Name.b0 K a0 (names_Name.l0 K a0 k79) x77 = some r := h
              obtain ⟨again76, hag80⟩ : ∃ g_, g_ = names_Name.l0 K a0 k79 := ⟨_, rfl⟩
              rw [← hag80] at h
              unfold names_Name.b0 at h
              refine wp_seq_k (fun K81 hK82 => ?_)
              refine wp_region_lit ?_
              refine stepp ha 27 (.bool (decide (x77 < (a0.size : Int)))) KR KR ?_; clear ha a; intro a ha
              refine endl ?_
              refine thenN (hK82 _ _ ?_); clear hK82
              refine wp_seq_k (fun K83 hK84 => ?_)
              by_cases hp85 : x77 < (a0.size : Int)
              · skip
                replace h := ite_pos' h hp85
                refine condT ha KR KR (t := decide (x77 < (a0.size : Int))) (decide_eq_true hp85) ?_
                refine wp_skip ?_
                refine thenN (hK84 _ _ ?_); clear hK84
                refine wp_seq_k (fun K86 hK87 => ?_)
                refine wp_block ?_
                refine wp_seq_k (fun K88 hK89 => ?_)
                refine wp_region_lit ?_
                refine stepp ha 28 (.int .i64 x77) KR KR ?_; clear ha a; intro a ha
                refine stepp ha 4 (.int .i64 x77) KR KR ?_; clear ha a; intro a ha
                refine endl ?_
                refine thenN (hK89 _ _ ?_); clear hK89
                refine wp_seq_k (fun K90 hK91 => ?_)
                obtain ⟨hA92, h_⟩ := asrt_some h; clear h; have h := h_; clear h_
                obtain ⟨hA93, h_⟩ := asrt_some h; clear h; have h := h_; clear h_
                obtain ⟨hA94, h_⟩ := asrt_some h; clear h; have h := h_; clear h_
                refine regionG 8 KR KR ha HW [.fix (.pointer (some ⟨b32, 0, none⟩)), .fix (.string a0), .fix (.int .i64 x77), .fix (.int .u8 (bt a0 x77)), .fix (.pointer (some ⟨b32, 0, none⟩)), .fix (.pointer (some ⟨b32, 0 + (bt a0 x77 : Int).toNat * 1, none⟩)), .fix (.bool (rdL false LETTERS (bt a0 x77))), .fix (.bool (!(rdL false LETTERS (bt a0 x77))))] ?_ ?_
                · skip
                  refine ⟨?_, ?_, ?_, ?_, ?_, ?_, ?_, ?_, trivial⟩
                  · skip
                    intro a wr hn hd HW hs; have ha := hasNil hn hd
                    have ha := ha.add (seeE hs 3 (.pointer (some ⟨b32, 0, none⟩)) KR KR)
                    refine yStep ha 29 KR ?_; intro l_ ha HK
                    refine stepp ha 29 (.pointer (some ⟨b32, 0, none⟩)) KR KR ?_; intro ax hax; exact HK _ _ _ hax rfl (Below.refl _ _)
                  · skip
                    intro a wr hn hd HW hs; have ha := hasNil hn hd
                    have ha := ha.add (seeE hs 0 (.string a0) KR KR)
                    refine yStep ha 30 KR ?_; intro l_ ha HK
                    refine stepp ha 30 (.string a0) KR KR ?_; intro ax hax; exact HK _ _ _ hax rfl (Below.refl _ _)
                  · skip
                    intro a wr hn hd HW hs; have ha := hasNil hn hd
                    have ha := ha.add (seeE hs 4 (.int .i64 x77) KR KR)
                    refine yStep ha 31 KR ?_; intro l_ ha HK
                    refine stepp ha 31 (.int .i64 x77) KR KR ?_; intro ax hax; exact HK _ _ _ hax rfl (Below.refl _ _)
                  · skip
                    intro a wr hn hd HW hs; have ha := hasNil hn hd
                    have ha := ha.add (seeF hs 30 1 (.string a0) KR KR)
                    have ha := ha.add (seeF hs 31 2 (.int .i64 x77) KR KR)
                    refine yStep ha 32 KR ?_; intro l_ ha HK
                    refine stepsi ha 32 9 (.tmp 30) (.tmp 31) a0 .i64 x77 rfl KR KR KR hA92 (show (x77 : Int) < ((a0).size : Int) from hp85) KR ?_; intro ax hax; exact HK _ _ _ hax rfl (Below.refl _ _)
                  · skip
                    intro a wr hn hd HW hs; have ha := hasNil hn hd
                    have ha := ha.add (seeF hs 29 0 (.pointer (some ⟨b32, 0, none⟩)) KR KR)
                    refine yStep ha 33 KR ?_; intro l_ ha HK
                    refine stepp ha 33 (.pointer (some ⟨b32, 0, none⟩)) KR KR ?_; intro ax hax; exact HK _ _ _ hax rfl (Below.refl _ _)
                  · skip
                    intro a wr hn hd HW hs; have ha := hasNil hn hd
                    have ha := ha.add (seeF hs 32 3 (.int .u8 (bt a0 x77)) KR KR)
                    have ha := ha.add (seeF hs 33 4 (.pointer (some ⟨b32, 0, none⟩)) KR KR)
                    refine yStep ha 34 KR ?_; intro l_ ha HK
                    refine stepiw ha 34 (sz := 1) b32 0 62 256 4 (.tmp 33) (.tmp 32) .u8 (bt a0 x77) rfl KR KR KR KR hA93 hA94 KR ?_; intro ax hax; exact HK _ _ _ hax rfl (Below.refl _ _)
                  · skip
                    intro a wr hn hd HW hs; have ha := hasNil hn hd
                    have ha := ha.add (seeF hs 34 5 (.pointer (some ⟨b32, 0 + (bt a0 x77 : Int).toNat * 1, none⟩)) KR KR)
                    refine yStep ha 35 KR ?_; intro l_ ha HK
                    refine stepl ha 35 (CA.el (sz := 1) encB false (fun _ => rfl) (HW.ca (i := 0) (b := b32) (C := (encs encB LETTERS).toArray) (T := 62) (fr := fr33) KR) LETTERS rfl (len := 256) KR hA93 hA94) 4 0 (.tmp 34) (.bool (rdL false LETTERS (bt a0 x77))) rfl KR KR KR ?_; intro ax hax; exact HK _ _ _ hax rfl (Below.refl _ _)
                  · skip
                    intro a wr hn hd HW hs; have ha := hasNil hn hd
                    have ha := ha.add (seeF hs 35 6 (.bool (rdL false LETTERS (bt a0 x77))) KR KR)
                    refine yStep ha 36 KR ?_; intro l_ ha HK
                    refine stepp ha 36 (.bool (!(rdL false LETTERS (bt a0 x77)))) KR KR ?_; intro ax hax; exact HK _ _ _ hax rfl (Below.refl _ _)
                · skip
                  intro a W95 ha HW he hf
                  replace ha := ha.add (he 0 (.string a0) KR KR)
                  replace ha := ha.add (he 3 (.pointer (some ⟨b32, 0, none⟩)) KR KR)
                  replace ha := ha.add (he 25 (.int .i64 (a0.size : Int)) KR KR)
                  replace ha := ha.add (he 26 (.int .i64 x77) KR KR)
                  replace ha := ha.add (gotF (m := 8) (j := 7) (d := 36) (v := .bool (!(rdL false LETTERS (bt a0 x77)))) hf KR KR KR)
                  clear he hf
                  refine endl ?_
                  refine thenN (hK91 _ _ ?_); clear hK91
                  by_cases hp96 : (rdL false LETTERS (bt a0 x77)) = true
                  · skip
                    replace h := ite_pos' h hp96
                    refine condF ha KR KR (t := (!(rdL false LETTERS (bt a0 x77)))) (not_f (hp96)) ?_
                    refine wp_skip ?_
                    refine blkN ?_
                    refine thenN (hK87 _ _ ?_); clear hK87
                    refine wp_region_lit ?_
                    refine stepp ha 37 (.int .i64 (IntKind.wrap .i64 (x77 + 1))) KR KR ?_; clear ha a; intro a ha
                    refine stepp ha 26 (.int .i64 (IntKind.wrap .i64 (x77 + 1))) KR KR ?_; clear ha a; intro a ha
                    refine endl ?_
                    exact thenN ⟨k79, Nat.lt_succ_self k79, IntKind.wrap .i64 (x77 + 1), (by rw [← hag80]; exact h), ha.sub (subs_cons KR (subs_cons KR (subs_cons KR (subs_cons KR (subs_nil _))))), HW.pick [0] [] (by decide) (by decide) KR KR⟩
                  · skip
                    replace h := ite_neg' h hp96
                    refine condT ha KR KR (t := (!(rdL false LETTERS (bt a0 x77)))) (not_t (bool_f hp96)) ?_
                    refine wp_seq_k (fun K97 hK98 => ?_)
                    refine wp_region_lit ?_
                    refine stepp ha 2 (.bool false) KR KR ?_; clear ha a; intro a ha
                    refine endl ?_
                    refine thenN (hK98 _ _ ?_); clear hK98
                    refine wp_ret ?_
                    refine blkR ?_
                    refine thenR ?_
                    refine thenR ?_
                    refine blkR ?_
                    refine thenR ?_
                    obtain rfl := Option.some.inj h
                    exact finv ha _ _ rfl (.tmp (v := .bool false) KR .nil) (.bool false) rfl ⟨rfl, HW.pick [] [] (by decide) (by decide) rfl KR⟩
              · skip
                replace h := ite_neg' h hp85
                refine condF ha KR KR (t := decide (x77 < (a0.size : Int))) (decide_eq_false hp85) ?_
                refine wp_exit ?_
                refine thenE ?_
                refine thenE ?_
                refine inBlk ?_
                refine thenN (hK35 _ _ ?_); clear hK35
                refine wp_seq_k (fun K99 hK100 => ?_)
                refine wp_region_lit ?_
                refine stepp ha 2 (.bool true) KR KR ?_; clear ha a; intro a ha
                refine endl ?_
                refine thenN (hK100 _ _ ?_); clear hK100
                refine wp_ret ?_
                obtain rfl := Option.some.inj h
                exact finv ha _ _ rfl (.tmp (v := .bool true) KR .nil) (.bool true) rfl ⟨rfl, HW.pick [] [] (by decide) (by decide) rfl KR⟩
/-! ### slices.Clone[[]int,int]: function 23 -/
def slices_Clone_23.f (a0 : List Int) : Option (List Int) := asrt (a0.length ≤ 17592186044416) (some a0)
theorem slices_Clone_23.calls (a0 : List Int) (A0_0 : Option Addr) (c0_0 : Nat) (r : List Int) (w : World) (hr0_0 : Rd 1 w (.slice A0_0 a0.length c0_0) a0.length (encs (encIK .i64) a0)) (h : slices_Clone_23.f a0 = some r) :
    Calls Try.prog 23 #[.slice A0_0 a0.length c0_0] w (fun e W' => ∃ A c, e = .returned (.slice A r.length c) ∧ Wd w W' [] [⟨3, 1, .slice A r.length c, r.length, encs (encIK .i64) r⟩]) := by
  unfold slices_Clone_23.f at h
  obtain ⟨hl, h⟩ := asrt_some h
  obtain rfl := Option.some.inj h
  refine sxstart (n := 8) (l := [(0, .slice A0_0 a0.length c0_0)]) Try.func23 rfl rfl (Nat.le_of_ble_eq_true KR) (subsA_cons rfl (subsA_nil _)) ?_
  intro a ha
  have HW := Wd.refl w
  refine wp_seq_k (fun K hK => ?_)
  refine wp_region_lit ?_
  refine stepp ha 2 (.slice none 0 0) KR KR ?_; clear ha a; intro a ha
  refine endl ?_
  refine thenN (hK _ _ ?_); clear hK
  refine wp_seq_k (fun K hK => ?_)
  refine wp_seq_k (fun K2 hK2 => ?_)
  refine wp_region_lit ?_
  refine stepp ha 3 (.slice A0_0 a0.length c0_0) KR KR ?_; clear ha a; intro a ha
  cases A0_0 with
  | none =>
    obtain ⟨e1, e2⟩ : (Value.slice none a0.length c0_0 = .slice none 0 0) ∧ a0.length = 0 := by
      rcases hr0_0.2 with h_ | ⟨b, off, cap, hv, _⟩
      · exact h_
      · cases hv
    have e3 : a0 = [] := List.eq_nil_of_length_eq_zero e2
    subst e3
    refine stepp ha 4 (.bool true) KR KR ?_; clear ha a; intro a ha
    refine endl ?_
    refine thenN (hK2 _ _ ?_); clear hK2
    refine condT ha KR KR (t := true) rfl ?_
    refine wp_seq_k (fun K3 hK3 => ?_)
    refine wp_region_lit ?_
    refine stepp ha 2 (.slice none 0 0) KR KR ?_; clear ha a; intro a ha
    refine endl ?_
    refine thenN (hK3 _ _ ?_); clear hK3
    refine wp_ret ?_
    refine thenR ?_
    exact finv ha _ _ rfl (.tmp (v := .slice none 0 0) KR .nil) (.slice none 0 0) rfl ⟨none, 0, rfl, HW.nilo 3 1⟩
  | some ad =>
    refine stepp ha 4 (.bool false) KR KR ?_; clear ha a; intro a ha
    refine endl ?_
    refine thenN (hK2 _ _ ?_); clear hK2
    refine condF ha KR KR (t := false) rfl ?_
    refine wp_skip ?_
    refine thenN (hK _ _ ?_); clear hK
    refine wp_seq_k (fun K3 hK3 => ?_)
    refine wp_region_lit ?_
    refine stepbs ha HW 5 3 1 0 #[] [] (by decide) KR KR KR KR ?_; clear ha HW a; intro b a W1 HW ha
    refine stepp ha 6 (.slice (some ad) a0.length c0_0) KR KR ?_; clear ha a; intro a ha
    refine stepape (encIK .i64) ha HW 7 0 34 3 (.tmp 5) (.tmp 6) (.int .i64 0) 1 8 (.slice (some ⟨b, 0, none⟩) 0 0) ([] : List Int) (.slice (some ad) a0.length c0_0) a0 rfl rfl KR KR (HW.rd0 hr0_0) (fun _ => rfl) KR KR KR (by decide) (by have := hl; simp only [List.length_nil]; unfold maxLen; omega) (by have := hl; simp only [List.length_nil]; omega) KR ?_; clear ha HW a; intro A c a W2 HW ha
    refine stepp ha 2 (.slice A a0.length c) KR KR ?_; clear ha a; intro a ha
    refine endl ?_
    refine thenN (hK3 _ _ ?_); clear hK3
    refine wp_ret ?_
    exact finv ha _ _ rfl (.tmp (v := .slice A a0.length c) KR .nil) (.slice A a0.length c) rfl ⟨A, c, rfl, HW⟩
/-! ### (*headgate/units.Units).Add: function 8 -/
def units_Units_Add.j2 (K : Nat) (a1 : Int) (a2 : ByteArray) (a3 : Int) (x287 : List Int) (x306 : UMap) : Option (Bool × UMap) :=
  (slices_Clone_23.f x287).bind fun t312 => (asrt (t312.length + ([a3] : List Int).length ≤ 17592186044416) (asrt (x306.isSome = true) (some (true, uput x306 (a1, a2) (t312 ++ ([a3] : List Int))))))
def units_Units_Add.j1 (K : Nat) (a0 : UMap) (a1 : Int) (a2 : ByteArray) (a3 : Int) (x287 : List Int) : Option (Bool × UMap) :=
  if a0.isNone = true then (units_Units_Add.j2 K a1 a2 a3 x287 (some [] : UMap)) else (units_Units_Add.j2 K a1 a2 a3 x287 a0)
def units_Units_Add.j0 (K : Nat) (a0 : UMap) (a1 : Int) (a2 : ByteArray) (a3 : Int) : Option (Bool × UMap) :=
  if ((uget a0 (a1, a2)).length : Int) = 8 then (asrt (1 ≤ ((uget a0 (a1, a2)).length : Int)) (units_Units_Add.j1 K a0 a1 a2 a3 ((uget a0 (a1, a2)).drop (1 : Int).toNat))) else (units_Units_Add.j1 K a0 a1 a2 a3 (uget a0 (a1, a2)))
def units_Units_Add.f (K : Nat) (a0 : UMap) (a1 : Int) (a2 : ByteArray) (a3 : Int) : Option (Bool × UMap) :=
  if a1 < 0 then (some (false, a0)) else (if a1 ≥ 8 then (some (false, a0)) else (if a3 < 1 then (some (false, a0)) else (if a3 > 4 then (some (false, a0)) else ((names_Name.f K a2).bind fun t232 => (if t232 = true then (if ((uget a0 (a1, a2)).length : Int) > 0 then (asrt (0 ≤ (IntKind.wrap .i64 (((uget a0 (a1, a2)).length : Int) - 1))) (asrt ((IntKind.wrap .i64 (((uget a0 (a1, a2)).length : Int) - 1)) < ((uget a0 (a1, a2)).length : Int)) (if (rdL (0 : Int) (uget a0 (a1, a2)) (IntKind.wrap .i64 (((uget a0 (a1, a2)).length : Int) - 1))) = a3 then (some (false, a0)) else (units_Units_Add.j0 K a0 a1 a2 a3)))) else (units_Units_Add.j0 K a0 a1 a2 a3)) else (some (false, a0)))))))
set_option maxRecDepth 100000 in
set_option maxHeartbeats 4000000 in
theorem units_Units_Add.calls (K : Nat) (a0 : UMap) (a1 : Int) (a2 : ByteArray) (a3 : Int) (p0 : Nat) (U0 : Blks)  (r : Bool × UMap) (w w1 : World) (F bs : Blks) (os : List OwnA) (hU0 : UAt w F p0 a0 U0) (HW : Wd w w1 (U0 ++ (F ++ bs)) os) (h : units_Units_Add.f K a0 a1 a2 a3 = some r) :
    Calls Try.prog 8 #[.pointer (some ⟨p0, 0, none⟩), .int .i64 a1, .string a2, .int .i64 a3] w1 (fun e W' => ∃ U0' : Blks, ∃ F' : Blks, e = .returned (.bool r.1) ∧ (∀ p ∈ F, p ∈ F') ∧ UAt w F' p0 r.2 U0' ∧ Wd w W' (U0' ++ (F' ++ bs)) (os)) := by
  refine sxstart (n := 81) (l := [(0, .pointer (some ⟨p0, 0, none⟩)), (1, .int .i64 a1), (2, .string a2), (3, .int .i64 a3)]) Try.func8 rfl rfl (Nat.le_of_ble_eq_true KR) (subsA_cons rfl (subsA_cons rfl (subsA_cons rfl (subsA_cons rfl (subsA_nil _))))) ?_
  intro a ha
  replace HW : Wd w w1 (U0 ++ (F ++ bs)) (os) := HW
  unfold units_Units_Add.f at h
  refine wp_seq_k (fun K222 hK223 => ?_)
  refine wp_region_lit ?_
  refine stepp ha 8 (.bool false) KR KR ?_; clear ha a; intro a ha
  refine endl ?_
  refine thenN (hK223 _ _ ?_); clear hK223
  refine wp_seq_k (fun K224 hK225 => ?_)
  refine wp_seq_k (fun K226 hK227 => ?_)
  refine wp_region_lit ?_
  refine stepp ha 12 (.pointer (some ⟨p0, 0, none⟩)) KR KR ?_; clear ha a; intro a ha
  refine stepp ha 13 (.bool false) KR KR ?_; clear ha a; intro a ha
  refine stepp ha 14 (.bool false) KR KR ?_; clear ha a; intro a ha
  refine stepp ha 15 (.int .i64 a1) KR KR ?_; clear ha a; intro a ha
  refine stepp ha 16 (.bool (decide (a1 < 0))) KR KR ?_; clear ha a; intro a ha
  refine stepp ha 17 (.bool (decide (a1 < 0))) KR KR ?_; clear ha a; intro a ha
  refine stepp ha 18 (.bool (decide (a1 < 0))) KR KR ?_; clear ha a; intro a ha
  by_cases hp228 : a1 < 0
  · skip
    replace h := ite_pos' h hp228
    replace ha := ha.bool 18 KR (decide_eq_true hp228)
    refine stepo ha 19 KR ?_; clear ha a; intro a ha
    refine stepo ha 20 KR ?_; clear ha a; intro a ha
    refine stepp ha 21 (.bool true) KR KR ?_; clear ha a; intro a ha
    refine stepp ha 22 (.bool true) KR KR ?_; clear ha a; intro a ha
    refine stepo ha 23 KR ?_; clear ha a; intro a ha
    refine stepo ha 24 KR ?_; clear ha a; intro a ha
    refine stepp ha 25 (.bool true) KR KR ?_; clear ha a; intro a ha
    refine stepp ha 26 (.bool true) KR KR ?_; clear ha a; intro a ha
    refine stepo ha 27 KR ?_; clear ha a; intro a ha
    refine stepo ha 28 KR ?_; clear ha a; intro a ha
    refine stepp ha 29 (.bool true) KR KR ?_; clear ha a; intro a ha
    refine stepp ha 30 (.bool true) KR KR ?_; clear ha a; intro a ha
    refine stepo ha 31 KR ?_; clear ha a; intro a ha
    refine stepo ha 32 KR ?_; clear ha a; intro a ha
    refine stepo ha 33 KR ?_; clear ha a; intro a ha
    refine stepp ha 34 (.bool true) KR KR ?_; clear ha a; intro a ha
    refine endl ?_
    refine thenN (hK227 _ _ ?_); clear hK227
    refine condT ha KR KR (t := true) (rfl) ?_
    refine wp_seq_k (fun K236 hK237 => ?_)
    refine wp_region_lit ?_
    refine stepp ha 8 (.bool false) KR KR ?_; clear ha a; intro a ha
    refine endl ?_
    refine thenN (hK237 _ _ ?_); clear hK237
    refine wp_ret ?_
    refine thenR ?_
    obtain rfl := Option.some.inj h
    exact finv ha _ _ rfl (.tmp (v := .bool false) KR .nil) (.bool false) rfl ⟨U0, F, rfl, (pool_nil F), hU0, (Wd.segs (ss := [U0, F]) (bt := bs) (m := []) (ot := os) [U0, F] [] HW [0, 1] [] [] KR KR (by decide) KR)⟩
  · skip
    replace h := ite_neg' h hp228
    replace ha := ha.bool 18 KR (decide_eq_false hp228)
    refine stepp ha 19 (.int .i64 a1) KR KR ?_; clear ha a; intro a ha
    refine stepp ha 20 (.bool (decide (a1 ≥ 8))) KR KR ?_; clear ha a; intro a ha
    refine stepp ha 21 (.bool (decide (a1 ≥ 8))) KR KR ?_; clear ha a; intro a ha
    refine stepp ha 22 (.bool (decide (a1 ≥ 8))) KR KR ?_; clear ha a; intro a ha
    by_cases hp229 : a1 ≥ 8
    · skip
      replace h := ite_pos' h hp229
      replace ha := ha.bool 22 KR (decide_eq_true hp229)
      refine stepo ha 23 KR ?_; clear ha a; intro a ha
      refine stepo ha 24 KR ?_; clear ha a; intro a ha
      refine stepp ha 25 (.bool true) KR KR ?_; clear ha a; intro a ha
      refine stepp ha 26 (.bool true) KR KR ?_; clear ha a; intro a ha
      refine stepo ha 27 KR ?_; clear ha a; intro a ha
      refine stepo ha 28 KR ?_; clear ha a; intro a ha
      refine stepp ha 29 (.bool true) KR KR ?_; clear ha a; intro a ha
      refine stepp ha 30 (.bool true) KR KR ?_; clear ha a; intro a ha
      refine stepo ha 31 KR ?_; clear ha a; intro a ha
      refine stepo ha 32 KR ?_; clear ha a; intro a ha
      refine stepo ha 33 KR ?_; clear ha a; intro a ha
      refine stepp ha 34 (.bool true) KR KR ?_; clear ha a; intro a ha
      refine endl ?_
      refine thenN (hK227 _ _ ?_); clear hK227
      refine condT ha KR KR (t := true) (rfl) ?_
      refine wp_seq_k (fun K238 hK239 => ?_)
      refine wp_region_lit ?_
      refine stepp ha 8 (.bool false) KR KR ?_; clear ha a; intro a ha
      refine endl ?_
      refine thenN (hK239 _ _ ?_); clear hK239
      refine wp_ret ?_
      refine thenR ?_
      obtain rfl := Option.some.inj h
      exact finv ha _ _ rfl (.tmp (v := .bool false) KR .nil) (.bool false) rfl ⟨U0, F, rfl, (pool_nil F), hU0, (Wd.segs (ss := [U0, F]) (bt := bs) (m := []) (ot := os) [U0, F] [] HW [0, 1] [] [] KR KR (by decide) KR)⟩
    · skip
      replace h := ite_neg' h hp229
      replace ha := ha.bool 22 KR (decide_eq_false hp229)
      refine stepp ha 23 (.int .i64 a3) KR KR ?_; clear ha a; intro a ha
      refine stepp ha 24 (.bool (decide (a3 < 1))) KR KR ?_; clear ha a; intro a ha
      refine stepp ha 25 (.bool (decide (a3 < 1))) KR KR ?_; clear ha a; intro a ha
      refine stepp ha 26 (.bool (decide (a3 < 1))) KR KR ?_; clear ha a; intro a ha
      by_cases hp230 : a3 < 1
      · skip
        replace h := ite_pos' h hp230
        replace ha := ha.bool 26 KR (decide_eq_true hp230)
        refine stepo ha 27 KR ?_; clear ha a; intro a ha
        refine stepo ha 28 KR ?_; clear ha a; intro a ha
        refine stepp ha 29 (.bool true) KR KR ?_; clear ha a; intro a ha
        refine stepp ha 30 (.bool true) KR KR ?_; clear ha a; intro a ha
        refine stepo ha 31 KR ?_; clear ha a; intro a ha
        refine stepo ha 32 KR ?_; clear ha a; intro a ha
        refine stepo ha 33 KR ?_; clear ha a; intro a ha
        refine stepp ha 34 (.bool true) KR KR ?_; clear ha a; intro a ha
        refine endl ?_
        refine thenN (hK227 _ _ ?_); clear hK227
        refine condT ha KR KR (t := true) (rfl) ?_
        refine wp_seq_k (fun K240 hK241 => ?_)
        refine wp_region_lit ?_
        refine stepp ha 8 (.bool false) KR KR ?_; clear ha a; intro a ha
        refine endl ?_
        refine thenN (hK241 _ _ ?_); clear hK241
        refine wp_ret ?_
        refine thenR ?_
        obtain rfl := Option.some.inj h
        exact finv ha _ _ rfl (.tmp (v := .bool false) KR .nil) (.bool false) rfl ⟨U0, F, rfl, (pool_nil F), hU0, (Wd.segs (ss := [U0, F]) (bt := bs) (m := []) (ot := os) [U0, F] [] HW [0, 1] [] [] KR KR (by decide) KR)⟩
      · skip
        replace h := ite_neg' h hp230
        replace ha := ha.bool 26 KR (decide_eq_false hp230)
        refine stepp ha 27 (.int .i64 a3) KR KR ?_; clear ha a; intro a ha
        refine stepp ha 28 (.bool (decide (a3 > 4))) KR KR ?_; clear ha a; intro a ha
        refine stepp ha 29 (.bool (decide (a3 > 4))) KR KR ?_; clear ha a; intro a ha
        refine stepp ha 30 (.bool (decide (a3 > 4))) KR KR ?_; clear ha a; intro a ha
        by_cases hp231 : a3 > 4
        · skip
          replace h := ite_pos' h hp231
          replace ha := ha.bool 30 KR (decide_eq_true hp231)
          refine stepo ha 31 KR ?_; clear ha a; intro a ha
          refine stepo ha 32 KR ?_; clear ha a; intro a ha
          refine stepo ha 33 KR ?_; clear ha a; intro a ha
          refine stepp ha 34 (.bool true) KR KR ?_; clear ha a; intro a ha
          refine endl ?_
          refine thenN (hK227 _ _ ?_); clear hK227
          refine condT ha KR KR (t := true) (rfl) ?_
          refine wp_seq_k (fun K242 hK243 => ?_)
          refine wp_region_lit ?_
          refine stepp ha 8 (.bool false) KR KR ?_; clear ha a; intro a ha
          refine endl ?_
          refine thenN (hK243 _ _ ?_); clear hK243
          refine wp_ret ?_
          refine thenR ?_
          obtain rfl := Option.some.inj h
          exact finv ha _ _ rfl (.tmp (v := .bool false) KR .nil) (.bool false) rfl ⟨U0, F, rfl, (pool_nil F), hU0, (Wd.segs (ss := [U0, F]) (bt := bs) (m := []) (ot := os) [U0, F] [] HW [0, 1] [] [] KR KR (by decide) KR)⟩
        · skip
          replace h := ite_neg' h hp231
          replace ha := ha.bool 30 KR (decide_eq_false hp231)
          refine stepp ha 31 (.string a2) KR KR ?_; clear ha a; intro a ha
          obtain ⟨t232, ht233, h_⟩ := bind_some' h; clear h; have h := h_; clear h_
          refine stepc ha 32 KR KR (names_Name.calls K a2 t232 _ ht233) ?_; clear ha a; rintro e W234 ⟨rfl, HX235⟩
          refine ⟨_, rfl, ?_⟩; intro a ha; replace HW := HW.callw HX235; clear HX235
          refine stepp ha 33 (.bool (!t232)) KR KR ?_; clear ha a; intro a ha
          refine stepp ha 34 (.bool (!t232)) KR KR ?_; clear ha a; intro a ha
          refine endl ?_
          refine thenN (hK227 _ _ ?_); clear hK227
          by_cases hp244 : t232 = true
          · skip
            replace h := ite_pos' h hp244
            refine condF ha KR KR (t := (!t232)) (not_f (hp244)) ?_
            refine wp_skip ?_
            refine thenN (hK225 _ _ ?_); clear hK225
            refine wp_seq_k (fun K247 hK248 => ?_)
            refine wp_region_lit ?_
            refine stepp ha 35 (.int .i64 a1) KR KR ?_; clear ha a; intro a ha
            refine stepp ha 36 (.string a2) KR KR ?_; clear ha a; intro a ha
            refine stepp ha 37 (.agg #[.int .i64 a1, .string a2]) KR KR ?_; clear ha a; intro a ha
            refine stepnew ha HW 9 #[.int .i64 0, .string (⟨#[]⟩ : ByteArray)] 51 KR KR ?_; clear ha HW a; intro b249 a W250 HW ha
            refine stepst ha HW 0 (b := b249) (C := #[.int .i64 0, .string (⟨#[]⟩ : ByteArray)]) (T := 51) KR 51 0 (.tmp 9) (.tmp 37) (.agg #[.int .i64 a1, .string a2]) #[.int .i64 a1, .string a2] rfl KR KR KR KR KR KR KR ?_; clear ha HW a; intro a W251 HW ha
            refine endl ?_
            refine thenN (hK248 _ _ ?_); clear hK248
            refine wp_seq_k (fun K252 hK253 => ?_)
            refine regionG 6 KR KR ha HW [.fix (.pointer (some ⟨p0, 0, none⟩)), .fix (.pointer (some ⟨p0, 0, none⟩)), .fix (.pointer (some ⟨p0, 0, none⟩)), .fix (umv U0), .fix (.agg #[.int .i64 a1, .string a2]), (.pr (fun v_ => UVal w F v_ (uget a0 (a1, a2))))] ?_ ?_
            · skip
              refine ⟨?_, ?_, ?_, ?_, ?_, ?_, trivial⟩
              · skip
                intro a wr hn hd HW hs; have ha := hasNil hn hd
                have ha := ha.add (seeE hs 0 (.pointer (some ⟨p0, 0, none⟩)) KR KR)
                refine yStep ha 38 KR ?_; intro l_ ha HK
                refine stepp ha 38 (.pointer (some ⟨p0, 0, none⟩)) KR KR ?_; intro ax hax; exact HK _ _ _ hax rfl (Below.refl _ _)
              · skip
                intro a wr hn hd HW hs; have ha := hasNil hn hd
                have ha := ha.add (seeF hs 38 0 (.pointer (some ⟨p0, 0, none⟩)) KR KR)
                refine yStep ha 39 KR ?_; intro l_ ha HK
                refine stepp ha 39 (.pointer (some ⟨p0, 0, none⟩)) KR KR ?_; intro ax hax; exact HK _ _ _ hax rfl (Below.refl _ _)
              · skip
                intro a wr hn hd HW hs; have ha := hasNil hn hd
                have ha := ha.add (seeF hs 39 1 (.pointer (some ⟨p0, 0, none⟩)) KR KR)
                refine yStep ha 40 KR ?_; intro l_ ha HK
                refine stepp ha 40 (.pointer (some ⟨p0, 0, none⟩)) KR KR ?_; intro ax hax; exact HK _ _ _ hax rfl (Below.refl _ _)
              · skip
                intro a wr hn hd HW hs; have ha := hasNil hn hd
                have ha := ha.add (seeF hs 40 2 (.pointer (some ⟨p0, 0, none⟩)) KR KR)
                refine yStep ha 41 KR ?_; intro l_ ha HK
                refine stepul ha hU0 (Wd.segs (ss := [[(b249, .cells #[.int .i64 a1, .string a2] 51 (0, 0))], U0, F]) (bt := bs) (m := []) (ot := os) [U0, [(b249, .cells #[.int .i64 a1, .string a2] 51 (0, 0))], F] [] HW [1, 0, 2] [] [] KR KR (by decide) KR) 41 (.tmp 40) rfl KR KR ?_; intro ax hax; exact HK _ _ _ hax rfl (Below.refl _ _)
              · skip
                intro a wr hn hd HW hs; have ha := hasNil hn hd
                have ha := ha.add (seeE hs 9 (.pointer (some ⟨b249, 0, none⟩)) KR KR)
                refine yStep ha 42 KR ?_; intro l_ ha HK
                refine stepl ha 42 (HW.ca (i := 0) (b := b249) (C := #[.int .i64 a1, .string a2]) (T := 51) (fr := (0, 0)) KR) 51 0 (.tmp 9) (.agg #[.int .i64 a1, .string a2]) rfl KR KR KR ?_; intro ax hax; exact HK _ _ _ hax rfl (Below.refl _ _)
              · skip
                intro a wr hn hd HW hs; have ha := hasNil hn hd
                have ha := ha.add (seeF hs 41 3 (umv U0) KR KR)
                have ha := ha.add (seeF hs 42 4 (.agg #[.int .i64 a1, .string a2]) KR KR)
                refine yStep ha 43 KR ?_; intro l_ ha HK
                refine stepuk ha hU0 (Wd.segs (ss := [[(b249, .cells #[.int .i64 a1, .string a2] 51 (0, 0))], U0, F]) (bt := bs) (m := []) (ot := os) [U0, [(b249, .cells #[.int .i64 a1, .string a2] 51 (0, 0))], F] [] HW [1, 0, 2] [] [] KR KR (by decide) KR) 43 (.tmp 41) (.tmp 42) (a1, a2) rfl KR KR KR ?_; intro A254 c255 ax hr256 hax; exact HK _ _ _ hax ⟨A254, c255, rfl, hr256⟩ (Below.refl _ _)
            · skip
              intro a W257 ha HW he hf
              replace ha := ha.add (he 0 (.pointer (some ⟨p0, 0, none⟩)) KR KR)
              replace ha := ha.add (he 3 (.int .i64 a3) KR KR)
              replace ha := ha.add (he 9 (.pointer (some ⟨b249, 0, none⟩)) KR KR)
              obtain ⟨_, he_, A254, c255, rfl, hr256⟩ := gotK (m := 6) (j := 5) (d := 43) (f := (.pr (fun v_ => UVal w F v_ (uget a0 (a1, a2))))) hf KR KR KR; replace ha := ha.add he_; clear he_
              clear he hf
              refine stepp ha 10 (.slice A254 (uget a0 (a1, a2)).length c255) KR KR ?_; clear ha a; intro a ha
              refine endl ?_
              refine thenN (hK253 _ _ ?_); clear hK253
              refine wp_seq_k (fun K258 hK259 => ?_)
              refine cutn (fun a W277 => ∃ A273, ∃ c274, units_Units_Add.j0 K a0 a1 a2 a3 = some r ∧ Has 81 [(0, .pointer (some ⟨p0, 0, none⟩)), (3, .int .i64 a3), (9, .pointer (some ⟨b249, 0, none⟩)), (10, .slice A273 (uget a0 (a1, a2)).length c274)] a ∧ Wd w W277 ((b249, .cells #[.int .i64 a1, .string a2] 51 (0, 0)) :: U0 ++ (F ++ bs)) (os) ∧ RdF w F 1 (.slice A273 (uget a0 (a1, a2)).length c274) (uget a0 (a1, a2)).length (encs (encIK .i64) (uget a0 (a1, a2))) ∧ UAt w F p0 a0 U0) ?_ ?_
              · skip
                refine wp_seq_k (fun K260 hK261 => ?_)
                refine wp_region_lit ?_
                refine stepp ha 44 (.slice A254 (uget a0 (a1, a2)).length c255) KR KR ?_; clear ha a; intro a ha
                refine stepp ha 45 (.int .i64 ((uget a0 (a1, a2)).length : Int)) KR KR ?_; clear ha a; intro a ha
                refine stepp ha 11 (.int .i64 ((uget a0 (a1, a2)).length : Int)) KR KR ?_; clear ha a; intro a ha
                refine endl ?_
                refine thenN (hK261 _ _ ?_); clear hK261
                refine wp_seq_k (fun K262 hK263 => ?_)
                refine wp_region_lit ?_
                refine stepp ha 46 (.int .i64 ((uget a0 (a1, a2)).length : Int)) KR KR ?_; clear ha a; intro a ha
                refine stepp ha 47 (.bool (decide (((uget a0 (a1, a2)).length : Int) > 0))) KR KR ?_; clear ha a; intro a ha
                refine stepp ha 48 (.bool (decide (((uget a0 (a1, a2)).length : Int) > 0))) KR KR ?_; clear ha a; intro a ha
                by_cases hp264 : ((uget a0 (a1, a2)).length : Int) > 0
                · skip
                  replace h := ite_pos' h hp264
                  replace ha := ha.bool 48 KR (decide_eq_true hp264)
                  refine stepp ha 49 (.slice A254 (uget a0 (a1, a2)).length c255) KR KR ?_; clear ha a; intro a ha
                  refine stepp ha 50 (.int .i64 ((uget a0 (a1, a2)).length : Int)) KR KR ?_; clear ha a; intro a ha
                  refine stepp ha 51 (.int .i64 (IntKind.wrap .i64 (((uget a0 (a1, a2)).length : Int) - 1))) KR KR ?_; clear ha a; intro a ha
                  obtain ⟨hA265, h_⟩ := asrt_some h; clear h; have h := h_; clear h_
                  obtain ⟨hA266, h_⟩ := asrt_some h; clear h; have h := h_; clear h_
                  refine stepie (encIK .i64) (0 : Int) ha 52 (fun _ => rfl) (v := .slice A254 (uget a0 (a1, a2)).length c255) (xs := uget a0 (a1, a2)) ((hr256.rd HW (mem_flat (ss := [[(b249, .cells #[.int .i64 a1, .string a2] 51 (0, 0))], U0, F]) (bt := bs) 2 rfl))) 34 3 (.tmp 49) (.tmp 51) .i64 (IntKind.wrap .i64 (((uget a0 (a1, a2)).length : Int) - 1)) rfl KR KR KR KR hA265 (show (IntKind.wrap .i64 (((uget a0 (a1, a2)).length : Int) - 1) : Int) < ((uget a0 (a1, a2)).length : Int) from hA266) KR ?_; clear ha a; intro b267 off268 a hC269 ha
                  refine stepl ha 53 hC269 3 0 (.tmp 52) (.int .i64 (rdL (0 : Int) (uget a0 (a1, a2)) (IntKind.wrap .i64 (((uget a0 (a1, a2)).length : Int) - 1)))) rfl KR KR KR ?_; clear ha a; intro a ha
                  refine stepp ha 54 (.int .i64 a3) KR KR ?_; clear ha a; intro a ha
                  refine stepp ha 55 (.bool ((rdL (0 : Int) (uget a0 (a1, a2)) (IntKind.wrap .i64 (((uget a0 (a1, a2)).length : Int) - 1))) == a3)) KR KR ?_; clear ha a; intro a ha
                  refine stepp ha 56 (.bool ((rdL (0 : Int) (uget a0 (a1, a2)) (IntKind.wrap .i64 (((uget a0 (a1, a2)).length : Int) - 1))) == a3)) KR KR ?_; clear ha a; intro a ha
                  refine endl ?_
                  refine thenN (hK263 _ _ ?_); clear hK263
                  by_cases hp270 : (rdL (0 : Int) (uget a0 (a1, a2)) (IntKind.wrap .i64 (((uget a0 (a1, a2)).length : Int) - 1))) = a3
                  · skip
                    replace h := ite_pos' h hp270
                    refine condT ha KR KR (t := ((rdL (0 : Int) (uget a0 (a1, a2)) (IntKind.wrap .i64 (((uget a0 (a1, a2)).length : Int) - 1))) == a3)) (ieq_t hp270) ?_
                    refine wp_seq_k (fun K271 hK272 => ?_)
                    refine wp_region_lit ?_
                    refine stepp ha 8 (.bool false) KR KR ?_; clear ha a; intro a ha
                    refine endl ?_
                    refine thenN (hK272 _ _ ?_); clear hK272
                    refine wp_ret ?_
                    refine thenR ?_
                    obtain rfl := Option.some.inj h
                    exact finv ha _ _ rfl (.tmp (v := .bool false) KR .nil) (.bool false) rfl ⟨U0, F, rfl, (pool_nil F), hU0, (Wd.segs (ss := [[(b249, .cells #[.int .i64 a1, .string a2] 51 (0, 0))], U0, F]) (bt := bs) (m := []) (ot := os) [U0, F] [] HW [1, 2] [0] [] KR KR (by decide) KR)⟩
                  · skip
                    replace h := ite_neg' h hp270
                    refine condF ha KR KR (t := ((rdL (0 : Int) (uget a0 (a1, a2)) (IntKind.wrap .i64 (((uget a0 (a1, a2)).length : Int) - 1))) == a3)) (ieq_f hp270) ?_
                    refine wp_skip ?_
                    exact thenN ⟨A254, c255, h, ha.sub (subs_cons KR (subs_cons KR (subs_cons KR (subs_cons KR (subs_nil _))))), (Wd.segs (ss := [[(b249, .cells #[.int .i64 a1, .string a2] 51 (0, 0))], U0, F]) (bt := bs) (m := []) (ot := os) [[(b249, .cells #[.int .i64 a1, .string a2] 51 (0, 0))], U0, F] [] HW [0, 1, 2] [] [] KR KR (by decide) KR), hr256, hU0⟩
                · skip
                  replace h := ite_neg' h hp264
                  replace ha := ha.bool 48 KR (decide_eq_false hp264)
                  refine stepo ha 49 KR ?_; clear ha a; intro a ha
                  refine stepo ha 50 KR ?_; clear ha a; intro a ha
                  refine stepo ha 51 KR ?_; clear ha a; intro a ha
                  refine stepo ha 52 KR ?_; clear ha a; intro a ha
                  refine stepo ha 53 KR ?_; clear ha a; intro a ha
                  refine stepo ha 54 KR ?_; clear ha a; intro a ha
                  refine stepo ha 55 KR ?_; clear ha a; intro a ha
                  refine stepp ha 56 (.bool false) KR KR ?_; clear ha a; intro a ha
                  refine endl ?_
                  refine thenN (hK263 _ _ ?_); clear hK263
                  refine condF ha KR KR (t := false) (rfl) ?_
                  refine wp_skip ?_
                  exact thenN ⟨A254, c255, h, ha.sub (subs_cons KR (subs_cons KR (subs_cons KR (subs_cons KR (subs_nil _))))), (Wd.segs (ss := [[(b249, .cells #[.int .i64 a1, .string a2] 51 (0, 0))], U0, F]) (bt := bs) (m := []) (ot := os) [[(b249, .cells #[.int .i64 a1, .string a2] 51 (0, 0))], U0, F] [] HW [0, 1, 2] [] [] KR KR (by decide) KR), hr256, hU0⟩
              · skip
                intro a W277 hJ
                obtain ⟨A273, c274, h, ha, HW, hr275, hU276⟩ := hJ
                replace h : units_Units_Add.j0 K a0 a1 a2 a3 = some r := h
                unfold units_Units_Add.j0 at h
                refine hK259 _ _ ?_; clear hK259
                refine wp_seq_k (fun K278 hK279 => ?_)
                refine cutn (fun a W292 => ∃ (x287 : List Int), ∃ A288, ∃ c289, units_Units_Add.j1 K a0 a1 a2 a3 x287 = some r ∧ Has 81 [(0, .pointer (some ⟨p0, 0, none⟩)), (3, .int .i64 a3), (9, .pointer (some ⟨b249, 0, none⟩)), (10, .slice A288 x287.length c289)] a ∧ Wd w W292 ((b249, .cells #[.int .i64 a1, .string a2] 51 (0, 0)) :: U0 ++ (F ++ bs)) (os) ∧ RdF w F 1 (.slice A288 x287.length c289) x287.length (encs (encIK .i64) x287) ∧ UAt w F p0 a0 U0) ?_ ?_
                · skip
                  refine wp_seq_k (fun K280 hK281 => ?_)
                  refine wp_region_lit ?_
                  refine stepp ha 57 (.slice A273 (uget a0 (a1, a2)).length c274) KR KR ?_; clear ha a; intro a ha
                  refine stepp ha 58 (.int .i64 ((uget a0 (a1, a2)).length : Int)) KR KR ?_; clear ha a; intro a ha
                  refine stepp ha 59 (.bool (((uget a0 (a1, a2)).length : Int) == 8)) KR KR ?_; clear ha a; intro a ha
                  refine endl ?_
                  refine thenN (hK281 _ _ ?_); clear hK281
                  by_cases hp282 : ((uget a0 (a1, a2)).length : Int) = 8
                  · skip
                    replace h := ite_pos' h hp282
                    refine condT ha KR KR (t := (((uget a0 (a1, a2)).length : Int) == 8)) (ieq_t hp282) ?_
                    refine wp_region_lit ?_
                    refine stepp ha 60 (.slice A273 (uget a0 (a1, a2)).length c274) KR KR ?_; clear ha a; intro a ha
                    obtain ⟨hA283, h_⟩ := asrt_some h; clear h; have h := h_; clear h_
                    refine stepslo (encIK .i64) ha 61 34 3 1 (fun _ => rfl) (.tmp 60) (.const (.int .i64 1)) .i64 1 (A := A273) (c := c274) (uget a0 (a1, a2)) rfl KR KR KR KR (Rd.cap ((hr275.rd HW (mem_flat (ss := [[(b249, .cells #[.int .i64 a1, .string a2] 51 (0, 0))], U0, F]) (bt := bs) 2 rfl)))) (by decide) (show (1 : Int) ≤ ((uget a0 (a1, a2)).length : Int) from hA283) KR ?_; clear ha a; intro A284 c285 a hT286 ha
                    refine stepp ha 10 (.slice A284 ((uget a0 (a1, a2)).drop (1 : Int).toNat).length c285) KR KR ?_; clear ha a; intro a ha
                    refine endl ?_
                    exact thenN ⟨(uget a0 (a1, a2)).drop (1 : Int).toNat, A284, c285, h, ha.sub (subs_cons KR (subs_cons KR (subs_cons KR (subs_cons KR (subs_nil _))))), (Wd.segs (ss := [[(b249, .cells #[.int .i64 a1, .string a2] 51 (0, 0))], U0, F]) (bt := bs) (m := []) (ot := os) [[(b249, .cells #[.int .i64 a1, .string a2] 51 (0, 0))], U0, F] [] HW [0, 1, 2] [] [] KR KR (by decide) KR), (fun W_ bs_ os_ h1_ h2_ => hT286 _ (hr275 W_ bs_ os_ h1_ h2_)), hU276⟩
                  · skip
                    replace h := ite_neg' h hp282
                    refine condF ha KR KR (t := (((uget a0 (a1, a2)).length : Int) == 8)) (ieq_f hp282) ?_
                    refine wp_skip ?_
                    exact thenN ⟨uget a0 (a1, a2), A273, c274, h, ha.sub (subs_cons KR (subs_cons KR (subs_cons KR (subs_cons KR (subs_nil _))))), (Wd.segs (ss := [[(b249, .cells #[.int .i64 a1, .string a2] 51 (0, 0))], U0, F]) (bt := bs) (m := []) (ot := os) [[(b249, .cells #[.int .i64 a1, .string a2] 51 (0, 0))], U0, F] [] HW [0, 1, 2] [] [] KR KR (by decide) KR), hr275, hU276⟩
                · skip
                  intro a W292 hJ
                  obtain ⟨x287, A288, c289, h, ha, HW, hr290, hU291⟩ := hJ
                  replace h : units_Units_Add.j1 K a0 a1 a2 a3 x287 = some r := h
                  unfold units_Units_Add.j1 at h
                  refine hK279 _ _ ?_; clear hK279
                  refine wp_seq_k (fun K293 hK294 => ?_)
                  refine cutn (fun a W309 => ∃ A303, ∃ c304, ∃ (x306 : UMap), ∃ (U307 : Blks), units_Units_Add.j2 K a1 a2 a3 x287 x306 = some r ∧ Has 81 [(0, .pointer (some ⟨p0, 0, none⟩)), (3, .int .i64 a3), (9, .pointer (some ⟨b249, 0, none⟩)), (10, .slice A303 x287.length c304)] a ∧ Wd w W309 ((b249, .cells #[.int .i64 a1, .string a2] 51 (0, 0)) :: U307 ++ (F ++ bs)) (os) ∧ RdF w F 1 (.slice A303 x287.length c304) x287.length (encs (encIK .i64) x287) ∧ UAt w F p0 x306 U307) ?_ ?_
                  · skip
                    refine wp_seq_k (fun K295 hK296 => ?_)
                    refine wp_region_lit ?_
                    refine stepp ha 62 (.pointer (some ⟨p0, 0, none⟩)) KR KR ?_; clear ha a; intro a ha
                    refine stepp ha 63 (.pointer (some ⟨p0, 0, none⟩)) KR KR ?_; clear ha a; intro a ha
                    refine stepp ha 64 (.pointer (some ⟨p0, 0, none⟩)) KR KR ?_; clear ha a; intro a ha
                    refine stepul ha hU291 (Wd.segs (ss := [[(b249, .cells #[.int .i64 a1, .string a2] 51 (0, 0))], U0, F]) (bt := bs) (m := []) (ot := os) [U0, [(b249, .cells #[.int .i64 a1, .string a2] 51 (0, 0))], F] [] HW [1, 0, 2] [] [] KR KR (by decide) KR) 65 (.tmp 64) rfl KR KR ?_; clear ha a; intro a ha
                    refine stepun ha hU291 66 47 (.tmp 65) rfl KR KR ?_; clear ha a; intro a ha
                    refine endl ?_
                    refine thenN (hK296 _ _ ?_); clear hK296
                    by_cases hp297 : a0.isNone = true
                    · skip
                      replace h := ite_pos' h hp297
                      refine condT ha KR KR (t := a0.isNone) (hp297) ?_
                      refine wp_region_lit ?_
                      refine stepp ha 67 (.pointer (some ⟨p0, 0, none⟩)) KR KR ?_; clear ha a; intro a ha
                      refine stepum ha HW 68 rfl KR ?_; clear ha HW a; intro b298 a W299 HW ha
                      refine stepp ha 69 (.pointer (some ⟨p0, 0, none⟩)) KR KR ?_; clear ha a; intro a ha
                      refine stepp ha 70 (.pointer (some ⟨p0, 0, none⟩)) KR KR ?_; clear ha a; intro a ha
                      refine stepus ha (b := b298) hU291 hp297 (Wd.segs (ss := [[(b298, .map #[] 0)], [(b249, .cells #[.int .i64 a1, .string a2] 51 (0, 0))], U0, F]) (bt := bs) (m := []) (ot := os) [[(b298, .map #[] 0)], U0, [(b249, .cells #[.int .i64 a1, .string a2] 51 (0, 0))], F] [] HW [0, 2, 1, 3] [] [] KR KR (by decide) KR) (.tmp 70) (.tmp 68) rfl KR KR KR ?_; clear ha HW a
                      intro U300 a W301 hU302 HW ha; clear hU291
                      replace HW : Wd w W301 ((b249, .cells #[.int .i64 a1, .string a2] 51 (0, 0)) :: U300 ++ (F ++ bs)) (os) := Wd.segs (ss := [U300, [(b249, .cells #[.int .i64 a1, .string a2] 51 (0, 0))], F]) (bt := bs) (m := []) (ot := os) [[(b249, .cells #[.int .i64 a1, .string a2] 51 (0, 0))], U300, F] [] HW [1, 0, 2] [] [] KR KR (by decide) KR
                      refine endl ?_
                      exact thenN ⟨A288, c289, (some [] : UMap), U300, h, ha.sub (subs_cons KR (subs_cons KR (subs_cons KR (subs_cons KR (subs_nil _))))), (Wd.segs (ss := [[(b249, .cells #[.int .i64 a1, .string a2] 51 (0, 0))], U300, F]) (bt := bs) (m := []) (ot := os) [[(b249, .cells #[.int .i64 a1, .string a2] 51 (0, 0))], U300, F] [] HW [0, 1, 2] [] [] KR KR (by decide) KR), hr290, hU302⟩
                    · skip
                      replace h := ite_neg' h hp297
                      refine condF ha KR KR (t := a0.isNone) (bool_f hp297) ?_
                      refine wp_skip ?_
                      exact thenN ⟨A288, c289, a0, U0, h, ha.sub (subs_cons KR (subs_cons KR (subs_cons KR (subs_cons KR (subs_nil _))))), (Wd.segs (ss := [[(b249, .cells #[.int .i64 a1, .string a2] 51 (0, 0))], U0, F]) (bt := bs) (m := []) (ot := os) [[(b249, .cells #[.int .i64 a1, .string a2] 51 (0, 0))], U0, F] [] HW [0, 1, 2] [] [] KR KR (by decide) KR), hr290, hU291⟩
                  · skip
                    intro a W309 hJ
                    obtain ⟨A303, c304, x306, U307, h, ha, HW, hr305, hU308⟩ := hJ
                    replace h : units_Units_Add.j2 K a1 a2 a3 x287 x306 = some r := h
                    unfold units_Units_Add.j2 at h
                    refine hK294 _ _ ?_; clear hK294
                    refine wp_seq_k (fun K310 hK311 => ?_)
                    obtain ⟨t312, ht313, h_⟩ := bind_some' h; clear h; have h := h_; clear h_
                    obtain ⟨hA325, h_⟩ := asrt_some h; clear h; have h := h_; clear h_
                    refine regionE 10 9 KR [.fix (.pointer (some ⟨p0, 0, none⟩)), .fix (.pointer (some ⟨p0, 0, none⟩)), .fix (.pointer (some ⟨p0, 0, none⟩)), .fix (umv U307), .fix (.agg #[.int .i64 a1, .string a2]), .fix (.slice A303 x287.length c304), (.wd (fun As319 ns320 => .slice (As319.getD 0 none) t312.length (ns320.getD 0 0)) w (fun _ _ => ((b249, .cells #[.int .i64 a1, .string a2] 51 (0, 0)) :: U307 ++ (F ++ bs))) (fun As319 ns320 => (⟨3, 1, .slice (As319.getD 0 none) t312.length (ns320.getD 0 0), t312.length, encs (encIK .i64) t312⟩ :: os))), .fix (.int .i64 a3), .lit w 3 ([a3] : List Int).length #[.int .i64 a3] ((b249, .cells #[.int .i64 a1, .string a2] 51 (0, 0)) :: U307 ++ (F ++ bs)) (os), (.wd (fun As331 ns332 => .slice (As331.getD 0 none) (t312 ++ ([a3] : List Int)).length (ns332.getD 0 0)) w (fun As331 ns332 => ((b249, .cells #[.int .i64 a1, .string a2] 51 (0, 0)) :: U307 ++ (F ++ bs))) (fun As331 ns332 => (⟨3, 1, .slice (As331.getD 0 none) (t312 ++ ([a3] : List Int)).length (ns332.getD 0 0), (t312 ++ ([a3] : List Int)).length, encs (encIK .i64) (t312 ++ ([a3] : List Int))⟩ :: os)))] [false, false, false, false, false, false, true, false, true, false] KR (((b249, .cells #[.int .i64 a1, .string a2] 51 (0, 0)) :: U307 ++ (F ++ bs)), (os)) (((b249, .cells #[.int .i64 a1, .string a2] 51 (0, 0)) :: U307 ++ (F ++ bs)), (os)) ha HW (.wd (fun As331 ns332 => .slice (As331.getD 0 none) (t312 ++ ([a3] : List Int)).length (ns332.getD 0 0)) w (fun As331 ns332 => ((b249, .cells #[.int .i64 a1, .string a2] 51 (0, 0)) :: U307 ++ (F ++ bs))) (fun As331 ns332 => (⟨3, 1, .slice (As331.getD 0 none) (t312 ++ ([a3] : List Int)).length (ns332.getD 0 0), (t312 ++ ([a3] : List Int)).length, encs (encIK .i64) (t312 ++ ([a3] : List Int))⟩ :: os))) KR (fun w_ h_ => h_) (fun v_ w_ h_ => by obtain ⟨As331, ns332, _, h_⟩ := h_; exact (Wd.segs (ss := [[(b249, .cells #[.int .i64 a1, .string a2] 51 (0, 0))], U307, F]) (bt := bs) (m := [⟨3, 1, .slice (As331.getD 0 none) (t312 ++ ([a3] : List Int)).length (ns332.getD 0 0), (t312 ++ ([a3] : List Int)).length, encs (encIK .i64) (t312 ++ ([a3] : List Int))⟩]) (ot := os) [[(b249, .cells #[.int .i64 a1, .string a2] 51 (0, 0))], U307, F] [] h_ [0, 1, 2] [] [] KR KR (by decide) KR)) KR ?_ ?_
                    · skip
                      refine ⟨?_, ?_, ?_, ?_, ?_, ?_, ?_, ?_, ?_, ?_, trivial⟩
                      · skip
                        show OpOkX _ _ _ _ _ _ _ _ _ _
                        intro a wr hn hd HW hs; have ha := hasNil hn hd
                        have ha := ha.add (seeE hs 0 (.pointer (some ⟨p0, 0, none⟩)) KR KR)
                        refine yStep ha 71 KR ?_; intro l_ ha HK
                        refine stepp ha 71 (.pointer (some ⟨p0, 0, none⟩)) KR KR ?_; intro ax hax; exact HK _ _ _ hax rfl (Below.refl _ _)
                      · skip
                        show OpOkX _ _ _ _ _ _ _ _ _ _
                        intro a wr hn hd HW hs; have ha := hasNil hn hd
                        have ha := ha.add (seeF hs 71 0 (.pointer (some ⟨p0, 0, none⟩)) KR KR)
                        refine yStep ha 72 KR ?_; intro l_ ha HK
                        refine stepp ha 72 (.pointer (some ⟨p0, 0, none⟩)) KR KR ?_; intro ax hax; exact HK _ _ _ hax rfl (Below.refl _ _)
                      · skip
                        show OpOkX _ _ _ _ _ _ _ _ _ _
                        intro a wr hn hd HW hs; have ha := hasNil hn hd
                        have ha := ha.add (seeF hs 72 1 (.pointer (some ⟨p0, 0, none⟩)) KR KR)
                        refine yStep ha 73 KR ?_; intro l_ ha HK
                        refine stepp ha 73 (.pointer (some ⟨p0, 0, none⟩)) KR KR ?_; intro ax hax; exact HK _ _ _ hax rfl (Below.refl _ _)
                      · skip
                        show OpOkX _ _ _ _ _ _ _ _ _ _
                        intro a wr hn hd HW hs; have ha := hasNil hn hd
                        have ha := ha.add (seeF hs 73 2 (.pointer (some ⟨p0, 0, none⟩)) KR KR)
                        refine yStep ha 74 KR ?_; intro l_ ha HK
                        refine stepul ha hU308 (Wd.segs (ss := [[(b249, .cells #[.int .i64 a1, .string a2] 51 (0, 0))], U307, F]) (bt := bs) (m := []) (ot := os) [U307, [(b249, .cells #[.int .i64 a1, .string a2] 51 (0, 0))], F] [] HW [1, 0, 2] [] [] KR KR (by decide) KR) 74 (.tmp 73) rfl KR KR ?_; intro ax hax; exact HK _ _ _ hax rfl (Below.refl _ _)
                      · skip
                        show OpOkX _ _ _ _ _ _ _ _ _ _
                        intro a wr hn hd HW hs; have ha := hasNil hn hd
                        have ha := ha.add (seeE hs 9 (.pointer (some ⟨b249, 0, none⟩)) KR KR)
                        refine yStep ha 75 KR ?_; intro l_ ha HK
                        refine stepl ha 75 (HW.ca (i := 0) (b := b249) (C := #[.int .i64 a1, .string a2]) (T := 51) (fr := (0, 0)) KR) 51 0 (.tmp 9) (.agg #[.int .i64 a1, .string a2]) rfl KR KR KR ?_; intro ax hax; exact HK _ _ _ hax rfl (Below.refl _ _)
                      · skip
                        show OpOkX _ _ _ _ _ _ _ _ _ _
                        intro a wr hn hd HW hs; have ha := hasNil hn hd
                        have ha := ha.add (seeE hs 10 (.slice A303 x287.length c304) KR KR)
                        refine yStep ha 76 KR ?_; intro l_ ha HK
                        refine stepp ha 76 (.slice A303 x287.length c304) KR KR ?_; intro ax hax; exact HK _ _ _ hax rfl (Below.refl _ _)
                      · skip
                        show OpOkX _ _ _ _ _ _ _ _ _ _
                        intro a wr hn hd HW hs; have ha := hasNil hn hd
                        have ha := ha.add (seeF hs 76 5 (.slice A303 x287.length c304) KR KR)
                        refine yStep ha 77 KR ?_; intro l_ ha HK
                        refine stepc ha 77 KR KR (slices_Clone_23.calls x287 A303 c304 t312 _ ((hr305.rd HW (mem_flat (ss := [[(b249, .cells #[.int .i64 a1, .string a2] 51 (0, 0))], U307, F]) (bt := bs) 2 rfl))) ht313) ?_; rintro e W317 ⟨A314, c315, rfl, HX318⟩
                        refine ⟨_, rfl, ?_⟩; intro ax hax; exact HK _ _ _ hax ⟨[A314], [c315], rfl, HW.callw HX318⟩ HX318.below
                      · skip
                        show OpOkX _ _ _ _ _ _ _ _ _ _
                        intro a wr hn hd HW hs; have ha := hasNil hn hd
                        have ha := ha.add (seeE hs 3 (.int .i64 a3) KR KR)
                        refine yStep ha 78 KR ?_; intro l_ ha HK
                        refine stepp ha 78 (.int .i64 a3) KR KR ?_; intro ax hax; exact HK _ _ _ hax rfl (Below.refl _ _)
                      · skip
                        show OpOkX _ _ _ _ _ _ _ _ _ _
                        intro a wr hn hd HW hs; have ha := hasNil hn hd
                        have ha := ha.add (seeF hs 78 7 (.int .i64 a3) KR KR)
                        refine yStep ha 79 KR ?_; intro l_ ha HK
                        refine stepbk ha (Wd.refl wr) 79 3 1 #[.int .i64 a3] KR KR ?_; intro b321 ax W322 HV hax
                        exact HK _ _ _ hax ⟨b321, rfl, HW.callw HV⟩ HV.below
                      · skip
                        show EffOkX _ _ _ _ _ _ _ _ _
                        intro a wr hn hd HW hs; have ha := hasNil hn hd
                        obtain ⟨_, he_, As319, ns320, rfl, HV_⟩ := seeK hs 77 6 (.wd (fun As319 ns320 => .slice (As319.getD 0 none) t312.length (ns320.getD 0 0)) w (fun _ _ => ((b249, .cells #[.int .i64 a1, .string a2] 51 (0, 0)) :: U307 ++ (F ++ bs))) (fun As319 ns320 => (⟨3, 1, .slice (As319.getD 0 none) t312.length (ns320.getD 0 0), t312.length, encs (encIK .i64) t312⟩ :: os))) KR KR; have ha := ha.add he_; clear HW; have HW := HV_; clear HV_
                        obtain ⟨b321, he_, hR324⟩ := seeL (enc := (encIK .i64)) hs 79 8 1 3 #[.int .i64 a3] ([a3] : List Int) (w1 := w) (bs1 := ((b249, .cells #[.int .i64 a1, .string a2] 51 (0, 0)) :: U307 ++ (F ++ bs))) (os1 := (os)) KR KR (fun _ => rfl) rfl; have ha := ha.add he_
                        refine yStepA ha 80 KR ?_; intro l_ ha HK
                        refine stepape (encIK .i64) ha HW 80 0 34 3 (.tmp 77) (.tmp 79) (.int .i64 0) 1 8 (.slice (As319.getD 0 none) t312.length (ns320.getD 0 0)) t312 (.slice (some ⟨b321, 0, none⟩) ([a3] : List Int).length (([a3] : List Int).length)) ([a3] : List Int) KR rfl KR KR hR324 (fun _ => rfl) KR KR KR (by decide) (by have := hA325; unfold maxLen; omega) (by have := hA325; omega) KR ?_; intro A326 c327 ax wx HV hax; exact HK _ _ _ hax ⟨[A326], [c327], rfl, HV⟩
                    · skip
                      intro a W333 ha hE_ he hf
                      clear HW; obtain ⟨_, he_, As331, ns332, rfl, HW⟩ := gotK (m := 10) (j := 9) (d := 80) (f := .wd (fun As331 ns332 => .slice (As331.getD 0 none) (t312 ++ ([a3] : List Int)).length (ns332.getD 0 0)) w (fun As331 ns332 => ((b249, .cells #[.int .i64 a1, .string a2] 51 (0, 0)) :: U307 ++ (F ++ bs))) (fun As331 ns332 => (⟨3, 1, .slice (As331.getD 0 none) (t312 ++ ([a3] : List Int)).length (ns332.getD 0 0), (t312 ++ ([a3] : List Int)).length, encs (encIK .i64) (t312 ++ ([a3] : List Int))⟩ :: os))) hf KR KR KR; replace ha := ha.add he_; clear he_
                      replace HW : Wd w W333 ((b249, .cells #[.int .i64 a1, .string a2] 51 (0, 0)) :: U307 ++ (F ++ bs)) (⟨3, 1, .slice (As331.getD 0 none) (t312 ++ ([a3] : List Int)).length (ns332.getD 0 0), (t312 ++ ([a3] : List Int)).length, encs (encIK .i64) (t312 ++ ([a3] : List Int))⟩ :: os) := HW
                      replace ha := ha.add (gotF (m := 10) (j := 3) (d := 74) (v := umv U307) hf KR KR KR)
                      replace ha := ha.add (gotF (m := 10) (j := 4) (d := 75) (v := .agg #[.int .i64 a1, .string a2]) hf KR KR KR)
                      clear he hf
                      obtain ⟨N334, hN335, HW⟩ := Wd.rowFold (Wd.segs (ss := [[(b249, .cells #[.int .i64 a1, .string a2] 51 (0, 0))], U307, F]) (bt := bs) (m := [⟨3, 1, .slice (As331.getD 0 none) (t312 ++ ([a3] : List Int)).length (ns332.getD 0 0), (t312 ++ ([a3] : List Int)).length, encs (encIK .i64) (t312 ++ ([a3] : List Int))⟩]) (ot := os) [[(b249, .cells #[.int .i64 a1, .string a2] 51 (0, 0))], U307, F] [⟨3, 1, .slice (As331.getD 0 none) (t312 ++ ([a3] : List Int)).length (ns332.getD 0 0), (t312 ++ ([a3] : List Int)).length, encs (encIK .i64) (t312 ++ ([a3] : List Int))⟩] HW [0, 1, 2] [] [0] KR KR (by decide) KR)
                      replace HW := Wd.joinHead (N := N334) (P := F) (Wd.segs (ss := [N334, [(b249, .cells #[.int .i64 a1, .string a2] 51 (0, 0))], U307, F]) (bt := bs) (m := []) (ot := os) [N334, F, [(b249, .cells #[.int .i64 a1, .string a2] 51 (0, 0))], U307] [] HW [0, 3, 1, 2] [] [] KR KR (by decide) KR)
                      have hr336 := RdF.own (w0 := w) (F := F) hN335
                      replace hU308 := UAt.mono hU308 (pool_cons N334 F)
                      replace HW := Wd.segs (ss := [N334 ++ F, [(b249, .cells #[.int .i64 a1, .string a2] 51 (0, 0))], U307]) (bt := bs) (m := []) (ot := os) [[(b249, .cells #[.int .i64 a1, .string a2] 51 (0, 0))], U307, N334 ++ F] [] HW [1, 2, 0] [] [] KR KR (by decide) KR
                      replace HW : Wd w W333 ((b249, .cells #[.int .i64 a1, .string a2] 51 (0, 0)) :: U307 ++ ((N334 ++ F) ++ bs)) (os) := HW
                      replace hr336 : RdF w (N334 ++ F) 1 (.slice (As331.getD 0 none) (t312 ++ ([a3] : List Int)).length (ns332.getD 0 0)) (t312 ++ ([a3] : List Int)).length (encs (encIK .i64) (t312 ++ ([a3] : List Int))) := hr336
                      obtain ⟨hA337, h_⟩ := asrt_some h; clear h; have h := h_; clear h_
                      refine stepuu ha hU308 hA337 (Wd.segs (ss := [[(b249, .cells #[.int .i64 a1, .string a2] 51 (0, 0))], U307, N334 ++ F]) (bt := bs) (m := []) (ot := os) [U307, [(b249, .cells #[.int .i64 a1, .string a2] 51 (0, 0))], N334 ++ F] [] HW [1, 0, 2] [] [] KR KR (by decide) KR) (.tmp 74) (.tmp 75) (.tmp 80) (a1, a2) (As331.getD 0 none) (ns332.getD 0 0) (t312 ++ ([a3] : List Int)) rfl KR KR KR hr336 KR ?_; clear ha HW a
                      intro U338 a W339 hU340 HW ha; clear hU308
                      replace HW : Wd w W339 ((b249, .cells #[.int .i64 a1, .string a2] 51 (0, 0)) :: U338 ++ ((N334 ++ F) ++ bs)) (os) := Wd.segs (ss := [U338, [(b249, .cells #[.int .i64 a1, .string a2] 51 (0, 0))], N334 ++ F]) (bt := bs) (m := []) (ot := os) [[(b249, .cells #[.int .i64 a1, .string a2] 51 (0, 0))], U338, N334 ++ F] [] HW [1, 0, 2] [] [] KR KR (by decide) KR
                      refine endl ?_
                      refine thenN (hK311 _ _ ?_); clear hK311
                      refine wp_seq_k (fun K341 hK342 => ?_)
                      refine wp_region_lit ?_
                      refine stepp ha 8 (.bool true) KR KR ?_; clear ha a; intro a ha
                      refine endl ?_
                      refine thenN (hK342 _ _ ?_); clear hK342
                      refine wp_ret ?_
                      obtain rfl := Option.some.inj h
                      exact finv ha _ _ rfl (.tmp (v := .bool true) KR .nil) (.bool true) rfl ⟨U338, N334 ++ F, rfl, (pool_cons N334 F), hU340, (Wd.segs (ss := [[(b249, .cells #[.int .i64 a1, .string a2] 51 (0, 0))], U338, N334 ++ F]) (bt := bs) (m := []) (ot := os) [U338, N334 ++ F] [] HW [1, 2] [0] [] KR KR (by decide) KR)⟩
          · skip
            replace h := ite_neg' h hp244
            refine condT ha KR KR (t := (!t232)) (not_t (bool_f hp244)) ?_
            refine wp_seq_k (fun K245 hK246 => ?_)
            refine wp_region_lit ?_
            refine stepp ha 8 (.bool false) KR KR ?_; clear ha a; intro a ha
            refine endl ?_
            refine thenN (hK246 _ _ ?_); clear hK246
            refine wp_ret ?_
            refine thenR ?_
            obtain rfl := Option.some.inj h
            exact finv ha _ _ rfl (.tmp (v := .bool false) KR .nil) (.bool false) rfl ⟨U0, F, rfl, (pool_nil F), hU0, (Wd.segs (ss := [U0, F]) (bt := bs) (m := []) (ot := os) [U0, F] [] HW [0, 1] [] [] KR KR (by decide) KR)⟩
/-! ### (*headgate/units.Units).Wait: function 12 -/
def units_Units_Wait.f (a0 : UMap) (a1 : Int) (a2 : ByteArray) : Option (Int × UMap) :=
  some (((uget a0 (a1, a2)).length : Int), a0)
set_option maxRecDepth 100000 in
set_option maxHeartbeats 4000000 in
theorem units_Units_Wait.calls (a0 : UMap) (a1 : Int) (a2 : ByteArray) (p0 : Nat) (U0 : Blks)  (r : Int × UMap) (w w1 : World) (F bs : Blks) (os : List OwnA) (hU0 : UAt w F p0 a0 U0) (HW : Wd w w1 (U0 ++ (F ++ bs)) os) (h : units_Units_Wait.f a0 a1 a2 = some r) :
    Calls Try.prog 12 #[.pointer (some ⟨p0, 0, none⟩), .int .i64 a1, .string a2] w1 (fun e W' => ∃ U0' : Blks, e = .returned (.int .i64 r.1) ∧ UAt w F p0 r.2 U0' ∧ Wd w W' (U0' ++ (F ++ bs)) (os)) := by
  refine sxstart (n := 18) (l := [(0, .pointer (some ⟨p0, 0, none⟩)), (1, .int .i64 a1), (2, .string a2)]) Try.func12 rfl rfl (Nat.le_of_ble_eq_true KR) (subsA_cons rfl (subsA_cons rfl (subsA_cons rfl (subsA_nil _)))) ?_
  intro a ha
  replace HW : Wd w w1 (U0 ++ (F ++ bs)) (os) := HW
  unfold units_Units_Wait.f at h
  refine wp_seq_k (fun K343 hK344 => ?_)
  refine wp_region_lit ?_
  refine stepp ha 6 (.int .i64 0) KR KR ?_; clear ha a; intro a ha
  refine endl ?_
  refine thenN (hK344 _ _ ?_); clear hK344
  refine wp_seq_k (fun K345 hK346 => ?_)
  refine wp_seq_k (fun K347 hK348 => ?_)
  refine wp_region_lit ?_
  refine stepp ha 7 (.pointer (some ⟨p0, 0, none⟩)) KR KR ?_; clear ha a; intro a ha
  refine stepp ha 8 (.bool false) KR KR ?_; clear ha a; intro a ha
  refine endl ?_
  refine thenN (hK348 _ _ ?_); clear hK348
  refine condF ha KR KR (t := false) (rfl) ?_
  refine wp_skip ?_
  refine thenN (hK346 _ _ ?_); clear hK346
  refine wp_seq_k (fun K349 hK350 => ?_)
  refine wp_region_lit ?_
  refine stepp ha 9 (.pointer (some ⟨p0, 0, none⟩)) KR KR ?_; clear ha a; intro a ha
  refine stepp ha 10 (.pointer (some ⟨p0, 0, none⟩)) KR KR ?_; clear ha a; intro a ha
  refine stepp ha 11 (.pointer (some ⟨p0, 0, none⟩)) KR KR ?_; clear ha a; intro a ha
  refine stepul ha hU0 (Wd.segs (ss := [U0, F]) (bt := bs) (m := []) (ot := os) [U0, F] [] HW [0, 1] [] [] KR KR (by decide) KR) 12 (.tmp 11) rfl KR KR ?_; clear ha a; intro a ha
  refine stepp ha 13 (.int .i64 a1) KR KR ?_; clear ha a; intro a ha
  refine stepp ha 14 (.string a2) KR KR ?_; clear ha a; intro a ha
  refine stepp ha 15 (.agg #[.int .i64 a1, .string a2]) KR KR ?_; clear ha a; intro a ha
  refine stepuk ha hU0 (Wd.segs (ss := [U0, F]) (bt := bs) (m := []) (ot := os) [U0, F] [] HW [0, 1] [] [] KR KR (by decide) KR) 16 (.tmp 12) (.tmp 15) (a1, a2) rfl KR KR KR ?_; clear ha a; intro A351 c352 a hr353 ha
  refine stepp ha 17 (.int .i64 ((uget a0 (a1, a2)).length : Int)) KR KR ?_; clear ha a; intro a ha
  refine stepp ha 6 (.int .i64 ((uget a0 (a1, a2)).length : Int)) KR KR ?_; clear ha a; intro a ha
  refine endl ?_
  refine thenN (hK350 _ _ ?_); clear hK350
  refine wp_ret ?_
  obtain rfl := Option.some.inj h
  exact finv ha _ _ rfl (.tmp (v := .int .i64 ((uget a0 (a1, a2)).length : Int)) KR .nil) (.int .i64 ((uget a0 (a1, a2)).length : Int)) rfl ⟨U0, rfl, hU0, (Wd.segs (ss := [U0, F]) (bt := bs) (m := []) (ot := os) [U0, F] [] HW [0, 1] [] [] KR KR (by decide) KR)⟩
/-! ### (*headgate/units.Units).Take: function 10 -/
def units_Units_Take.f (a0 : UMap) (a1 : Int) (a2 : ByteArray) : Option (Int × Bool × UMap) :=
  (units_Units_Wait.f a0 a1 a2).bind fun t360 => (if t360.1 = 0 then (some (0, false, t360.2)) else (if ((uget t360.2 (a1, a2)).length : Int) = 1 then (asrt (0 < ((uget t360.2 (a1, a2)).length : Int)) (some (rdL (0 : Int) (uget t360.2 (a1, a2)) 0, true, udel t360.2 (a1, a2)))) else (asrt (1 ≤ ((uget t360.2 (a1, a2)).length : Int)) (asrt (t360.2.isSome = true) (asrt (0 < ((uget t360.2 (a1, a2)).length : Int)) (some (rdL (0 : Int) (uget t360.2 (a1, a2)) 0, true, uput t360.2 (a1, a2) ((uget t360.2 (a1, a2)).drop (1 : Int).toNat))))))))
set_option maxRecDepth 100000 in
set_option maxHeartbeats 4000000 in
theorem units_Units_Take.calls (a0 : UMap) (a1 : Int) (a2 : ByteArray) (p0 : Nat) (U0 : Blks)  (r : Int × Bool × UMap) (w w1 : World) (F bs : Blks) (os : List OwnA) (hU0 : UAt w F p0 a0 U0) (HW : Wd w w1 (U0 ++ (F ++ bs)) os) (h : units_Units_Take.f a0 a1 a2 = some r) :
    Calls Try.prog 10 #[.pointer (some ⟨p0, 0, none⟩), .int .i64 a1, .string a2] w1 (fun e W' => ∃ U0' : Blks, e = .returned (.tuple #[.int .i64 r.1, .bool r.2.1]) ∧ UAt w F p0 r.2.2 U0' ∧ Wd w W' (U0' ++ (F ++ bs)) (os)) := by
  refine sxstart (n := 42) (l := [(0, .pointer (some ⟨p0, 0, none⟩)), (1, .int .i64 a1), (2, .string a2)]) Try.func10 rfl rfl (Nat.le_of_ble_eq_true KR) (subsA_cons rfl (subsA_cons rfl (subsA_cons rfl (subsA_nil _)))) ?_
  intro a ha
  replace HW : Wd w w1 (U0 ++ (F ++ bs)) (os) := HW
  unfold units_Units_Take.f at h
  refine wp_seq_k (fun K354 hK355 => ?_)
  refine wp_region_lit ?_
  refine stepp ha 6 (.int .i64 0) KR KR ?_; clear ha a; intro a ha
  refine stepp ha 7 (.bool false) KR KR ?_; clear ha a; intro a ha
  refine endl ?_
  refine thenN (hK355 _ _ ?_); clear hK355
  refine wp_seq_k (fun K356 hK357 => ?_)
  refine wp_seq_k (fun K358 hK359 => ?_)
  refine wp_region_lit ?_
  refine stepp ha 10 (.pointer (some ⟨p0, 0, none⟩)) KR KR ?_; clear ha a; intro a ha
  refine stepp ha 11 (.int .i64 a1) KR KR ?_; clear ha a; intro a ha
  refine stepp ha 12 (.string a2) KR KR ?_; clear ha a; intro a ha
  obtain ⟨t360, ht361, h_⟩ := bind_some' h; clear h; have h := h_; clear h_
  refine stepc ha 13 KR KR (units_Units_Wait.calls a0 a1 a2 p0 U0 t360 _ _ F bs (os) hU0 (Wd.segs (ss := [U0, F]) (bt := bs) (m := []) (ot := os) [U0, F] [] HW [0, 1] [] [] KR KR (by decide) KR) ht361) ?_; clear ha a; rintro e W363 ⟨U362, rfl, hU0n, HX364⟩
  refine ⟨_, rfl, ?_⟩; intro a ha; clear HW
  clear hU0; have hU0 := hU0n; clear hU0n
  have HW : Wd w W363 (U362 ++ (F ++ bs)) (os) := Wd.segs (ss := [U362, F]) (bt := bs) (m := []) (ot := os) [U362, F] [] HX364 [0, 1] [] [] KR KR (by decide) KR; clear HX364
  refine stepp ha 14 (.bool (t360.1 == 0)) KR KR ?_; clear ha a; intro a ha
  refine endl ?_
  refine thenN (hK359 _ _ ?_); clear hK359
  by_cases hp367 : t360.1 = 0
  · skip
    replace h := ite_pos' h hp367
    refine condT ha KR KR (t := (t360.1 == 0)) (ieq_t hp367) ?_
    refine wp_seq_k (fun K368 hK369 => ?_)
    refine wp_region_lit ?_
    refine stepp ha 6 (.int .i64 0) KR KR ?_; clear ha a; intro a ha
    refine stepp ha 7 (.bool false) KR KR ?_; clear ha a; intro a ha
    refine endl ?_
    refine thenN (hK369 _ _ ?_); clear hK369
    refine wp_ret ?_
    refine thenR ?_
    obtain rfl := Option.some.inj h
    exact finv ha _ _ rfl (.tmp (v := .int .i64 0) KR (.tmp (v := .bool false) KR .nil)) (.tuple #[.int .i64 0, .bool false]) rfl ⟨U362, rfl, hU0, (Wd.segs (ss := [U362, F]) (bt := bs) (m := []) (ot := os) [U362, F] [] HW [0, 1] [] [] KR KR (by decide) KR)⟩
  · skip
    replace h := ite_neg' h hp367
    refine condF ha KR KR (t := (t360.1 == 0)) (ieq_f hp367) ?_
    refine wp_skip ?_
    refine thenN (hK357 _ _ ?_); clear hK357
    refine wp_seq_k (fun K370 hK371 => ?_)
    refine wp_region_lit ?_
    refine stepp ha 15 (.int .i64 a1) KR KR ?_; clear ha a; intro a ha
    refine stepp ha 16 (.string a2) KR KR ?_; clear ha a; intro a ha
    refine stepp ha 17 (.agg #[.int .i64 a1, .string a2]) KR KR ?_; clear ha a; intro a ha
    refine stepnew ha HW 8 #[.int .i64 0, .string (⟨#[]⟩ : ByteArray)] 51 KR KR ?_; clear ha HW a; intro b372 a W373 HW ha
    refine stepst ha HW 0 (b := b372) (C := #[.int .i64 0, .string (⟨#[]⟩ : ByteArray)]) (T := 51) KR 51 0 (.tmp 8) (.tmp 17) (.agg #[.int .i64 a1, .string a2]) #[.int .i64 a1, .string a2] rfl KR KR KR KR KR KR KR ?_; clear ha HW a; intro a W374 HW ha
    refine endl ?_
    refine thenN (hK371 _ _ ?_); clear hK371
    refine wp_seq_k (fun K375 hK376 => ?_)
    refine regionG 6 KR KR ha HW [.fix (.pointer (some ⟨p0, 0, none⟩)), .fix (.pointer (some ⟨p0, 0, none⟩)), .fix (.pointer (some ⟨p0, 0, none⟩)), .fix (umv U362), .fix (.agg #[.int .i64 a1, .string a2]), (.pr (fun v_ => UVal w F v_ (uget t360.2 (a1, a2))))] ?_ ?_
    · skip
      refine ⟨?_, ?_, ?_, ?_, ?_, ?_, trivial⟩
      · skip
        intro a wr hn hd HW hs; have ha := hasNil hn hd
        have ha := ha.add (seeE hs 0 (.pointer (some ⟨p0, 0, none⟩)) KR KR)
        refine yStep ha 18 KR ?_; intro l_ ha HK
        refine stepp ha 18 (.pointer (some ⟨p0, 0, none⟩)) KR KR ?_; intro ax hax; exact HK _ _ _ hax rfl (Below.refl _ _)
      · skip
        intro a wr hn hd HW hs; have ha := hasNil hn hd
        have ha := ha.add (seeF hs 18 0 (.pointer (some ⟨p0, 0, none⟩)) KR KR)
        refine yStep ha 19 KR ?_; intro l_ ha HK
        refine stepp ha 19 (.pointer (some ⟨p0, 0, none⟩)) KR KR ?_; intro ax hax; exact HK _ _ _ hax rfl (Below.refl _ _)
      · skip
        intro a wr hn hd HW hs; have ha := hasNil hn hd
        have ha := ha.add (seeF hs 19 1 (.pointer (some ⟨p0, 0, none⟩)) KR KR)
        refine yStep ha 20 KR ?_; intro l_ ha HK
        refine stepp ha 20 (.pointer (some ⟨p0, 0, none⟩)) KR KR ?_; intro ax hax; exact HK _ _ _ hax rfl (Below.refl _ _)
      · skip
        intro a wr hn hd HW hs; have ha := hasNil hn hd
        have ha := ha.add (seeF hs 20 2 (.pointer (some ⟨p0, 0, none⟩)) KR KR)
        refine yStep ha 21 KR ?_; intro l_ ha HK
        refine stepul ha hU0 (Wd.segs (ss := [[(b372, .cells #[.int .i64 a1, .string a2] 51 (0, 0))], U362, F]) (bt := bs) (m := []) (ot := os) [U362, [(b372, .cells #[.int .i64 a1, .string a2] 51 (0, 0))], F] [] HW [1, 0, 2] [] [] KR KR (by decide) KR) 21 (.tmp 20) rfl KR KR ?_; intro ax hax; exact HK _ _ _ hax rfl (Below.refl _ _)
      · skip
        intro a wr hn hd HW hs; have ha := hasNil hn hd
        have ha := ha.add (seeE hs 8 (.pointer (some ⟨b372, 0, none⟩)) KR KR)
        refine yStep ha 22 KR ?_; intro l_ ha HK
        refine stepl ha 22 (HW.ca (i := 0) (b := b372) (C := #[.int .i64 a1, .string a2]) (T := 51) (fr := (0, 0)) KR) 51 0 (.tmp 8) (.agg #[.int .i64 a1, .string a2]) rfl KR KR KR ?_; intro ax hax; exact HK _ _ _ hax rfl (Below.refl _ _)
      · skip
        intro a wr hn hd HW hs; have ha := hasNil hn hd
        have ha := ha.add (seeF hs 21 3 (umv U362) KR KR)
        have ha := ha.add (seeF hs 22 4 (.agg #[.int .i64 a1, .string a2]) KR KR)
        refine yStep ha 23 KR ?_; intro l_ ha HK
        refine stepuk ha hU0 (Wd.segs (ss := [[(b372, .cells #[.int .i64 a1, .string a2] 51 (0, 0))], U362, F]) (bt := bs) (m := []) (ot := os) [U362, [(b372, .cells #[.int .i64 a1, .string a2] 51 (0, 0))], F] [] HW [1, 0, 2] [] [] KR KR (by decide) KR) 23 (.tmp 21) (.tmp 22) (a1, a2) rfl KR KR KR ?_; intro A377 c378 ax hr379 hax; exact HK _ _ _ hax ⟨A377, c378, rfl, hr379⟩ (Below.refl _ _)
    · skip
      intro a W380 ha HW he hf
      replace ha := ha.add (he 0 (.pointer (some ⟨p0, 0, none⟩)) KR KR)
      replace ha := ha.add (he 8 (.pointer (some ⟨b372, 0, none⟩)) KR KR)
      obtain ⟨_, he_, A377, c378, rfl, hr379⟩ := gotK (m := 6) (j := 5) (d := 23) (f := (.pr (fun v_ => UVal w F v_ (uget t360.2 (a1, a2))))) hf KR KR KR; replace ha := ha.add he_; clear he_
      clear he hf
      refine stepp ha 9 (.slice A377 (uget t360.2 (a1, a2)).length c378) KR KR ?_; clear ha a; intro a ha
      refine endl ?_
      refine thenN (hK376 _ _ ?_); clear hK376
      refine wp_seq_k (fun K381 hK382 => ?_)
      refine wp_seq_k (fun K383 hK384 => ?_)
      refine wp_region_lit ?_
      refine stepp ha 24 (.slice A377 (uget t360.2 (a1, a2)).length c378) KR KR ?_; clear ha a; intro a ha
      refine stepp ha 25 (.int .i64 ((uget t360.2 (a1, a2)).length : Int)) KR KR ?_; clear ha a; intro a ha
      refine stepp ha 26 (.bool (((uget t360.2 (a1, a2)).length : Int) == 1)) KR KR ?_; clear ha a; intro a ha
      refine endl ?_
      refine thenN (hK384 _ _ ?_); clear hK384
      by_cases hp385 : ((uget t360.2 (a1, a2)).length : Int) = 1
      · skip
        replace h := ite_pos' h hp385
        refine condT ha KR KR (t := (((uget t360.2 (a1, a2)).length : Int) == 1)) (ieq_t hp385) ?_
        refine regionGT 5 KR KR ha HW [.fix (.pointer (some ⟨p0, 0, none⟩)), .fix (.pointer (some ⟨p0, 0, none⟩)), .fix (.pointer (some ⟨p0, 0, none⟩)), .fix (umv U362), .fix (.agg #[.int .i64 a1, .string a2])] ?_ ?_
        · skip
          refine ⟨?_, ?_, ?_, ?_, ?_, trivial⟩
          · skip
            intro a wr hn hd HW hs; have ha := hasNil hn hd
            have ha := ha.add (seeE hs 0 (.pointer (some ⟨p0, 0, none⟩)) KR KR)
            refine yStep ha 27 KR ?_; intro l_ ha HK
            refine stepp ha 27 (.pointer (some ⟨p0, 0, none⟩)) KR KR ?_; intro ax hax; exact HK _ _ _ hax rfl (Below.refl _ _)
          · skip
            intro a wr hn hd HW hs; have ha := hasNil hn hd
            have ha := ha.add (seeF hs 27 0 (.pointer (some ⟨p0, 0, none⟩)) KR KR)
            refine yStep ha 28 KR ?_; intro l_ ha HK
            refine stepp ha 28 (.pointer (some ⟨p0, 0, none⟩)) KR KR ?_; intro ax hax; exact HK _ _ _ hax rfl (Below.refl _ _)
          · skip
            intro a wr hn hd HW hs; have ha := hasNil hn hd
            have ha := ha.add (seeF hs 28 1 (.pointer (some ⟨p0, 0, none⟩)) KR KR)
            refine yStep ha 29 KR ?_; intro l_ ha HK
            refine stepp ha 29 (.pointer (some ⟨p0, 0, none⟩)) KR KR ?_; intro ax hax; exact HK _ _ _ hax rfl (Below.refl _ _)
          · skip
            intro a wr hn hd HW hs; have ha := hasNil hn hd
            have ha := ha.add (seeF hs 29 2 (.pointer (some ⟨p0, 0, none⟩)) KR KR)
            refine yStep ha 30 KR ?_; intro l_ ha HK
            refine stepul ha hU0 (Wd.segs (ss := [[(b372, .cells #[.int .i64 a1, .string a2] 51 (0, 0))], U362, F]) (bt := bs) (m := []) (ot := os) [U362, [(b372, .cells #[.int .i64 a1, .string a2] 51 (0, 0))], F] [] HW [1, 0, 2] [] [] KR KR (by decide) KR) 30 (.tmp 29) rfl KR KR ?_; intro ax hax; exact HK _ _ _ hax rfl (Below.refl _ _)
          · skip
            intro a wr hn hd HW hs; have ha := hasNil hn hd
            have ha := ha.add (seeE hs 8 (.pointer (some ⟨b372, 0, none⟩)) KR KR)
            refine yStep ha 31 KR ?_; intro l_ ha HK
            refine stepl ha 31 (HW.ca (i := 0) (b := b372) (C := #[.int .i64 a1, .string a2]) (T := 51) (fr := (0, 0)) KR) 51 0 (.tmp 8) (.agg #[.int .i64 a1, .string a2]) rfl KR KR KR ?_; intro ax hax; exact HK _ _ _ hax rfl (Below.refl _ _)
        · skip
          intro a W386 ha HW he hf
          replace ha := ha.add (he 9 (.slice A377 (uget t360.2 (a1, a2)).length c378) KR KR)
          replace ha := ha.add (gotF (m := 5) (j := 3) (d := 30) (v := umv U362) hf KR KR KR)
          replace ha := ha.add (gotF (m := 5) (j := 4) (d := 31) (v := .agg #[.int .i64 a1, .string a2]) hf KR KR KR)
          clear he hf
          refine stepud ha hU0 (Wd.segs (ss := [[(b372, .cells #[.int .i64 a1, .string a2] 51 (0, 0))], U362, F]) (bt := bs) (m := []) (ot := os) [U362, [(b372, .cells #[.int .i64 a1, .string a2] 51 (0, 0))], F] [] HW [1, 0, 2] [] [] KR KR (by decide) KR) (.tmp 30) (.tmp 31) (a1, a2) rfl KR KR KR ?_; clear ha HW a
          intro U387 a W388 hU389 HW ha; clear hU0
          replace HW : Wd w W388 ((b372, .cells #[.int .i64 a1, .string a2] 51 (0, 0)) :: U387 ++ (F ++ bs)) (os) := Wd.segs (ss := [U387, [(b372, .cells #[.int .i64 a1, .string a2] 51 (0, 0))], F]) (bt := bs) (m := []) (ot := os) [[(b372, .cells #[.int .i64 a1, .string a2] 51 (0, 0))], U387, F] [] HW [1, 0, 2] [] [] KR KR (by decide) KR
          refine endl ?_
          refine thenN (hK382 _ _ ?_); clear hK382
          refine wp_seq_k (fun K400 hK401 => ?_)
          refine wp_region_lit ?_
          refine stepp ha 39 (.slice A377 (uget t360.2 (a1, a2)).length c378) KR KR ?_; clear ha a; intro a ha
          obtain ⟨hA402, h_⟩ := asrt_some h; clear h; have h := h_; clear h_
          refine stepie (encIK .i64) (0 : Int) ha 40 (fun _ => rfl) (v := .slice A377 (uget t360.2 (a1, a2)).length c378) (xs := uget t360.2 (a1, a2)) ((hr379.rd HW (mem_flat (ss := [[(b372, .cells #[.int .i64 a1, .string a2] 51 (0, 0))], U387, F]) (bt := bs) 2 rfl))) 34 3 (.tmp 39) (.const (.int .i64 0)) .i64 0 rfl KR KR KR KR (by decide) (show (0 : Int) < ((uget t360.2 (a1, a2)).length : Int) from hA402) KR ?_; clear ha a; intro b403 off404 a hC405 ha
          refine stepl ha 41 hC405 3 0 (.tmp 40) (.int .i64 (rdL (0 : Int) (uget t360.2 (a1, a2)) 0)) rfl KR KR KR ?_; clear ha a; intro a ha
          refine stepp ha 6 (.int .i64 (rdL (0 : Int) (uget t360.2 (a1, a2)) 0)) KR KR ?_; clear ha a; intro a ha
          refine stepp ha 7 (.bool true) KR KR ?_; clear ha a; intro a ha
          refine endl ?_
          refine thenN (hK401 _ _ ?_); clear hK401
          refine wp_ret ?_
          obtain rfl := Option.some.inj h
          exact finv ha _ _ rfl (.tmp (v := .int .i64 (rdL (0 : Int) (uget t360.2 (a1, a2)) 0)) KR (.tmp (v := .bool true) KR .nil)) (.tuple #[.int .i64 (rdL (0 : Int) (uget t360.2 (a1, a2)) 0), .bool true]) rfl ⟨U387, rfl, hU389, (Wd.segs (ss := [[(b372, .cells #[.int .i64 a1, .string a2] 51 (0, 0))], U387, F]) (bt := bs) (m := []) (ot := os) [U387, F] [] HW [1, 2] [0] [] KR KR (by decide) KR)⟩
      · skip
        replace h := ite_neg' h hp385
        refine condF ha KR KR (t := (((uget t360.2 (a1, a2)).length : Int) == 1)) (ieq_f hp385) ?_
        obtain ⟨hA390, h_⟩ := asrt_some h; clear h; have h := h_; clear h_
        refine regionG 7 KR KR ha HW [.fix (.pointer (some ⟨p0, 0, none⟩)), .fix (.pointer (some ⟨p0, 0, none⟩)), .fix (.pointer (some ⟨p0, 0, none⟩)), .fix (umv U362), .fix (.agg #[.int .i64 a1, .string a2]), .fix (.slice A377 (uget t360.2 (a1, a2)).length c378), (.pr (fun v_ => ∃ A_ c_, v_ = .slice A_ ((uget t360.2 (a1, a2)).drop (1 : Int).toNat).length c_ ∧ RdF w F 1 v_ ((uget t360.2 (a1, a2)).drop (1 : Int).toNat).length (encs (encIK .i64) ((uget t360.2 (a1, a2)).drop (1 : Int).toNat))))] ?_ ?_
        · skip
          refine ⟨?_, ?_, ?_, ?_, ?_, ?_, ?_, trivial⟩
          · skip
            intro a wr hn hd HW hs; have ha := hasNil hn hd
            have ha := ha.add (seeE hs 0 (.pointer (some ⟨p0, 0, none⟩)) KR KR)
            refine yStep ha 32 KR ?_; intro l_ ha HK
            refine stepp ha 32 (.pointer (some ⟨p0, 0, none⟩)) KR KR ?_; intro ax hax; exact HK _ _ _ hax rfl (Below.refl _ _)
          · skip
            intro a wr hn hd HW hs; have ha := hasNil hn hd
            have ha := ha.add (seeF hs 32 0 (.pointer (some ⟨p0, 0, none⟩)) KR KR)
            refine yStep ha 33 KR ?_; intro l_ ha HK
            refine stepp ha 33 (.pointer (some ⟨p0, 0, none⟩)) KR KR ?_; intro ax hax; exact HK _ _ _ hax rfl (Below.refl _ _)
          · skip
            intro a wr hn hd HW hs; have ha := hasNil hn hd
            have ha := ha.add (seeF hs 33 1 (.pointer (some ⟨p0, 0, none⟩)) KR KR)
            refine yStep ha 34 KR ?_; intro l_ ha HK
            refine stepp ha 34 (.pointer (some ⟨p0, 0, none⟩)) KR KR ?_; intro ax hax; exact HK _ _ _ hax rfl (Below.refl _ _)
          · skip
            intro a wr hn hd HW hs; have ha := hasNil hn hd
            have ha := ha.add (seeF hs 34 2 (.pointer (some ⟨p0, 0, none⟩)) KR KR)
            refine yStep ha 35 KR ?_; intro l_ ha HK
            refine stepul ha hU0 (Wd.segs (ss := [[(b372, .cells #[.int .i64 a1, .string a2] 51 (0, 0))], U362, F]) (bt := bs) (m := []) (ot := os) [U362, [(b372, .cells #[.int .i64 a1, .string a2] 51 (0, 0))], F] [] HW [1, 0, 2] [] [] KR KR (by decide) KR) 35 (.tmp 34) rfl KR KR ?_; intro ax hax; exact HK _ _ _ hax rfl (Below.refl _ _)
          · skip
            intro a wr hn hd HW hs; have ha := hasNil hn hd
            have ha := ha.add (seeE hs 8 (.pointer (some ⟨b372, 0, none⟩)) KR KR)
            refine yStep ha 36 KR ?_; intro l_ ha HK
            refine stepl ha 36 (HW.ca (i := 0) (b := b372) (C := #[.int .i64 a1, .string a2]) (T := 51) (fr := (0, 0)) KR) 51 0 (.tmp 8) (.agg #[.int .i64 a1, .string a2]) rfl KR KR KR ?_; intro ax hax; exact HK _ _ _ hax rfl (Below.refl _ _)
          · skip
            intro a wr hn hd HW hs; have ha := hasNil hn hd
            have ha := ha.add (seeE hs 9 (.slice A377 (uget t360.2 (a1, a2)).length c378) KR KR)
            refine yStep ha 37 KR ?_; intro l_ ha HK
            refine stepp ha 37 (.slice A377 (uget t360.2 (a1, a2)).length c378) KR KR ?_; intro ax hax; exact HK _ _ _ hax rfl (Below.refl _ _)
          · skip
            intro a wr hn hd HW hs; have ha := hasNil hn hd
            have ha := ha.add (seeF hs 37 5 (.slice A377 (uget t360.2 (a1, a2)).length c378) KR KR)
            refine yStep ha 38 KR ?_; intro l_ ha HK
            refine stepslo (encIK .i64) ha 38 34 3 1 (fun _ => rfl) (.tmp 37) (.const (.int .i64 1)) .i64 1 (A := A377) (c := c378) (uget t360.2 (a1, a2)) rfl KR KR KR KR (Rd.cap ((hr379.rd HW (mem_flat (ss := [[(b372, .cells #[.int .i64 a1, .string a2] 51 (0, 0))], U362, F]) (bt := bs) 2 rfl)))) (by decide) (show (1 : Int) ≤ ((uget t360.2 (a1, a2)).length : Int) from hA390) KR ?_; intro A391 c392 ax hT393 hax
            exact HK _ _ _ hax ⟨A391, c392, rfl, fun W_ bs_ os_ h1_ h2_ => hT393 _ (hr379 W_ bs_ os_ h1_ h2_)⟩ (Below.refl _ _)
        · skip
          intro a W395 ha HW he hf
          replace ha := ha.add (he 9 (.slice A377 (uget t360.2 (a1, a2)).length c378) KR KR)
          replace ha := ha.add (gotF (m := 7) (j := 3) (d := 35) (v := umv U362) hf KR KR KR)
          replace ha := ha.add (gotF (m := 7) (j := 4) (d := 36) (v := .agg #[.int .i64 a1, .string a2]) hf KR KR KR)
          obtain ⟨_, he_, A391, c392, rfl, hr394⟩ := gotK (m := 7) (j := 6) (d := 38) (f := (.pr (fun v_ => ∃ A_ c_, v_ = .slice A_ ((uget t360.2 (a1, a2)).drop (1 : Int).toNat).length c_ ∧ RdF w F 1 v_ ((uget t360.2 (a1, a2)).drop (1 : Int).toNat).length (encs (encIK .i64) ((uget t360.2 (a1, a2)).drop (1 : Int).toNat))))) hf KR KR KR; replace ha := ha.add he_; clear he_
          clear he hf
          obtain ⟨hA396, h_⟩ := asrt_some h; clear h; have h := h_; clear h_
          refine stepuu ha hU0 hA396 (Wd.segs (ss := [[(b372, .cells #[.int .i64 a1, .string a2] 51 (0, 0))], U362, F]) (bt := bs) (m := []) (ot := os) [U362, [(b372, .cells #[.int .i64 a1, .string a2] 51 (0, 0))], F] [] HW [1, 0, 2] [] [] KR KR (by decide) KR) (.tmp 35) (.tmp 36) (.tmp 38) (a1, a2) A391 c392 ((uget t360.2 (a1, a2)).drop (1 : Int).toNat) rfl KR KR KR hr394 KR ?_; clear ha HW a
          intro U397 a W398 hU399 HW ha; clear hU0
          replace HW : Wd w W398 ((b372, .cells #[.int .i64 a1, .string a2] 51 (0, 0)) :: U397 ++ (F ++ bs)) (os) := Wd.segs (ss := [U397, [(b372, .cells #[.int .i64 a1, .string a2] 51 (0, 0))], F]) (bt := bs) (m := []) (ot := os) [[(b372, .cells #[.int .i64 a1, .string a2] 51 (0, 0))], U397, F] [] HW [1, 0, 2] [] [] KR KR (by decide) KR
          refine endl ?_
          refine thenN (hK382 _ _ ?_); clear hK382
          refine wp_seq_k (fun K406 hK407 => ?_)
          refine wp_region_lit ?_
          refine stepp ha 39 (.slice A377 (uget t360.2 (a1, a2)).length c378) KR KR ?_; clear ha a; intro a ha
          obtain ⟨hA408, h_⟩ := asrt_some h; clear h; have h := h_; clear h_
          refine stepie (encIK .i64) (0 : Int) ha 40 (fun _ => rfl) (v := .slice A377 (uget t360.2 (a1, a2)).length c378) (xs := uget t360.2 (a1, a2)) ((hr379.rd HW (mem_flat (ss := [[(b372, .cells #[.int .i64 a1, .string a2] 51 (0, 0))], U397, F]) (bt := bs) 2 rfl))) 34 3 (.tmp 39) (.const (.int .i64 0)) .i64 0 rfl KR KR KR KR (by decide) (show (0 : Int) < ((uget t360.2 (a1, a2)).length : Int) from hA408) KR ?_; clear ha a; intro b409 off410 a hC411 ha
          refine stepl ha 41 hC411 3 0 (.tmp 40) (.int .i64 (rdL (0 : Int) (uget t360.2 (a1, a2)) 0)) rfl KR KR KR ?_; clear ha a; intro a ha
          refine stepp ha 6 (.int .i64 (rdL (0 : Int) (uget t360.2 (a1, a2)) 0)) KR KR ?_; clear ha a; intro a ha
          refine stepp ha 7 (.bool true) KR KR ?_; clear ha a; intro a ha
          refine endl ?_
          refine thenN (hK407 _ _ ?_); clear hK407
          refine wp_ret ?_
          obtain rfl := Option.some.inj h
          exact finv ha _ _ rfl (.tmp (v := .int .i64 (rdL (0 : Int) (uget t360.2 (a1, a2)) 0)) KR (.tmp (v := .bool true) KR .nil)) (.tuple #[.int .i64 (rdL (0 : Int) (uget t360.2 (a1, a2)) 0), .bool true]) rfl ⟨U397, rfl, hU399, (Wd.segs (ss := [[(b372, .cells #[.int .i64 a1, .string a2] 51 (0, 0))], U397, F]) (bt := bs) (m := []) (ot := os) [U397, F] [] HW [1, 2] [0] [] KR KR (by decide) KR)⟩
/-! ### (*headgate/units.Units).Forget: function 11 -/
def units_Units_Forget.b0 (K : Nat) (a1 : ByteArray) (again527 : Int → UMap → Option UMap) (x528 : Int) (x529 : UMap) : Option UMap :=
  if x528 < 8 then (again527 (IntKind.wrap .i64 (x528 + 1)) (udel x529 (x528, a1))) else (some x529)
def units_Units_Forget.l0 (K : Nat) (a1 : ByteArray) : Nat → Int → UMap → Option UMap
  | 0, _, _ => none
  | k_ + 1, x528, x529 => units_Units_Forget.b0 K a1 (units_Units_Forget.l0 K a1 k_) x528 x529
def units_Units_Forget.f (K : Nat) (a0 : UMap) (a1 : ByteArray) : Option UMap :=
  units_Units_Forget.l0 K a1 K 0 a0
set_option maxRecDepth 100000 in
set_option maxHeartbeats 4000000 in
theorem units_Units_Forget.calls (K : Nat) (a0 : UMap) (a1 : ByteArray) (p0 : Nat) (U0 : Blks)  (r : UMap) (w w1 : World) (F bs : Blks) (os : List OwnA) (hU0 : UAt w F p0 a0 U0) (HW : Wd w w1 (U0 ++ (F ++ bs)) os) (h : units_Units_Forget.f K a0 a1 = some r) :
    Calls Try.prog 11 #[.pointer (some ⟨p0, 0, none⟩), .string a1] w1 (fun e W' => ∃ U0' : Blks, e = .returned (.tuple #[]) ∧ UAt w F p0 r U0' ∧ Wd w W' (U0' ++ (F ++ bs)) (os)) := by
  refine sxstart (n := 18) (l := [(0, .pointer (some ⟨p0, 0, none⟩)), (1, .string a1)]) Try.func11 rfl rfl (Nat.le_of_ble_eq_true KR) (subsA_cons rfl (subsA_cons rfl (subsA_nil _))) ?_
  intro a ha
  replace HW : Wd w w1 (U0 ++ (F ++ bs)) (os) := HW
  unfold units_Units_Forget.f at h
  refine wp_seq_k (fun K492 hK493 => ?_)
  refine wp_seq_k (fun K494 hK495 => ?_)
  refine wp_region_lit ?_
  refine stepp ha 5 (.pointer (some ⟨p0, 0, none⟩)) KR KR ?_; clear ha a; intro a ha
  refine stepp ha 6 (.bool false) KR KR ?_; clear ha a; intro a ha
  refine endl ?_
  refine thenN (hK495 _ _ ?_); clear hK495
  refine condF ha KR KR (t := false) (rfl) ?_
  refine wp_skip ?_
  refine thenN (hK493 _ _ ?_); clear hK493
  refine wp_seq_k (fun K496 hK497 => ?_)
  refine wp_region_lit ?_
  refine stepp ha 7 (.int .i64 0) KR KR ?_; clear ha a; intro a ha
  refine endl ?_
  refine thenN (hK497 _ _ ?_); clear hK497
  refine wp_block ?_
  refine loopk (fun k => fun a W532 => ∃ (x528 : Int), ∃ (x529 : UMap), ∃ (U530 : Blks), units_Units_Forget.l0 K a1 k x528 x529 = some r ∧ Has 18 [(0, .pointer (some ⟨p0, 0, none⟩)), (1, .string a1), (7, .int .i64 x528)] a ∧ Wd w W532 (U530 ++ (F ++ bs)) (os) ∧ UAt w F p0 x529 U530) K ?_ ?_
  · skip
    exact ⟨0, a0, U0, h, ha.sub (subs_cons KR (subs_cons KR (subs_cons KR (subs_nil _)))), (Wd.segs (ss := [U0, F]) (bt := bs) (m := []) (ot := os) [U0, F] [] HW [0, 1] [] [] KR KR (by decide) KR), hU0⟩
  · skip
    intro k a W532 hI
    obtain ⟨x528, x529, U530, h, ha, HW, hU531⟩ := hI
    cases k with
    | zero => exact (none_some (show none = some r from h)).elim
    | succ k533 =>
      replace h : units_Units_Forget.b0 K a1 (units_Units_Forget.l0 K a1 k533) x528 x529 = some r := h
      obtain ⟨again527, hag534⟩ : ∃ g_, g_ = units_Units_Forget.l0 K a1 k533 := ⟨_, rfl⟩
      rw [← hag534] at h
      unfold units_Units_Forget.b0 at h
      refine wp_seq_k (fun K535 hK536 => ?_)
      refine wp_region_lit ?_
      refine stepp ha 8 (.bool (decide (x528 < 8))) KR KR ?_; clear ha a; intro a ha
      refine endl ?_
      refine thenN (hK536 _ _ ?_); clear hK536
      refine wp_seq_k (fun K537 hK538 => ?_)
      by_cases hp539 : x528 < 8
      · skip
        replace h := ite_pos' h hp539
        refine condT ha KR KR (t := decide (x528 < 8)) (decide_eq_true hp539) ?_
        refine wp_skip ?_
        refine thenN (hK538 _ _ ?_); clear hK538
        refine wp_seq_k (fun K540 hK541 => ?_)
        refine wp_block ?_
        refine wp_seq_k (fun K542 hK543 => ?_)
        refine wp_region_lit ?_
        refine stepp ha 9 (.int .i64 x528) KR KR ?_; clear ha a; intro a ha
        refine stepp ha 4 (.int .i64 x528) KR KR ?_; clear ha a; intro a ha
        refine endl ?_
        refine thenN (hK543 _ _ ?_); clear hK543
        refine wp_region_lit ?_
        refine stepp ha 10 (.pointer (some ⟨p0, 0, none⟩)) KR KR ?_; clear ha a; intro a ha
        refine stepp ha 11 (.pointer (some ⟨p0, 0, none⟩)) KR KR ?_; clear ha a; intro a ha
        refine stepp ha 12 (.pointer (some ⟨p0, 0, none⟩)) KR KR ?_; clear ha a; intro a ha
        refine stepul ha hU531 (Wd.segs (ss := [U530, F]) (bt := bs) (m := []) (ot := os) [U530, F] [] HW [0, 1] [] [] KR KR (by decide) KR) 13 (.tmp 12) rfl KR KR ?_; clear ha a; intro a ha
        refine stepp ha 14 (.int .i64 x528) KR KR ?_; clear ha a; intro a ha
        refine stepp ha 15 (.string a1) KR KR ?_; clear ha a; intro a ha
        refine stepp ha 16 (.agg #[.int .i64 x528, .string a1]) KR KR ?_; clear ha a; intro a ha
        refine stepud ha hU531 (Wd.segs (ss := [U530, F]) (bt := bs) (m := []) (ot := os) [U530, F] [] HW [0, 1] [] [] KR KR (by decide) KR) (.tmp 13) (.tmp 16) (x528, a1) rfl KR KR KR ?_; clear ha HW a
        intro U544 a W545 hU546 HW ha; clear hU531
        replace HW : Wd w W545 (U544 ++ (F ++ bs)) (os) := Wd.segs (ss := [U544, F]) (bt := bs) (m := []) (ot := os) [U544, F] [] HW [0, 1] [] [] KR KR (by decide) KR
        refine endl ?_
        refine blkN ?_
        refine thenN (hK541 _ _ ?_); clear hK541
        refine wp_region_lit ?_
        refine stepp ha 17 (.int .i64 (IntKind.wrap .i64 (x528 + 1))) KR KR ?_; clear ha a; intro a ha
        refine stepp ha 7 (.int .i64 (IntKind.wrap .i64 (x528 + 1))) KR KR ?_; clear ha a; intro a ha
        refine endl ?_
        exact thenN ⟨k533, Nat.lt_succ_self k533, IntKind.wrap .i64 (x528 + 1), udel x529 (x528, a1), U544, (by rw [← hag534]; exact h), ha.sub (subs_cons KR (subs_cons KR (subs_cons KR (subs_nil _)))), (Wd.segs (ss := [U544, F]) (bt := bs) (m := []) (ot := os) [U544, F] [] HW [0, 1] [] [] KR KR (by decide) KR), hU546⟩
      · skip
        replace h := ite_neg' h hp539
        refine condF ha KR KR (t := decide (x528 < 8)) (decide_eq_false hp539) ?_
        refine wp_exit ?_
        refine thenE ?_
        refine thenE ?_
        refine inBlk ?_
        obtain rfl := Option.some.inj h
        exact finn ha [] [] rfl .nil (.tuple #[]) rfl ⟨U530, rfl, hU531, (Wd.segs (ss := [U530, F]) (bt := bs) (m := []) (ot := os) [U530, F] [] HW [0, 1] [] [] KR KR (by decide) KR)⟩
end Go.Proofs.Ytdcojinnjpihaaa.F
