/- headgate/headgateref01.Set, headgate/headgateref01.Put, headgate/headgateref17.put, headgate/headgateref17.Page, headgate/headgatelaw17.InquiryPages: plain functions, and that the calls come to what they say. No condition. -/
import Derived.Test.YtccmdlbdpapigaaFT
import Derived.Test.YtccmdlbdpapigaaF22
import Derived.Test.YtccmdlbdpapigaaF27
import Derived.Test.YtccmdlbdpapigaaF36
namespace Go.Proofs.Ytccmdlbdpapigaa.F
open Go Go.RowKit Go.Proofs.Ytccmdlbdpapigaa.X
set_option linter.unusedVariables false
set_option linter.unusedSimpArgs false
/-! ### headgate/headgateref01.Set: function 43 -/
def headgateref01_Set.f (a0 : ByteArray) (a1 : Int) (a2 : ByteArray) : Option (ByteArray × Bool) :=
  (headgateref01_there.f a0 a1 (a2.size : Int)).bind fun t591 => (if t591 = true then (asrt (0 ≤ a1) (asrt (a1 ≤ (a0.size : Int)) (asrt ((a0.extract 0 (a1 : Int).toNat).size + a2.size ≤ 9223372036854775807) (asrt (0 ≤ (IntKind.wrap .i64 (a1 + (a2.size : Int)))) (asrt ((IntKind.wrap .i64 (a1 + (a2.size : Int))) ≤ (a0.size : Int)) (asrt (((a0.extract 0 (a1 : Int).toNat) ++ a2).size + (a0.extract (IntKind.wrap .i64 (a1 + (a2.size : Int)) : Int).toNat (a0).size).size ≤ 9223372036854775807) (some (((a0.extract 0 (a1 : Int).toNat) ++ a2) ++ (a0.extract (IntKind.wrap .i64 (a1 + (a2.size : Int)) : Int).toNat (a0).size), true)))))))) else (some ((⟨#[]⟩ : ByteArray), false)))
set_option maxRecDepth 100000 in
set_option maxHeartbeats 4000000 in
theorem headgateref01_Set.calls (a0 : ByteArray) (a1 : Int) (a2 : ByteArray)  (r : ByteArray × Bool) (w : World)  (h : headgateref01_Set.f a0 a1 a2 = some r) :
    Calls Try.prog 43 #[.string a0, .int .i64 a1, .string a2] w (fun e W' => e = .returned (.tuple #[.string r.1, .bool r.2]) ∧ Wd w W' [] [] ) := by
  refine sxstart (n := 26) (l := [(0, .string a0), (1, .int .i64 a1), (2, .string a2)]) Try.func43 rfl rfl (Nat.le_of_ble_eq_true KR) (subsA_cons rfl (subsA_cons rfl (subsA_cons rfl (subsA_nil _)))) ?_
  intro a ha
  have HW := Wd.refl w
  unfold headgateref01_Set.f at h
  refine wp_seq_k (fun K585 hK586 => ?_)
  refine wp_region_lit ?_
  refine stepp ha 6 (.string (⟨#[]⟩ : ByteArray)) KR KR ?_; clear ha a; intro a ha
  refine stepp ha 7 (.bool false) KR KR ?_; clear ha a; intro a ha
  refine endl ?_
  refine thenN (hK586 _ _ ?_); clear hK586
  refine wp_seq_k (fun K587 hK588 => ?_)
  refine wp_seq_k (fun K589 hK590 => ?_)
  refine wp_region_lit ?_
  refine stepp ha 8 (.string a0) KR KR ?_; clear ha a; intro a ha
  refine stepp ha 9 (.int .i64 a1) KR KR ?_; clear ha a; intro a ha
  refine stepp ha 10 (.string a2) KR KR ?_; clear ha a; intro a ha
  refine stepp ha 11 (.int .i64 (a2.size : Int)) KR KR ?_; clear ha a; intro a ha
  obtain ⟨t591, ht592, h_⟩ := bind_some' h; clear h; have h := h_; clear h_
  refine stepc ha 12 KR KR (headgateref01_there.calls a0 a1 (a2.size : Int) t591 _ ht592) ?_; clear ha a; rintro e W593 ⟨rfl, HX594⟩
  refine ⟨_, rfl, ?_⟩; intro a ha; replace HW := HW.callw HX594; clear HX594
  refine stepp ha 13 (.bool (!t591)) KR KR ?_; clear ha a; intro a ha
  refine endl ?_
  refine thenN (hK590 _ _ ?_); clear hK590
  by_cases hp595 : t591 = true
  · skip
    replace h := ite_pos' h hp595
    refine condF ha KR KR (t := (!t591)) (not_f (hp595)) ?_
    refine wp_skip ?_
    refine thenN (hK588 _ _ ?_); clear hK588
    refine wp_seq_k (fun K598 hK599 => ?_)
    obtain ⟨hA600, h_⟩ := asrt_some h; clear h; have h := h_; clear h_
    obtain ⟨hA601, h_⟩ := asrt_some h; clear h; have h := h_; clear h_
    obtain ⟨hA602, h_⟩ := asrt_some h; clear h; have h := h_; clear h_
    obtain ⟨hA603, h_⟩ := asrt_some h; clear h; have h := h_; clear h_
    obtain ⟨hA604, h_⟩ := asrt_some h; clear h; have h := h_; clear h_
    obtain ⟨hA605, h_⟩ := asrt_some h; clear h; have h := h_; clear h_
    refine regionG 12 KR KR ha HW [.fix (.string a0), .fix (.int .i64 a1), .fix (.string (a0.extract 0 (a1 : Int).toNat)), .fix (.string a2), .fix (.string ((a0.extract 0 (a1 : Int).toNat) ++ a2)), .fix (.string a0), .fix (.int .i64 a1), .fix (.string a2), .fix (.int .i64 (a2.size : Int)), .fix (.int .i64 (IntKind.wrap .i64 (a1 + (a2.size : Int)))), .fix (.string (a0.extract (IntKind.wrap .i64 (a1 + (a2.size : Int)) : Int).toNat (a0).size)), .fix (.string (((a0.extract 0 (a1 : Int).toNat) ++ a2) ++ (a0.extract (IntKind.wrap .i64 (a1 + (a2.size : Int)) : Int).toNat (a0).size)))] ?_ ?_
    · skip
      refine ⟨?_, ?_, ?_, ?_, ?_, ?_, ?_, ?_, ?_, ?_, ?_, ?_, trivial⟩
      · skip
        intro a wr hn hd HW hs; have ha := hasNil hn hd
        have ha := ha.add (seeE hs 0 (.string a0) KR KR)
        refine yStep ha 14 KR ?_; intro l_ ha HK
        refine stepp ha 14 (.string a0) KR KR ?_; intro ax hax; exact HK _ _ _ hax rfl (Below.refl _ _)
      · skip
        intro a wr hn hd HW hs; have ha := hasNil hn hd
        have ha := ha.add (seeE hs 1 (.int .i64 a1) KR KR)
        refine yStep ha 15 KR ?_; intro l_ ha HK
        refine stepp ha 15 (.int .i64 a1) KR KR ?_; intro ax hax; exact HK _ _ _ hax rfl (Below.refl _ _)
      · skip
        intro a wr hn hd HW hs; have ha := hasNil hn hd
        have ha := ha.add (seeF hs 14 0 (.string a0) KR KR)
        have ha := ha.add (seeF hs 15 1 (.int .i64 a1) KR KR)
        refine yStep ha 16 KR ?_; intro l_ ha HK
        refine stepssh ha 16 9 (.tmp 14) (.tmp 15) a0 .i64 a1 rfl KR KR KR hA600 (show (a1 : Int) ≤ ((a0).size : Int) from hA601) KR ?_; intro ax hax; exact HK _ _ _ hax rfl (Below.refl _ _)
      · skip
        intro a wr hn hd HW hs; have ha := hasNil hn hd
        have ha := ha.add (seeE hs 2 (.string a2) KR KR)
        refine yStep ha 17 KR ?_; intro l_ ha HK
        refine stepp ha 17 (.string a2) KR KR ?_; intro ax hax; exact HK _ _ _ hax rfl (Below.refl _ _)
      · skip
        intro a wr hn hd HW hs; have ha := hasNil hn hd
        have ha := ha.add (seeF hs 16 2 (.string (a0.extract 0 (a1 : Int).toNat)) KR KR)
        have ha := ha.add (seeF hs 17 3 (.string a2) KR KR)
        refine yStep ha 18 KR ?_; intro l_ ha HK
        refine stepsa ha 18 9 9 (.tmp 16) (.tmp 17) (a0.extract 0 (a1 : Int).toNat) a2 rfl KR KR (show (a0.extract 0 (a1 : Int).toNat).size + (a2).size ≤ 9223372036854775807 from hA602) KR ?_; intro ax hax; exact HK _ _ _ hax rfl (Below.refl _ _)
      · skip
        intro a wr hn hd HW hs; have ha := hasNil hn hd
        have ha := ha.add (seeE hs 0 (.string a0) KR KR)
        refine yStep ha 19 KR ?_; intro l_ ha HK
        refine stepp ha 19 (.string a0) KR KR ?_; intro ax hax; exact HK _ _ _ hax rfl (Below.refl _ _)
      · skip
        intro a wr hn hd HW hs; have ha := hasNil hn hd
        have ha := ha.add (seeE hs 1 (.int .i64 a1) KR KR)
        refine yStep ha 20 KR ?_; intro l_ ha HK
        refine stepp ha 20 (.int .i64 a1) KR KR ?_; intro ax hax; exact HK _ _ _ hax rfl (Below.refl _ _)
      · skip
        intro a wr hn hd HW hs; have ha := hasNil hn hd
        have ha := ha.add (seeE hs 2 (.string a2) KR KR)
        refine yStep ha 21 KR ?_; intro l_ ha HK
        refine stepp ha 21 (.string a2) KR KR ?_; intro ax hax; exact HK _ _ _ hax rfl (Below.refl _ _)
      · skip
        intro a wr hn hd HW hs; have ha := hasNil hn hd
        have ha := ha.add (seeF hs 21 7 (.string a2) KR KR)
        refine yStep ha 22 KR ?_; intro l_ ha HK
        refine stepp ha 22 (.int .i64 (a2.size : Int)) KR KR ?_; intro ax hax; exact HK _ _ _ hax rfl (Below.refl _ _)
      · skip
        intro a wr hn hd HW hs; have ha := hasNil hn hd
        have ha := ha.add (seeF hs 20 6 (.int .i64 a1) KR KR)
        have ha := ha.add (seeF hs 22 8 (.int .i64 (a2.size : Int)) KR KR)
        refine yStep ha 23 KR ?_; intro l_ ha HK
        refine stepp ha 23 (.int .i64 (IntKind.wrap .i64 (a1 + (a2.size : Int)))) KR KR ?_; intro ax hax; exact HK _ _ _ hax rfl (Below.refl _ _)
      · skip
        intro a wr hn hd HW hs; have ha := hasNil hn hd
        have ha := ha.add (seeF hs 19 5 (.string a0) KR KR)
        have ha := ha.add (seeF hs 23 9 (.int .i64 (IntKind.wrap .i64 (a1 + (a2.size : Int)))) KR KR)
        refine yStep ha 24 KR ?_; intro l_ ha HK
        refine stepssl ha 24 9 (.tmp 19) (.tmp 23) a0 .i64 (IntKind.wrap .i64 (a1 + (a2.size : Int))) rfl KR KR KR hA603 (show (IntKind.wrap .i64 (a1 + (a2.size : Int)) : Int) ≤ ((a0).size : Int) from hA604) KR ?_; intro ax hax; exact HK _ _ _ hax rfl (Below.refl _ _)
      · skip
        intro a wr hn hd HW hs; have ha := hasNil hn hd
        have ha := ha.add (seeF hs 18 4 (.string ((a0.extract 0 (a1 : Int).toNat) ++ a2)) KR KR)
        have ha := ha.add (seeF hs 24 10 (.string (a0.extract (IntKind.wrap .i64 (a1 + (a2.size : Int)) : Int).toNat (a0).size)) KR KR)
        refine yStep ha 25 KR ?_; intro l_ ha HK
        refine stepsa ha 25 9 9 (.tmp 18) (.tmp 24) ((a0.extract 0 (a1 : Int).toNat) ++ a2) (a0.extract (IntKind.wrap .i64 (a1 + (a2.size : Int)) : Int).toNat (a0).size) rfl KR KR (show ((a0.extract 0 (a1 : Int).toNat) ++ a2).size + (a0.extract (IntKind.wrap .i64 (a1 + (a2.size : Int)) : Int).toNat (a0).size).size ≤ 9223372036854775807 from hA605) KR ?_; intro ax hax; exact HK _ _ _ hax rfl (Below.refl _ _)
    · skip
      intro a W606 ha HW he hf
      replace ha := ha.add (gotF (m := 12) (j := 11) (d := 25) (v := .string (((a0.extract 0 (a1 : Int).toNat) ++ a2) ++ (a0.extract (IntKind.wrap .i64 (a1 + (a2.size : Int)) : Int).toNat (a0).size))) hf KR KR KR)
      clear he hf
      refine stepp ha 6 (.string (((a0.extract 0 (a1 : Int).toNat) ++ a2) ++ (a0.extract (IntKind.wrap .i64 (a1 + (a2.size : Int)) : Int).toNat (a0).size))) KR KR ?_; clear ha a; intro a ha
      refine stepp ha 7 (.bool true) KR KR ?_; clear ha a; intro a ha
      refine endl ?_
      refine thenN (hK599 _ _ ?_); clear hK599
      refine wp_ret ?_
      obtain rfl := Option.some.inj h
      exact finv ha _ _ rfl (.tmp (v := .string (((a0.extract 0 (a1 : Int).toNat) ++ a2) ++ (a0.extract (IntKind.wrap .i64 (a1 + (a2.size : Int)) : Int).toNat (a0).size))) KR (.tmp (v := .bool true) KR .nil)) (.tuple #[.string (((a0.extract 0 (a1 : Int).toNat) ++ a2) ++ (a0.extract (IntKind.wrap .i64 (a1 + (a2.size : Int)) : Int).toNat (a0).size)), .bool true]) rfl ⟨rfl, HW.pick [] [] (by decide) (by decide) rfl KR⟩
  · skip
    replace h := ite_neg' h hp595
    refine condT ha KR KR (t := (!t591)) (not_t (bool_f hp595)) ?_
    refine wp_seq_k (fun K596 hK597 => ?_)
    refine wp_region_lit ?_
    refine stepp ha 6 (.string (⟨#[]⟩ : ByteArray)) KR KR ?_; clear ha a; intro a ha
    refine stepp ha 7 (.bool false) KR KR ?_; clear ha a; intro a ha
    refine endl ?_
    refine thenN (hK597 _ _ ?_); clear hK597
    refine wp_ret ?_
    refine thenR ?_
    obtain rfl := Option.some.inj h
    exact finv ha _ _ rfl (.tmp (v := .string (⟨#[]⟩ : ByteArray)) KR (.tmp (v := .bool false) KR .nil)) (.tuple #[.string (⟨#[]⟩ : ByteArray), .bool false]) rfl ⟨rfl, HW.pick [] [] (by decide) (by decide) rfl KR⟩
/-! ### headgate/headgateref01.Put: function 33 -/
def headgateref01_Put.f (a0 : ByteArray) (a1 : Int) (a2 : ByteArray) : Option ByteArray :=
  (headgateref01_Set.f a0 a1 a2).bind fun t611 => (some t611.1)
set_option maxRecDepth 100000 in
set_option maxHeartbeats 4000000 in
theorem headgateref01_Put.calls (a0 : ByteArray) (a1 : Int) (a2 : ByteArray)  (r : ByteArray) (w : World)  (h : headgateref01_Put.f a0 a1 a2 = some r) :
    Calls Try.prog 33 #[.string a0, .int .i64 a1, .string a2] w (fun e W' => e = .returned (.string r) ∧ Wd w W' [] [] ) := by
  refine sxstart (n := 17) (l := [(0, .string a0), (1, .int .i64 a1), (2, .string a2)]) Try.func33 rfl rfl (Nat.le_of_ble_eq_true KR) (subsA_cons rfl (subsA_cons rfl (subsA_cons rfl (subsA_nil _)))) ?_
  intro a ha
  have HW := Wd.refl w
  unfold headgateref01_Put.f at h
  refine wp_seq_k (fun K607 hK608 => ?_)
  refine wp_region_lit ?_
  refine stepp ha 6 (.string (⟨#[]⟩ : ByteArray)) KR KR ?_; clear ha a; intro a ha
  refine endl ?_
  refine thenN (hK608 _ _ ?_); clear hK608
  refine wp_seq_k (fun K609 hK610 => ?_)
  refine wp_region_lit ?_
  refine stepp ha 10 (.string a0) KR KR ?_; clear ha a; intro a ha
  refine stepp ha 11 (.int .i64 a1) KR KR ?_; clear ha a; intro a ha
  refine stepp ha 12 (.string a2) KR KR ?_; clear ha a; intro a ha
  obtain ⟨t611, ht612, h_⟩ := bind_some' h; clear h; have h := h_; clear h_
  refine stepc ha 13 KR KR (headgateref01_Set.calls a0 a1 a2 t611 _ ht612) ?_; clear ha a; rintro e W613 ⟨rfl, HX614⟩
  refine ⟨_, rfl, ?_⟩; intro a ha; replace HW := HW.callw HX614; clear HX614
  refine stepp ha 9 (.tuple #[.string t611.1, .bool t611.2]) KR KR ?_; clear ha a; intro a ha
  refine stepp ha 14 (.string t611.1) KR KR ?_; clear ha a; intro a ha
  refine stepp ha 15 (.bool t611.2) KR KR ?_; clear ha a; intro a ha
  refine stepp ha 7 (.string t611.1) KR KR ?_; clear ha a; intro a ha
  refine stepp ha 8 (.bool t611.2) KR KR ?_; clear ha a; intro a ha
  refine endl ?_
  refine thenN (hK610 _ _ ?_); clear hK610
  refine wp_seq_k (fun K615 hK616 => ?_)
  refine wp_region_lit ?_
  refine stepp ha 16 (.string t611.1) KR KR ?_; clear ha a; intro a ha
  refine stepp ha 6 (.string t611.1) KR KR ?_; clear ha a; intro a ha
  refine endl ?_
  refine thenN (hK616 _ _ ?_); clear hK616
  refine wp_ret ?_
  obtain rfl := Option.some.inj h
  exact finv ha _ _ rfl (.tmp (v := .string t611.1) KR .nil) (.string t611.1) rfl ⟨rfl, HW.pick [] [] (by decide) (by decide) rfl KR⟩
/-! ### headgate/headgateref17.put: function 25 -/
def headgateref17_put.f (K : Nat) (a0 : ByteArray) (a1 : Int) (a2 : Int) (a3 : Int) : Option ByteArray :=
  (headgateref01_PutBig.f K (IntKind.wrap .u64 a2) a3).bind fun t621 => ((headgateref01_Put.f a0 a1 t621).bind fun t625 => (some t625))
set_option maxRecDepth 100000 in
set_option maxHeartbeats 4000000 in
theorem headgateref17_put.calls (K : Nat) (a0 : ByteArray) (a1 : Int) (a2 : Int) (a3 : Int)  (r : ByteArray) (w : World)  (h : headgateref17_put.f K a0 a1 a2 a3 = some r) :
    Calls Try.prog 25 #[.string a0, .int .i64 a1, .int .i64 a2, .int .i64 a3] w (fun e W' => e = .returned (.string r) ∧ Wd w W' [] [] ) := by
  refine sxstart (n := 16) (l := [(0, .string a0), (1, .int .i64 a1), (2, .int .i64 a2), (3, .int .i64 a3)]) Try.func25 rfl rfl (Nat.le_of_ble_eq_true KR) (subsA_cons rfl (subsA_cons rfl (subsA_cons rfl (subsA_cons rfl (subsA_nil _))))) ?_
  intro a ha
  have HW := Wd.refl w
  unfold headgateref17_put.f at h
  refine wp_seq_k (fun K617 hK618 => ?_)
  refine wp_region_lit ?_
  refine stepp ha 8 (.string (⟨#[]⟩ : ByteArray)) KR KR ?_; clear ha a; intro a ha
  refine endl ?_
  refine thenN (hK618 _ _ ?_); clear hK618
  refine wp_seq_k (fun K619 hK620 => ?_)
  refine wp_region_lit ?_
  refine stepp ha 9 (.string a0) KR KR ?_; clear ha a; intro a ha
  refine stepp ha 10 (.int .i64 a1) KR KR ?_; clear ha a; intro a ha
  refine stepp ha 11 (.int .i64 a2) KR KR ?_; clear ha a; intro a ha
  refine stepp ha 12 (.int .u64 (IntKind.wrap .u64 a2)) KR KR ?_; clear ha a; intro a ha
  refine stepp ha 13 (.int .i64 a3) KR KR ?_; clear ha a; intro a ha
  obtain ⟨t621, ht622, h_⟩ := bind_some' h; clear h; have h := h_; clear h_
  refine stepc ha 14 KR KR (headgateref01_PutBig.calls K (IntKind.wrap .u64 a2) a3 t621 _ ht622) ?_; clear ha a; rintro e W623 ⟨rfl, HX624⟩
  refine ⟨_, rfl, ?_⟩; intro a ha; replace HW := HW.callw HX624; clear HX624
  obtain ⟨t625, ht626, h_⟩ := bind_some' h; clear h; have h := h_; clear h_
  refine stepc ha 15 KR KR (headgateref01_Put.calls a0 a1 t621 t625 _ ht626) ?_; clear ha a; rintro e W627 ⟨rfl, HX628⟩
  refine ⟨_, rfl, ?_⟩; intro a ha; replace HW := HW.callw HX628; clear HX628
  refine stepp ha 8 (.string t625) KR KR ?_; clear ha a; intro a ha
  refine endl ?_
  refine thenN (hK620 _ _ ?_); clear hK620
  refine wp_ret ?_
  obtain rfl := Option.some.inj h
  exact finv ha _ _ rfl (.tmp (v := .string t625) KR .nil) (.string t625) rfl ⟨rfl, HW.pick [] [] (by decide) (by decide) rfl KR⟩
/-! ### headgate/headgateref17.Page: function 10 -/
def headgateref17_Page.j0 (K : Nat) (a0 : T_api_Unit) (a2 : Int) (x690 : Bool) : Option (ByteArray × Int) :=
  if x690 = true then (asrt (8 + a0.f1.size ≤ 9223372036854775807) (some ((⟨#[0, 131, 0, 20, 1, 1, 0, 16]⟩ : ByteArray) ++ a0.f1, 0))) else (if a2 = 432 then ((headgateref17_zeros.f 64).bind fun t701 => ((headgateref17_put.f K t701 1 176 1).bind fun t705 => ((headgateref17_put.f K t705 3 60 1).bind fun t709 => ((headgateref17_put.f K t709 5 32 1).bind fun t715 => ((headgateref17_put.f K t715 8 64 4).bind fun t719 => ((headgateref17_put.f K t719 20 4096 4).bind fun t723 => ((headgateref17_put.f K t723 24 16 4).bind fun t729 => (some (t729, 0))))))))) else (some ((⟨#[]⟩ : ByteArray), 180)))
def headgateref17_Page.f (K : Nat) (a0 : T_api_Unit) (a1 : Bool) (a2 : Int) : Option (ByteArray × Int) :=
  if a2 = 0 then ((headgateref17_zeros.f 8).bind fun t649 => ((headgateref17_put.f K t649 2 6 1).bind fun t653 => ((headgateref17_put.f K t653 3 2 1).bind fun t657 => ((headgateref17_put.f K t657 4 31 1).bind fun t661 => (asrt (t661.size + 28 ≤ 9223372036854775807) (if a1 = true then (some (t661 ++ (⟨#[72, 69, 65, 68, 71, 65, 84, 69, 66, 76, 79, 67, 75, 32, 85, 78, 73, 84, 32, 32, 32, 32, 32, 32, 48, 48, 48, 49]⟩ : ByteArray), 0)) else ((headgateref17_put.f K (t661 ++ (⟨#[72, 69, 65, 68, 71, 65, 84, 69, 66, 76, 79, 67, 75, 32, 85, 78, 73, 84, 32, 32, 32, 32, 32, 32, 48, 48, 48, 49]⟩ : ByteArray)) 0 127 1).bind fun t671 => (some (t671, 0))))))))) else (if a1 = true then (if a2 = 256 then (some ((⟨#[0, 0, 0, 3, 0, 131, 176]⟩ : ByteArray), 0)) else (if a2 = 387 then (headgateref17_Page.j0 K a0 a2 ((a0.f1.size : Int) == 16)) else (headgateref17_Page.j0 K a0 a2 false))) else (some ((⟨#[]⟩ : ByteArray), 180)))
set_option maxRecDepth 100000 in
set_option maxHeartbeats 4000000 in
theorem headgateref17_Page.calls (K : Nat) (a0 : T_api_Unit) (a1 : Bool) (a2 : Int)  (r : ByteArray × Int) (w : World)  (h : headgateref17_Page.f K a0 a1 a2 = some r) :
    Calls Try.prog 10 #[.agg #[.int .i64 a0.f0, .string a0.f1], .bool a1, .int .i64 a2] w (fun e W' => e = .returned (.tuple #[.string r.1, .int .i64 r.2]) ∧ Wd w W' [] [] ) := by
  refine sxstart (n := 53) (l := [(0, .agg #[.int .i64 a0.f0, .string a0.f1]), (1, .bool a1), (2, .int .i64 a2)]) Try.func10 rfl rfl (Nat.le_of_ble_eq_true KR) (subsA_cons rfl (subsA_cons rfl (subsA_cons rfl (subsA_nil _)))) ?_
  intro a ha
  have HW := Wd.refl w
  unfold headgateref17_Page.f at h
  refine wp_seq_k (fun K638 hK639 => ?_)
  refine wp_region_lit ?_
  refine stepnew ha HW 3 #[.int .i64 a0.f0, .string a0.f1] 23 KR KR ?_; clear ha HW a; intro b640 a W641 HW ha
  refine stepp ha 6 (.string (⟨#[]⟩ : ByteArray)) KR KR ?_; clear ha a; intro a ha
  refine stepp ha 7 (.int .i64 0) KR KR ?_; clear ha a; intro a ha
  refine endl ?_
  refine thenN (hK639 _ _ ?_); clear hK639
  refine wp_seq_k (fun K642 hK643 => ?_)
  refine wp_block ?_
  refine wp_seq_k (fun K644 hK645 => ?_)
  refine wp_region_lit ?_
  refine stepp ha 11 (.int .i64 a2) KR KR ?_; clear ha a; intro a ha
  refine stepp ha 12 (.bool (a2 == 0)) KR KR ?_; clear ha a; intro a ha
  refine stepp ha 10 (.bool (a2 == 0)) KR KR ?_; clear ha a; intro a ha
  refine endl ?_
  refine thenN (hK645 _ _ ?_); clear hK645
  by_cases hp646 : a2 = 0
  · skip
    replace h := ite_pos' h hp646
    refine condT ha KR KR (t := (a2 == 0)) (ieq_t hp646) ?_
    refine wp_seq_k (fun K647 hK648 => ?_)
    refine wp_region_lit ?_
    obtain ⟨t649, ht650, h_⟩ := bind_some' h; clear h; have h := h_; clear h_
    refine stepc ha 13 KR KR (headgateref17_zeros.calls 8 t649 _ ht650) ?_; clear ha a; rintro e W651 ⟨rfl, HX652⟩
    refine ⟨_, rfl, ?_⟩; intro a ha; replace HW := HW.callw HX652; clear HX652
    obtain ⟨t653, ht654, h_⟩ := bind_some' h; clear h; have h := h_; clear h_
    refine stepc ha 14 KR KR (headgateref17_put.calls K t649 2 6 1 t653 _ ht654) ?_; clear ha a; rintro e W655 ⟨rfl, HX656⟩
    refine ⟨_, rfl, ?_⟩; intro a ha; replace HW := HW.callw HX656; clear HX656
    obtain ⟨t657, ht658, h_⟩ := bind_some' h; clear h; have h := h_; clear h_
    refine stepc ha 15 KR KR (headgateref17_put.calls K t653 3 2 1 t657 _ ht658) ?_; clear ha a; rintro e W659 ⟨rfl, HX660⟩
    refine ⟨_, rfl, ?_⟩; intro a ha; replace HW := HW.callw HX660; clear HX660
    obtain ⟨t661, ht662, h_⟩ := bind_some' h; clear h; have h := h_; clear h_
    refine stepc ha 16 KR KR (headgateref17_put.calls K t657 4 31 1 t661 _ ht662) ?_; clear ha a; rintro e W663 ⟨rfl, HX664⟩
    refine ⟨_, rfl, ?_⟩; intro a ha; replace HW := HW.callw HX664; clear HX664
    obtain ⟨hA665, h_⟩ := asrt_some h; clear h; have h := h_; clear h_
    refine stepsa ha 17 9 9 (.tmp 16) (.const (.string (⟨#[72, 69, 65, 68, 71, 65, 84, 69, 66, 76, 79, 67, 75, 32, 85, 78, 73, 84, 32, 32, 32, 32, 32, 32, 48, 48, 48, 49]⟩ : ByteArray))) t661 (⟨#[72, 69, 65, 68, 71, 65, 84, 69, 66, 76, 79, 67, 75, 32, 85, 78, 73, 84, 32, 32, 32, 32, 32, 32, 48, 48, 48, 49]⟩ : ByteArray) rfl KR KR (show (t661).size + ((⟨#[72, 69, 65, 68, 71, 65, 84, 69, 66, 76, 79, 67, 75, 32, 85, 78, 73, 84, 32, 32, 32, 32, 32, 32, 48, 48, 48, 49]⟩ : ByteArray)).size ≤ 9223372036854775807 from hA665) KR ?_; clear ha a; intro a ha
    refine stepp ha 8 (.string (t661 ++ (⟨#[72, 69, 65, 68, 71, 65, 84, 69, 66, 76, 79, 67, 75, 32, 85, 78, 73, 84, 32, 32, 32, 32, 32, 32, 48, 48, 48, 49]⟩ : ByteArray))) KR KR ?_; clear ha a; intro a ha
    refine endl ?_
    refine thenN (hK648 _ _ ?_); clear hK648
    refine wp_seq_k (fun K666 hK667 => ?_)
    refine wp_seq_k (fun K668 hK669 => ?_)
    refine wp_region_lit ?_
    refine stepp ha 18 (.bool a1) KR KR ?_; clear ha a; intro a ha
    refine stepp ha 19 (.bool (!a1)) KR KR ?_; clear ha a; intro a ha
    refine endl ?_
    refine thenN (hK669 _ _ ?_); clear hK669
    by_cases hp670 : a1 = true
    · skip
      replace h := ite_pos' h hp670
      refine condF ha KR KR (t := (!a1)) (not_f (hp670)) ?_
      refine wp_skip ?_
      refine thenN (hK667 _ _ ?_); clear hK667
      refine wp_seq_k (fun K675 hK676 => ?_)
      refine wp_region_lit ?_
      refine stepp ha 22 (.string (t661 ++ (⟨#[72, 69, 65, 68, 71, 65, 84, 69, 66, 76, 79, 67, 75, 32, 85, 78, 73, 84, 32, 32, 32, 32, 32, 32, 48, 48, 48, 49]⟩ : ByteArray))) KR KR ?_; clear ha a; intro a ha
      refine stepp ha 6 (.string (t661 ++ (⟨#[72, 69, 65, 68, 71, 65, 84, 69, 66, 76, 79, 67, 75, 32, 85, 78, 73, 84, 32, 32, 32, 32, 32, 32, 48, 48, 48, 49]⟩ : ByteArray))) KR KR ?_; clear ha a; intro a ha
      refine stepp ha 7 (.int .i64 0) KR KR ?_; clear ha a; intro a ha
      refine endl ?_
      refine thenN (hK676 _ _ ?_); clear hK676
      refine wp_ret ?_
      refine blkR ?_
      refine thenR ?_
      obtain rfl := Option.some.inj h
      exact finv ha _ _ rfl (.tmp (v := .string (t661 ++ (⟨#[72, 69, 65, 68, 71, 65, 84, 69, 66, 76, 79, 67, 75, 32, 85, 78, 73, 84, 32, 32, 32, 32, 32, 32, 48, 48, 48, 49]⟩ : ByteArray))) KR (.tmp (v := .int .i64 0) KR .nil)) (.tuple #[.string (t661 ++ (⟨#[72, 69, 65, 68, 71, 65, 84, 69, 66, 76, 79, 67, 75, 32, 85, 78, 73, 84, 32, 32, 32, 32, 32, 32, 48, 48, 48, 49]⟩ : ByteArray)), .int .i64 0]) rfl ⟨rfl, HW.pick [] [] (by decide) (by decide) rfl KR⟩
    · skip
      replace h := ite_neg' h hp670
      refine condT ha KR KR (t := (!a1)) (not_t (bool_f hp670)) ?_
      refine wp_region_lit ?_
      refine stepp ha 20 (.string (t661 ++ (⟨#[72, 69, 65, 68, 71, 65, 84, 69, 66, 76, 79, 67, 75, 32, 85, 78, 73, 84, 32, 32, 32, 32, 32, 32, 48, 48, 48, 49]⟩ : ByteArray))) KR KR ?_; clear ha a; intro a ha
      obtain ⟨t671, ht672, h_⟩ := bind_some' h; clear h; have h := h_; clear h_
      refine stepc ha 21 KR KR (headgateref17_put.calls K (t661 ++ (⟨#[72, 69, 65, 68, 71, 65, 84, 69, 66, 76, 79, 67, 75, 32, 85, 78, 73, 84, 32, 32, 32, 32, 32, 32, 48, 48, 48, 49]⟩ : ByteArray)) 0 127 1 t671 _ ht672) ?_; clear ha a; rintro e W673 ⟨rfl, HX674⟩
      refine ⟨_, rfl, ?_⟩; intro a ha; replace HW := HW.callw HX674; clear HX674
      refine stepp ha 8 (.string t671) KR KR ?_; clear ha a; intro a ha
      refine endl ?_
      refine thenN (hK667 _ _ ?_); clear hK667
      refine wp_seq_k (fun K677 hK678 => ?_)
      refine wp_region_lit ?_
      refine stepp ha 22 (.string t671) KR KR ?_; clear ha a; intro a ha
      refine stepp ha 6 (.string t671) KR KR ?_; clear ha a; intro a ha
      refine stepp ha 7 (.int .i64 0) KR KR ?_; clear ha a; intro a ha
      refine endl ?_
      refine thenN (hK678 _ _ ?_); clear hK678
      refine wp_ret ?_
      refine blkR ?_
      refine thenR ?_
      obtain rfl := Option.some.inj h
      exact finv ha _ _ rfl (.tmp (v := .string t671) KR (.tmp (v := .int .i64 0) KR .nil)) (.tuple #[.string t671, .int .i64 0]) rfl ⟨rfl, HW.pick [] [] (by decide) (by decide) rfl KR⟩
  · skip
    replace h := ite_neg' h hp646
    refine condF ha KR KR (t := (a2 == 0)) (ieq_f hp646) ?_
    refine wp_seq_k (fun K679 hK680 => ?_)
    refine wp_region_lit ?_
    refine stepp ha 24 (.bool a1) KR KR ?_; clear ha a; intro a ha
    refine stepp ha 25 (.bool (!a1)) KR KR ?_; clear ha a; intro a ha
    refine stepp ha 23 (.bool (!a1)) KR KR ?_; clear ha a; intro a ha
    refine endl ?_
    refine thenN (hK680 _ _ ?_); clear hK680
    by_cases hp681 : a1 = true
    · skip
      replace h := ite_pos' h hp681
      refine condF ha KR KR (t := (!a1)) (not_f (hp681)) ?_
      refine wp_seq_k (fun K682 hK683 => ?_)
      refine wp_region_lit ?_
      refine stepp ha 27 (.int .i64 a2) KR KR ?_; clear ha a; intro a ha
      refine stepp ha 28 (.bool (a2 == 256)) KR KR ?_; clear ha a; intro a ha
      refine stepp ha 26 (.bool (a2 == 256)) KR KR ?_; clear ha a; intro a ha
      refine endl ?_
      refine thenN (hK683 _ _ ?_); clear hK683
      by_cases hp684 : a2 = 256
      · skip
        replace h := ite_pos' h hp684
        refine condT ha KR KR (t := (a2 == 256)) (ieq_t hp684) ?_
        refine wp_seq_k (fun K685 hK686 => ?_)
        refine wp_region_lit ?_
        refine stepp ha 6 (.string (⟨#[0, 0, 0, 3, 0, 131, 176]⟩ : ByteArray)) KR KR ?_; clear ha a; intro a ha
        refine stepp ha 7 (.int .i64 0) KR KR ?_; clear ha a; intro a ha
        refine endl ?_
        refine thenN (hK686 _ _ ?_); clear hK686
        refine wp_ret ?_
        refine blkR ?_
        refine thenR ?_
        obtain rfl := Option.some.inj h
        exact finv ha _ _ rfl (.tmp (v := .string (⟨#[0, 0, 0, 3, 0, 131, 176]⟩ : ByteArray)) KR (.tmp (v := .int .i64 0) KR .nil)) (.tuple #[.string (⟨#[0, 0, 0, 3, 0, 131, 176]⟩ : ByteArray), .int .i64 0]) rfl ⟨rfl, HW.pick [] [] (by decide) (by decide) rfl KR⟩
      · skip
        replace h := ite_neg' h hp684
        refine condF ha KR KR (t := (a2 == 256)) (ieq_f hp684) ?_
        refine wp_seq_k (fun K687 hK688 => ?_)
        refine cutn (fun a W691 => ∃ (x690 : Bool), headgateref17_Page.j0 K a0 a2 x690 = some r ∧ Has 53 [(2, .int .i64 a2), (3, .pointer (some ⟨b640, 0, none⟩)), (29, .bool x690)] a ∧ Wd w W691 [(b640, .cells #[.int .i64 a0.f0, .string a0.f1] 23 (0, 0))] []) ?_ ?_
        · skip
          refine wp_region_lit ?_
          refine stepp ha 30 (.int .i64 a2) KR KR ?_; clear ha a; intro a ha
          refine stepp ha 31 (.bool (a2 == 387)) KR KR ?_; clear ha a; intro a ha
          refine stepp ha 32 (.bool (a2 == 387)) KR KR ?_; clear ha a; intro a ha
          by_cases hp689 : a2 = 387
          · skip
            replace h := ite_pos' h hp689
            replace ha := ha.bool 32 KR (ieq_t hp689)
            refine stepp ha 33 (.pointer (some ⟨b640, 1, none⟩)) KR KR ?_; clear ha a; intro a ha
            refine stepl ha 34 (HW.ca (i := 0) (b := b640) (C := #[.int .i64 a0.f0, .string a0.f1]) (T := 23) (fr := (0, 0)) KR) 9 1 (.tmp 33) (.string a0.f1) rfl KR KR KR ?_; clear ha a; intro a ha
            refine stepp ha 35 (.int .i64 (a0.f1.size : Int)) KR KR ?_; clear ha a; intro a ha
            refine stepp ha 36 (.bool ((a0.f1.size : Int) == 16)) KR KR ?_; clear ha a; intro a ha
            refine stepp ha 37 (.bool ((a0.f1.size : Int) == 16)) KR KR ?_; clear ha a; intro a ha
            refine stepp ha 29 (.bool ((a0.f1.size : Int) == 16)) KR KR ?_; clear ha a; intro a ha
            refine endl ?_
            exact thenN ⟨((a0.f1.size : Int) == 16), h, ha.sub (subs_cons KR (subs_cons KR (subs_cons KR (subs_nil _)))), HW.pick [0] [] (by decide) (by decide) KR KR⟩
          · skip
            replace h := ite_neg' h hp689
            replace ha := ha.bool 32 KR (ieq_f hp689)
            refine stepo ha 33 KR ?_; clear ha a; intro a ha
            refine stepo ha 34 KR ?_; clear ha a; intro a ha
            refine stepo ha 35 KR ?_; clear ha a; intro a ha
            refine stepo ha 36 KR ?_; clear ha a; intro a ha
            refine stepp ha 37 (.bool false) KR KR ?_; clear ha a; intro a ha
            refine stepp ha 29 (.bool false) KR KR ?_; clear ha a; intro a ha
            refine endl ?_
            exact thenN ⟨false, h, ha.sub (subs_cons KR (subs_cons KR (subs_cons KR (subs_nil _)))), HW.pick [0] [] (by decide) (by decide) KR KR⟩
        · skip
          intro a W691 hJ
          obtain ⟨x690, h, ha, HW⟩ := hJ
          replace h : headgateref17_Page.j0 K a0 a2 x690 = some r := h
          unfold headgateref17_Page.j0 at h
          refine hK688 _ _ ?_; clear hK688
          by_cases hp692 : x690 = true
          · skip
            replace h := ite_pos' h hp692
            refine condT ha KR KR (t := x690) (hp692) ?_
            refine wp_seq_k (fun K693 hK694 => ?_)
            refine wp_region_lit ?_
            refine stepp ha 38 (.pointer (some ⟨b640, 1, none⟩)) KR KR ?_; clear ha a; intro a ha
            refine stepl ha 39 (HW.ca (i := 0) (b := b640) (C := #[.int .i64 a0.f0, .string a0.f1]) (T := 23) (fr := (0, 0)) KR) 9 1 (.tmp 38) (.string a0.f1) rfl KR KR KR ?_; clear ha a; intro a ha
            obtain ⟨hA695, h_⟩ := asrt_some h; clear h; have h := h_; clear h_
            refine stepsa ha 40 9 9 (.const (.string (⟨#[0, 131, 0, 20, 1, 1, 0, 16]⟩ : ByteArray))) (.tmp 39) (⟨#[0, 131, 0, 20, 1, 1, 0, 16]⟩ : ByteArray) a0.f1 rfl KR KR (show ((⟨#[0, 131, 0, 20, 1, 1, 0, 16]⟩ : ByteArray)).size + (a0.f1).size ≤ 9223372036854775807 from hA695) KR ?_; clear ha a; intro a ha
            refine stepp ha 6 (.string ((⟨#[0, 131, 0, 20, 1, 1, 0, 16]⟩ : ByteArray) ++ a0.f1)) KR KR ?_; clear ha a; intro a ha
            refine stepp ha 7 (.int .i64 0) KR KR ?_; clear ha a; intro a ha
            refine endl ?_
            refine thenN (hK694 _ _ ?_); clear hK694
            refine wp_ret ?_
            refine blkR ?_
            refine thenR ?_
            obtain rfl := Option.some.inj h
            exact finv ha _ _ rfl (.tmp (v := .string ((⟨#[0, 131, 0, 20, 1, 1, 0, 16]⟩ : ByteArray) ++ a0.f1)) KR (.tmp (v := .int .i64 0) KR .nil)) (.tuple #[.string ((⟨#[0, 131, 0, 20, 1, 1, 0, 16]⟩ : ByteArray) ++ a0.f1), .int .i64 0]) rfl ⟨rfl, HW.pick [] [] (by decide) (by decide) rfl KR⟩
          · skip
            replace h := ite_neg' h hp692
            refine condF ha KR KR (t := x690) (bool_f hp692) ?_
            refine wp_seq_k (fun K696 hK697 => ?_)
            refine wp_region_lit ?_
            refine stepp ha 42 (.int .i64 a2) KR KR ?_; clear ha a; intro a ha
            refine stepp ha 43 (.bool (a2 == 432)) KR KR ?_; clear ha a; intro a ha
            refine stepp ha 41 (.bool (a2 == 432)) KR KR ?_; clear ha a; intro a ha
            refine endl ?_
            refine thenN (hK697 _ _ ?_); clear hK697
            by_cases hp698 : a2 = 432
            · skip
              replace h := ite_pos' h hp698
              refine condT ha KR KR (t := (a2 == 432)) (ieq_t hp698) ?_
              refine wp_seq_k (fun K699 hK700 => ?_)
              refine wp_region_lit ?_
              obtain ⟨t701, ht702, h_⟩ := bind_some' h; clear h; have h := h_; clear h_
              refine stepc ha 44 KR KR (headgateref17_zeros.calls 64 t701 _ ht702) ?_; clear ha a; rintro e W703 ⟨rfl, HX704⟩
              refine ⟨_, rfl, ?_⟩; intro a ha; replace HW := HW.callw HX704; clear HX704
              obtain ⟨t705, ht706, h_⟩ := bind_some' h; clear h; have h := h_; clear h_
              refine stepc ha 45 KR KR (headgateref17_put.calls K t701 1 176 1 t705 _ ht706) ?_; clear ha a; rintro e W707 ⟨rfl, HX708⟩
              refine ⟨_, rfl, ?_⟩; intro a ha; replace HW := HW.callw HX708; clear HX708
              obtain ⟨t709, ht710, h_⟩ := bind_some' h; clear h; have h := h_; clear h_
              refine stepc ha 46 KR KR (headgateref17_put.calls K t705 3 60 1 t709 _ ht710) ?_; clear ha a; rintro e W711 ⟨rfl, HX712⟩
              refine ⟨_, rfl, ?_⟩; intro a ha; replace HW := HW.callw HX712; clear HX712
              refine stepp ha 9 (.string t709) KR KR ?_; clear ha a; intro a ha
              refine endl ?_
              refine thenN (hK700 _ _ ?_); clear hK700
              refine wp_seq_k (fun K713 hK714 => ?_)
              refine wp_region_lit ?_
              refine stepp ha 47 (.string t709) KR KR ?_; clear ha a; intro a ha
              obtain ⟨t715, ht716, h_⟩ := bind_some' h; clear h; have h := h_; clear h_
              refine stepc ha 48 KR KR (headgateref17_put.calls K t709 5 32 1 t715 _ ht716) ?_; clear ha a; rintro e W717 ⟨rfl, HX718⟩
              refine ⟨_, rfl, ?_⟩; intro a ha; replace HW := HW.callw HX718; clear HX718
              obtain ⟨t719, ht720, h_⟩ := bind_some' h; clear h; have h := h_; clear h_
              refine stepc ha 49 KR KR (headgateref17_put.calls K t715 8 64 4 t719 _ ht720) ?_; clear ha a; rintro e W721 ⟨rfl, HX722⟩
              refine ⟨_, rfl, ?_⟩; intro a ha; replace HW := HW.callw HX722; clear HX722
              obtain ⟨t723, ht724, h_⟩ := bind_some' h; clear h; have h := h_; clear h_
              refine stepc ha 50 KR KR (headgateref17_put.calls K t719 20 4096 4 t723 _ ht724) ?_; clear ha a; rintro e W725 ⟨rfl, HX726⟩
              refine ⟨_, rfl, ?_⟩; intro a ha; replace HW := HW.callw HX726; clear HX726
              refine stepp ha 9 (.string t723) KR KR ?_; clear ha a; intro a ha
              refine endl ?_
              refine thenN (hK714 _ _ ?_); clear hK714
              refine wp_seq_k (fun K727 hK728 => ?_)
              refine wp_region_lit ?_
              refine stepp ha 51 (.string t723) KR KR ?_; clear ha a; intro a ha
              obtain ⟨t729, ht730, h_⟩ := bind_some' h; clear h; have h := h_; clear h_
              refine stepc ha 52 KR KR (headgateref17_put.calls K t723 24 16 4 t729 _ ht730) ?_; clear ha a; rintro e W731 ⟨rfl, HX732⟩
              refine ⟨_, rfl, ?_⟩; intro a ha; replace HW := HW.callw HX732; clear HX732
              refine stepp ha 6 (.string t729) KR KR ?_; clear ha a; intro a ha
              refine stepp ha 7 (.int .i64 0) KR KR ?_; clear ha a; intro a ha
              refine endl ?_
              refine thenN (hK728 _ _ ?_); clear hK728
              refine wp_ret ?_
              refine blkR ?_
              refine thenR ?_
              obtain rfl := Option.some.inj h
              exact finv ha _ _ rfl (.tmp (v := .string t729) KR (.tmp (v := .int .i64 0) KR .nil)) (.tuple #[.string t729, .int .i64 0]) rfl ⟨rfl, HW.pick [] [] (by decide) (by decide) rfl KR⟩
            · skip
              replace h := ite_neg' h hp698
              refine condF ha KR KR (t := (a2 == 432)) (ieq_f hp698) ?_
              refine wp_skip ?_
              refine blkN ?_
              refine thenN (hK643 _ _ ?_); clear hK643
              refine wp_seq_k (fun K735 hK736 => ?_)
              refine wp_region_lit ?_
              refine stepp ha 6 (.string (⟨#[]⟩ : ByteArray)) KR KR ?_; clear ha a; intro a ha
              refine stepp ha 7 (.int .i64 180) KR KR ?_; clear ha a; intro a ha
              refine endl ?_
              refine thenN (hK736 _ _ ?_); clear hK736
              refine wp_ret ?_
              obtain rfl := Option.some.inj h
              exact finv ha _ _ rfl (.tmp (v := .string (⟨#[]⟩ : ByteArray)) KR (.tmp (v := .int .i64 180) KR .nil)) (.tuple #[.string (⟨#[]⟩ : ByteArray), .int .i64 180]) rfl ⟨rfl, HW.pick [] [] (by decide) (by decide) rfl KR⟩
    · skip
      replace h := ite_neg' h hp681
      refine condT ha KR KR (t := (!a1)) (not_t (bool_f hp681)) ?_
      refine wp_seq_k (fun K733 hK734 => ?_)
      refine wp_region_lit ?_
      refine stepp ha 6 (.string (⟨#[]⟩ : ByteArray)) KR KR ?_; clear ha a; intro a ha
      refine stepp ha 7 (.int .i64 180) KR KR ?_; clear ha a; intro a ha
      refine endl ?_
      refine thenN (hK734 _ _ ?_); clear hK734
      refine wp_ret ?_
      refine blkR ?_
      refine thenR ?_
      obtain rfl := Option.some.inj h
      exact finv ha _ _ rfl (.tmp (v := .string (⟨#[]⟩ : ByteArray)) KR (.tmp (v := .int .i64 180) KR .nil)) (.tuple #[.string (⟨#[]⟩ : ByteArray), .int .i64 180]) rfl ⟨rfl, HW.pick [] [] (by decide) (by decide) rfl KR⟩
/-! ### headgate/headgatelaw17.InquiryPages: function 3 -/
def headgatelaw17_InquiryPages.f (K : Nat) (a0 : T_api_Unit) (a1 : Bool) (a2 : Int) : Option Bool :=
  if (a0.f1.size : Int) > 5000 then ((headgatelaw17_wakes.f K).bind fun t748 => (some t748)) else ((inquiry_Page.f K a0 a1 a2).bind fun t754 => ((headgateref17_Page.f K a0 a1 a2).bind fun t760 => (if t754.1 = t760.1 then (if t754.2 = t760.2 then ((headgatelaw17_wakes.f K).bind fun t768 => (some t768)) else (some false)) else (some false))))
set_option maxRecDepth 100000 in
set_option maxHeartbeats 4000000 in
theorem headgatelaw17_InquiryPages.calls (K : Nat) (a0 : T_api_Unit) (a1 : Bool) (a2 : Int)  (r : Bool) (w : World)  (h : headgatelaw17_InquiryPages.f K a0 a1 a2 = some r) :
    Calls Try.prog 3 #[.agg #[.int .i64 a0.f0, .string a0.f1], .bool a1, .int .i64 a2] w (fun e W' => e = .returned (.bool r) ∧ Wd w W' [] [] ) := by
  refine sxstart (n := 41) (l := [(0, .agg #[.int .i64 a0.f0, .string a0.f1]), (1, .bool a1), (2, .int .i64 a2)]) Try.func3 rfl rfl (Nat.le_of_ble_eq_true KR) (subsA_cons rfl (subsA_cons rfl (subsA_cons rfl (subsA_nil _)))) ?_
  intro a ha
  have HW := Wd.refl w
  unfold headgatelaw17_InquiryPages.f at h
  refine wp_seq_k (fun K737 hK738 => ?_)
  refine wp_region_lit ?_
  refine stepnew ha HW 3 #[.int .i64 a0.f0, .string a0.f1] 23 KR KR ?_; clear ha HW a; intro b739 a W740 HW ha
  refine stepp ha 6 (.bool false) KR KR ?_; clear ha a; intro a ha
  refine endl ?_
  refine thenN (hK738 _ _ ?_); clear hK738
  refine wp_seq_k (fun K741 hK742 => ?_)
  refine wp_seq_k (fun K743 hK744 => ?_)
  refine wp_region_lit ?_
  refine stepp ha 11 (.pointer (some ⟨b739, 1, none⟩)) KR KR ?_; clear ha a; intro a ha
  refine stepl ha 12 (HW.ca (i := 0) (b := b739) (C := #[.int .i64 a0.f0, .string a0.f1]) (T := 23) (fr := (0, 0)) KR) 9 1 (.tmp 11) (.string a0.f1) rfl KR KR KR ?_; clear ha a; intro a ha
  refine stepp ha 13 (.int .i64 (a0.f1.size : Int)) KR KR ?_; clear ha a; intro a ha
  refine stepp ha 14 (.bool (decide ((a0.f1.size : Int) > 5000))) KR KR ?_; clear ha a; intro a ha
  refine endl ?_
  refine thenN (hK744 _ _ ?_); clear hK744
  by_cases hp745 : (a0.f1.size : Int) > 5000
  · skip
    replace h := ite_pos' h hp745
    refine condT ha KR KR (t := decide ((a0.f1.size : Int) > 5000)) (decide_eq_true hp745) ?_
    refine wp_seq_k (fun K746 hK747 => ?_)
    refine wp_region_lit ?_
    obtain ⟨t748, ht749, h_⟩ := bind_some' h; clear h; have h := h_; clear h_
    refine stepc ha 15 KR KR (headgatelaw17_wakes.calls K t748 _ ht749) ?_; clear ha a; rintro e W750 ⟨rfl, HX751⟩
    refine ⟨_, rfl, ?_⟩; intro a ha; replace HW := HW.callw HX751; clear HX751
    refine stepp ha 6 (.bool t748) KR KR ?_; clear ha a; intro a ha
    refine endl ?_
    refine thenN (hK747 _ _ ?_); clear hK747
    refine wp_ret ?_
    refine thenR ?_
    obtain rfl := Option.some.inj h
    exact finv ha _ _ rfl (.tmp (v := .bool t748) KR .nil) (.bool t748) rfl ⟨rfl, HW.pick [] [] (by decide) (by decide) rfl KR⟩
  · skip
    replace h := ite_neg' h hp745
    refine condF ha KR KR (t := decide ((a0.f1.size : Int) > 5000)) (decide_eq_false hp745) ?_
    refine wp_skip ?_
    refine thenN (hK742 _ _ ?_); clear hK742
    refine wp_seq_k (fun K752 hK753 => ?_)
    refine wp_region_lit ?_
    refine stepl ha 17 (HW.ca (i := 0) (b := b739) (C := #[.int .i64 a0.f0, .string a0.f1]) (T := 23) (fr := (0, 0)) KR) 23 0 (.tmp 3) (.agg #[.int .i64 a0.f0, .string a0.f1]) rfl KR KR KR ?_; clear ha a; intro a ha
    refine stepp ha 18 (.bool a1) KR KR ?_; clear ha a; intro a ha
    refine stepp ha 19 (.int .i64 a2) KR KR ?_; clear ha a; intro a ha
    obtain ⟨t754, ht755, h_⟩ := bind_some' h; clear h; have h := h_; clear h_
    refine stepc ha 20 KR KR (inquiry_Page.calls K a0 a1 a2 t754 _ ht755) ?_; clear ha a; rintro e W756 ⟨rfl, HX757⟩
    refine ⟨_, rfl, ?_⟩; intro a ha; replace HW := HW.callw HX757; clear HX757
    refine stepp ha 16 (.tuple #[.string t754.1, .int .i64 t754.2]) KR KR ?_; clear ha a; intro a ha
    refine stepp ha 21 (.string t754.1) KR KR ?_; clear ha a; intro a ha
    refine stepp ha 22 (.int .i64 t754.2) KR KR ?_; clear ha a; intro a ha
    refine stepp ha 7 (.string t754.1) KR KR ?_; clear ha a; intro a ha
    refine stepp ha 8 (.int .i64 t754.2) KR KR ?_; clear ha a; intro a ha
    refine endl ?_
    refine thenN (hK753 _ _ ?_); clear hK753
    refine wp_seq_k (fun K758 hK759 => ?_)
    refine wp_region_lit ?_
    refine stepl ha 24 (HW.ca (i := 0) (b := b739) (C := #[.int .i64 a0.f0, .string a0.f1]) (T := 23) (fr := (0, 0)) KR) 23 0 (.tmp 3) (.agg #[.int .i64 a0.f0, .string a0.f1]) rfl KR KR KR ?_; clear ha a; intro a ha
    refine stepp ha 25 (.bool a1) KR KR ?_; clear ha a; intro a ha
    refine stepp ha 26 (.int .i64 a2) KR KR ?_; clear ha a; intro a ha
    obtain ⟨t760, ht761, h_⟩ := bind_some' h; clear h; have h := h_; clear h_
    refine stepc ha 27 KR KR (headgateref17_Page.calls K a0 a1 a2 t760 _ ht761) ?_; clear ha a; rintro e W762 ⟨rfl, HX763⟩
    refine ⟨_, rfl, ?_⟩; intro a ha; replace HW := HW.callw HX763; clear HX763
    refine stepp ha 23 (.tuple #[.string t760.1, .int .i64 t760.2]) KR KR ?_; clear ha a; intro a ha
    refine stepp ha 28 (.string t760.1) KR KR ?_; clear ha a; intro a ha
    refine stepp ha 29 (.int .i64 t760.2) KR KR ?_; clear ha a; intro a ha
    refine stepp ha 9 (.string t760.1) KR KR ?_; clear ha a; intro a ha
    refine stepp ha 10 (.int .i64 t760.2) KR KR ?_; clear ha a; intro a ha
    refine endl ?_
    refine thenN (hK759 _ _ ?_); clear hK759
    refine wp_seq_k (fun K764 hK765 => ?_)
    refine wp_region_lit ?_
    refine stepp ha 30 (.string t754.1) KR KR ?_; clear ha a; intro a ha
    refine stepp ha 31 (.string t760.1) KR KR ?_; clear ha a; intro a ha
    refine stepp ha 32 (.bool (t754.1.toList == t760.1.toList)) KR KR ?_; clear ha a; intro a ha
    refine stepp ha 33 (.bool (t754.1.toList == t760.1.toList)) KR KR ?_; clear ha a; intro a ha
    by_cases hp766 : t754.1 = t760.1
    · skip
      replace h := ite_pos' h hp766
      replace ha := ha.bool 33 KR (str_eq_t hp766)
      refine stepp ha 34 (.int .i64 t754.2) KR KR ?_; clear ha a; intro a ha
      refine stepp ha 35 (.int .i64 t760.2) KR KR ?_; clear ha a; intro a ha
      refine stepp ha 36 (.bool (t754.2 == t760.2)) KR KR ?_; clear ha a; intro a ha
      refine stepp ha 37 (.bool (t754.2 == t760.2)) KR KR ?_; clear ha a; intro a ha
      refine stepp ha 38 (.bool (t754.2 == t760.2)) KR KR ?_; clear ha a; intro a ha
      by_cases hp767 : t754.2 = t760.2
      · skip
        replace h := ite_pos' h hp767
        replace ha := ha.bool 38 KR (ieq_t hp767)
        obtain ⟨t768, ht769, h_⟩ := bind_some' h; clear h; have h := h_; clear h_
        refine stepc ha 39 KR KR (headgatelaw17_wakes.calls K t768 _ ht769) ?_; clear ha a; rintro e W770 ⟨rfl, HX771⟩
        refine ⟨_, rfl, ?_⟩; intro a ha; replace HW := HW.callw HX771; clear HX771
        refine stepp ha 40 (.bool t768) KR KR ?_; clear ha a; intro a ha
        refine stepp ha 6 (.bool t768) KR KR ?_; clear ha a; intro a ha
        refine endl ?_
        refine thenN (hK765 _ _ ?_); clear hK765
        refine wp_ret ?_
        obtain rfl := Option.some.inj h
        exact finv ha _ _ rfl (.tmp (v := .bool t768) KR .nil) (.bool t768) rfl ⟨rfl, HW.pick [] [] (by decide) (by decide) rfl KR⟩
      · skip
        replace h := ite_neg' h hp767
        replace ha := ha.bool 38 KR (ieq_f hp767)
        refine stepo ha 39 KR ?_; clear ha a; intro a ha
        refine stepp ha 40 (.bool false) KR KR ?_; clear ha a; intro a ha
        refine stepp ha 6 (.bool false) KR KR ?_; clear ha a; intro a ha
        refine endl ?_
        refine thenN (hK765 _ _ ?_); clear hK765
        refine wp_ret ?_
        obtain rfl := Option.some.inj h
        exact finv ha _ _ rfl (.tmp (v := .bool false) KR .nil) (.bool false) rfl ⟨rfl, HW.pick [] [] (by decide) (by decide) rfl KR⟩
    · skip
      replace h := ite_neg' h hp766
      replace ha := ha.bool 33 KR (str_eq_f hp766)
      refine stepo ha 34 KR ?_; clear ha a; intro a ha
      refine stepo ha 35 KR ?_; clear ha a; intro a ha
      refine stepo ha 36 KR ?_; clear ha a; intro a ha
      refine stepp ha 37 (.bool false) KR KR ?_; clear ha a; intro a ha
      refine stepp ha 38 (.bool false) KR KR ?_; clear ha a; intro a ha
      refine stepo ha 39 KR ?_; clear ha a; intro a ha
      refine stepp ha 40 (.bool false) KR KR ?_; clear ha a; intro a ha
      refine stepp ha 6 (.bool false) KR KR ?_; clear ha a; intro a ha
      refine endl ?_
      refine thenN (hK765 _ _ ?_); clear hK765
      refine wp_ret ?_
      obtain rfl := Option.some.inj h
      exact finv ha _ _ rfl (.tmp (v := .bool false) KR .nil) (.bool false) rfl ⟨rfl, HW.pick [] [] (by decide) (by decide) rfl KR⟩
end Go.Proofs.Ytccmdlbdpapigaa.F
