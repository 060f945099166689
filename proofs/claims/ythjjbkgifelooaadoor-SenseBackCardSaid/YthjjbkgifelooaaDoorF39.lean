/- headgate/sense.Parse: plain functions, and that the calls come to what they say. No condition. -/
import Derived.Test.YthjjbkgifelooaaDoorFT
import Derived.Test.YthjjbkgifelooaaDoorF37
import Derived.Test.YthjjbkgifelooaaDoorF72
namespace Go.Proofs.YthjjbkgifelooaaDoor.F
open Go Go.RowKit Go.Proofs.YthjjbkgifelooaaDoor.X
set_option linter.unusedVariables false
set_option linter.unusedSimpArgs false
/-! ### headgate/sense.Parse: function 39 -/
def sense_Parse.j0 (K : Nat) (a0 : ByteArray) (x5815 : Int) : Option (T_api_Sense × Int) :=
  (sense_Bytes.f K (⟨IntKind.wrap .i64 (bt a0 2), IntKind.wrap .i64 (bt a0 12), IntKind.wrap .i64 (bt a0 13), x5815⟩ : T_api_Sense)).bind fun t5821 => (if t5821.2 = 0 then (if t5821.1 = a0 then (some ((⟨IntKind.wrap .i64 (bt a0 2), IntKind.wrap .i64 (bt a0 12), IntKind.wrap .i64 (bt a0 13), x5815⟩ : T_api_Sense), 0)) else (some ((⟨0, 0, 0, 0⟩ : T_api_Sense), 160))) else (some ((⟨0, 0, 0, 0⟩ : T_api_Sense), 160)))
def sense_Parse.f (K : Nat) (a0 : ByteArray) : Option (T_api_Sense × Int) :=
  if (a0.size : Int) = 18 then ((fields_Big.f K a0 3 4).bind fun t5795 => (asrt (2 < (a0.size : Int)) (asrt (12 < (a0.size : Int)) (asrt (13 < (a0.size : Int)) (asrt (0 < (a0.size : Int)) (if (bt a0 0) = 112 then (sense_Parse.j0 K a0 (-1)) else (sense_Parse.j0 K a0 (IntKind.wrap .i64 t5795.1)))))))) else (some ((⟨0, 0, 0, 0⟩ : T_api_Sense), 160))
set_option maxRecDepth 100000 in
set_option maxHeartbeats 4000000 in
theorem sense_Parse.calls (K : Nat) (a0 : ByteArray)  (r : T_api_Sense × Int) (w : World)  (h : sense_Parse.f K a0 = some r) :
    Calls Tryd.prog 39 #[.string a0] w (fun e W' => e = .returned (.tuple #[.agg #[.int .i64 r.1.f0, .int .i64 r.1.f1, .int .i64 r.1.f2, .int .i64 r.1.f3], .int .i64 r.2]) ∧ Wd w W' [] [] ) := by
  refine sxstart (n := 48) (l := [(0, .string a0)]) Tryd.func39 rfl rfl (Nat.le_of_ble_eq_true KR) (subsA_cons rfl (subsA_nil _)) ?_
  intro a ha
  have HW := Wd.refl w
  unfold sense_Parse.f at h
  refine wp_seq_k (fun K5781 hK5782 => ?_)
  refine wp_region_lit ?_
  refine stepnew ha HW 2 #[.int .i64 0, .int .i64 0, .int .i64 0, .int .i64 0] 66 KR KR ?_; clear ha HW a; intro b5783 a W5784 HW ha
  refine stepp ha 3 (.int .i64 0) KR KR ?_; clear ha a; intro a ha
  refine endl ?_
  refine thenN (hK5782 _ _ ?_); clear hK5782
  refine wp_seq_k (fun K5785 hK5786 => ?_)
  refine wp_seq_k (fun K5787 hK5788 => ?_)
  refine wp_region_lit ?_
  refine stepp ha 9 (.string a0) KR KR ?_; clear ha a; intro a ha
  refine stepp ha 10 (.int .i64 (a0.size : Int)) KR KR ?_; clear ha a; intro a ha
  refine stepp ha 11 (.bool ((a0.size : Int) != 18)) KR KR ?_; clear ha a; intro a ha
  refine endl ?_
  refine thenN (hK5788 _ _ ?_); clear hK5788
  by_cases hp5789 : (a0.size : Int) = 18
  · skip
    replace h := ite_pos' h hp5789
    refine condF ha KR KR (t := ((a0.size : Int) != 18)) (ineq_f hp5789) ?_
    refine wp_skip ?_
    refine thenN (hK5786 _ _ ?_); clear hK5786
    refine wp_seq_k (fun K5793 hK5794 => ?_)
    refine wp_region_lit ?_
    refine stepp ha 14 (.string a0) KR KR ?_; clear ha a; intro a ha
    obtain ⟨t5795, ht5796, h_⟩ := bind_some' h; clear h; have h := h_; clear h_
    refine stepc ha 15 KR KR (fields_Big.calls K a0 3 4 t5795 _ ht5796) ?_; clear ha a; rintro e W5797 ⟨rfl, HX5798⟩
    refine ⟨_, rfl, ?_⟩; intro a ha; replace HW := HW.callw HX5798; clear HX5798
    refine stepp ha 13 (.tuple #[.int .u64 t5795.1, .bool t5795.2]) KR KR ?_; clear ha a; intro a ha
    refine stepp ha 16 (.int .u64 t5795.1) KR KR ?_; clear ha a; intro a ha
    refine stepp ha 17 (.bool t5795.2) KR KR ?_; clear ha a; intro a ha
    refine stepp ha 4 (.int .u64 t5795.1) KR KR ?_; clear ha a; intro a ha
    refine stepp ha 5 (.bool t5795.2) KR KR ?_; clear ha a; intro a ha
    refine endl ?_
    refine thenN (hK5794 _ _ ?_); clear hK5794
    refine wp_seq_k (fun K5799 hK5800 => ?_)
    obtain ⟨hA5801, h_⟩ := asrt_some h; clear h; have h := h_; clear h_
    obtain ⟨hA5802, h_⟩ := asrt_some h; clear h; have h := h_; clear h_
    obtain ⟨hA5803, h_⟩ := asrt_some h; clear h; have h := h_; clear h_
    refine regionG 13 KR KR ha HW [.fix (.string a0), .fix (.int .u8 (bt a0 2)), .fix (.int .i64 (IntKind.wrap .i64 (bt a0 2))), .fix (.string a0), .fix (.int .u8 (bt a0 12)), .fix (.int .i64 (IntKind.wrap .i64 (bt a0 12))), .fix (.string a0), .fix (.int .u8 (bt a0 13)), .fix (.int .i64 (IntKind.wrap .i64 (bt a0 13))), .fix (.int .u64 t5795.1), .fix (.int .i64 (IntKind.wrap .i64 t5795.1)), .fix (.agg #[.int .i64 (IntKind.wrap .i64 (bt a0 2)), .int .i64 (IntKind.wrap .i64 (bt a0 12)), .int .i64 (IntKind.wrap .i64 (bt a0 13)), .int .i64 (IntKind.wrap .i64 t5795.1)]), .blk w #[.int .i64 0, .int .i64 0, .int .i64 0, .int .i64 0] 66 [(b5783, .cells #[.int .i64 0, .int .i64 0, .int .i64 0, .int .i64 0] 66 (0, 0))] []] ?_ ?_
    · skip
      refine ⟨?_, ?_, ?_, ?_, ?_, ?_, ?_, ?_, ?_, ?_, ?_, ?_, ?_, trivial⟩
      · skip
        intro a wr hn hd HW hs; have ha := hasNil hn hd
        have ha := ha.add (seeE hs 0 (.string a0) KR KR)
        refine yStep ha 18 KR ?_; intro l_ ha HK
        refine stepp ha 18 (.string a0) KR KR ?_; intro ax hax; exact HK _ _ _ hax rfl (Below.refl _ _)
      · skip
        intro a wr hn hd HW hs; have ha := hasNil hn hd
        have ha := ha.add (seeF hs 18 0 (.string a0) KR KR)
        refine yStep ha 19 KR ?_; intro l_ ha HK
        refine stepsi ha 19 9 (.tmp 18) (.const (.int .i64 2)) a0 .i64 2 rfl KR KR KR (by decide) (show (2 : Int) < ((a0).size : Int) from hA5801) KR ?_; intro ax hax; exact HK _ _ _ hax rfl (Below.refl _ _)
      · skip
        intro a wr hn hd HW hs; have ha := hasNil hn hd
        have ha := ha.add (seeF hs 19 1 (.int .u8 (bt a0 2)) KR KR)
        refine yStep ha 20 KR ?_; intro l_ ha HK
        refine stepp ha 20 (.int .i64 (IntKind.wrap .i64 (bt a0 2))) KR KR ?_; intro ax hax; exact HK _ _ _ hax rfl (Below.refl _ _)
      · skip
        intro a wr hn hd HW hs; have ha := hasNil hn hd
        have ha := ha.add (seeE hs 0 (.string a0) KR KR)
        refine yStep ha 21 KR ?_; intro l_ ha HK
        refine stepp ha 21 (.string a0) KR KR ?_; intro ax hax; exact HK _ _ _ hax rfl (Below.refl _ _)
      · skip
        intro a wr hn hd HW hs; have ha := hasNil hn hd
        have ha := ha.add (seeF hs 21 3 (.string a0) KR KR)
        refine yStep ha 22 KR ?_; intro l_ ha HK
        refine stepsi ha 22 9 (.tmp 21) (.const (.int .i64 12)) a0 .i64 12 rfl KR KR KR (by decide) (show (12 : Int) < ((a0).size : Int) from hA5802) KR ?_; intro ax hax; exact HK _ _ _ hax rfl (Below.refl _ _)
      · skip
        intro a wr hn hd HW hs; have ha := hasNil hn hd
        have ha := ha.add (seeF hs 22 4 (.int .u8 (bt a0 12)) KR KR)
        refine yStep ha 23 KR ?_; intro l_ ha HK
        refine stepp ha 23 (.int .i64 (IntKind.wrap .i64 (bt a0 12))) KR KR ?_; intro ax hax; exact HK _ _ _ hax rfl (Below.refl _ _)
      · skip
        intro a wr hn hd HW hs; have ha := hasNil hn hd
        have ha := ha.add (seeE hs 0 (.string a0) KR KR)
        refine yStep ha 24 KR ?_; intro l_ ha HK
        refine stepp ha 24 (.string a0) KR KR ?_; intro ax hax; exact HK _ _ _ hax rfl (Below.refl _ _)
      · skip
        intro a wr hn hd HW hs; have ha := hasNil hn hd
        have ha := ha.add (seeF hs 24 6 (.string a0) KR KR)
        refine yStep ha 25 KR ?_; intro l_ ha HK
        refine stepsi ha 25 9 (.tmp 24) (.const (.int .i64 13)) a0 .i64 13 rfl KR KR KR (by decide) (show (13 : Int) < ((a0).size : Int) from hA5803) KR ?_; intro ax hax; exact HK _ _ _ hax rfl (Below.refl _ _)
      · skip
        intro a wr hn hd HW hs; have ha := hasNil hn hd
        have ha := ha.add (seeF hs 25 7 (.int .u8 (bt a0 13)) KR KR)
        refine yStep ha 26 KR ?_; intro l_ ha HK
        refine stepp ha 26 (.int .i64 (IntKind.wrap .i64 (bt a0 13))) KR KR ?_; intro ax hax; exact HK _ _ _ hax rfl (Below.refl _ _)
      · skip
        intro a wr hn hd HW hs; have ha := hasNil hn hd
        have ha := ha.add (seeE hs 4 (.int .u64 t5795.1) KR KR)
        refine yStep ha 27 KR ?_; intro l_ ha HK
        refine stepp ha 27 (.int .u64 t5795.1) KR KR ?_; intro ax hax; exact HK _ _ _ hax rfl (Below.refl _ _)
      · skip
        intro a wr hn hd HW hs; have ha := hasNil hn hd
        have ha := ha.add (seeF hs 27 9 (.int .u64 t5795.1) KR KR)
        refine yStep ha 28 KR ?_; intro l_ ha HK
        refine stepp ha 28 (.int .i64 (IntKind.wrap .i64 t5795.1)) KR KR ?_; intro ax hax; exact HK _ _ _ hax rfl (Below.refl _ _)
      · skip
        intro a wr hn hd HW hs; have ha := hasNil hn hd
        have ha := ha.add (seeF hs 20 2 (.int .i64 (IntKind.wrap .i64 (bt a0 2))) KR KR)
        have ha := ha.add (seeF hs 23 5 (.int .i64 (IntKind.wrap .i64 (bt a0 12))) KR KR)
        have ha := ha.add (seeF hs 26 8 (.int .i64 (IntKind.wrap .i64 (bt a0 13))) KR KR)
        have ha := ha.add (seeF hs 28 10 (.int .i64 (IntKind.wrap .i64 t5795.1)) KR KR)
        refine yStep ha 29 KR ?_; intro l_ ha HK
        refine stepp ha 29 (.agg #[.int .i64 (IntKind.wrap .i64 (bt a0 2)), .int .i64 (IntKind.wrap .i64 (bt a0 12)), .int .i64 (IntKind.wrap .i64 (bt a0 13)), .int .i64 (IntKind.wrap .i64 t5795.1)]) KR KR ?_; intro ax hax; exact HK _ _ _ hax rfl (Below.refl _ _)
      · skip
        intro a wr hn hd HW hs; have ha := hasNil hn hd
        refine yStep ha 6 KR ?_; intro l_ ha HK
        refine stepnew ha (Wd.refl wr) 6 #[.int .i64 0, .int .i64 0, .int .i64 0, .int .i64 0] 66 KR KR ?_; intro b5804 ax W5805 HV hax
        exact HK _ _ _ hax ⟨b5804, rfl, HW.callw HV⟩ HV.below
    · skip
      intro a W5806 ha HW he hf
      replace ha := ha.add (he 0 (.string a0) KR KR)
      replace ha := ha.add (he 2 (.pointer (some ⟨b5783, 0, none⟩)) KR KR)
      obtain ⟨b5804, he_, HW⟩ := gotB (w1 := w) (m := 13) (j := 12) (d := 6) (C := #[.int .i64 0, .int .i64 0, .int .i64 0, .int .i64 0]) (T := 66) (bs1 := [(b5783, .cells #[.int .i64 0, .int .i64 0, .int .i64 0, .int .i64 0] 66 (0, 0))]) (os1 := []) hf KR KR KR; replace ha := ha.add he_; clear he_
      replace ha := ha.add (gotF (m := 13) (j := 11) (d := 29) (v := .agg #[.int .i64 (IntKind.wrap .i64 (bt a0 2)), .int .i64 (IntKind.wrap .i64 (bt a0 12)), .int .i64 (IntKind.wrap .i64 (bt a0 13)), .int .i64 (IntKind.wrap .i64 t5795.1)]) hf KR KR KR)
      clear he hf
      refine stepst ha HW 0 (b := b5804) (C := #[.int .i64 0, .int .i64 0, .int .i64 0, .int .i64 0]) (T := 66) KR 66 0 (.tmp 6) (.tmp 29) (.agg #[.int .i64 (IntKind.wrap .i64 (bt a0 2)), .int .i64 (IntKind.wrap .i64 (bt a0 12)), .int .i64 (IntKind.wrap .i64 (bt a0 13)), .int .i64 (IntKind.wrap .i64 t5795.1)]) #[.int .i64 (IntKind.wrap .i64 (bt a0 2)), .int .i64 (IntKind.wrap .i64 (bt a0 12)), .int .i64 (IntKind.wrap .i64 (bt a0 13)), .int .i64 (IntKind.wrap .i64 t5795.1)] rfl KR KR KR KR KR KR KR ?_; clear ha HW a; intro a W5807 HW ha
      refine endl ?_
      refine thenN (hK5800 _ _ ?_); clear hK5800
      refine wp_seq_k (fun K5808 hK5809 => ?_)
      refine cutn (fun a W5816 => ∃ (x5815 : Int), sense_Parse.j0 K a0 x5815 = some r ∧ Has 48 [(0, .string a0), (2, .pointer (some ⟨b5783, 0, none⟩)), (6, .pointer (some ⟨b5804, 0, none⟩))] a ∧ Wd w W5816 [(b5783, .cells #[.int .i64 0, .int .i64 0, .int .i64 0, .int .i64 0] 66 (0, 0)), (b5804, .cells #[.int .i64 (IntKind.wrap .i64 (bt a0 2)), .int .i64 (IntKind.wrap .i64 (bt a0 12)), .int .i64 (IntKind.wrap .i64 (bt a0 13)), .int .i64 x5815] 66 (0, 0))] []) ?_ ?_
      · skip
        refine wp_seq_k (fun K5810 hK5811 => ?_)
        refine wp_region_lit ?_
        refine stepp ha 30 (.string a0) KR KR ?_; clear ha a; intro a ha
        obtain ⟨hA5812, h_⟩ := asrt_some h; clear h; have h := h_; clear h_
        refine stepsi ha 31 9 (.tmp 30) (.const (.int .i64 0)) a0 .i64 0 rfl KR KR KR (by decide) (show (0 : Int) < ((a0).size : Int) from hA5812) KR ?_; clear ha a; intro a ha
        refine stepp ha 32 (.bool ((bt a0 0) == 112)) KR KR ?_; clear ha a; intro a ha
        refine endl ?_
        refine thenN (hK5811 _ _ ?_); clear hK5811
        by_cases hp5813 : (bt a0 0) = 112
        · skip
          replace h := ite_pos' h hp5813
          refine condT ha KR KR (t := ((bt a0 0) == 112)) (ieq_t hp5813) ?_
          refine wp_region_lit ?_
          refine stepp ha 33 (.pointer (some ⟨b5804, 3, none⟩)) KR KR ?_; clear ha a; intro a ha
          refine stepst ha HW 0 (b := b5804) (C := #[.int .i64 (IntKind.wrap .i64 (bt a0 2)), .int .i64 (IntKind.wrap .i64 (bt a0 12)), .int .i64 (IntKind.wrap .i64 (bt a0 13)), .int .i64 (IntKind.wrap .i64 t5795.1)]) (T := 66) KR 3 3 (.tmp 33) (.const (.int .i64 (-1))) (.int .i64 (-1)) #[.int .i64 (IntKind.wrap .i64 (bt a0 2)), .int .i64 (IntKind.wrap .i64 (bt a0 12)), .int .i64 (IntKind.wrap .i64 (bt a0 13)), .int .i64 (-1)] rfl KR KR KR KR KR KR KR ?_; clear ha HW a; intro a W5814 HW ha
          refine endl ?_
          exact thenN ⟨(-1), h, ha.sub (subs_cons KR (subs_cons KR (subs_cons KR (subs_nil _)))), HW.pick [1, 0] [] (by decide) (by decide) KR KR⟩
        · skip
          replace h := ite_neg' h hp5813
          refine condF ha KR KR (t := ((bt a0 0) == 112)) (ieq_f hp5813) ?_
          refine wp_skip ?_
          exact thenN ⟨IntKind.wrap .i64 t5795.1, h, ha.sub (subs_cons KR (subs_cons KR (subs_cons KR (subs_nil _)))), HW.pick [1, 0] [] (by decide) (by decide) KR KR⟩
      · skip
        intro a W5816 hJ
        obtain ⟨x5815, h, ha, HW⟩ := hJ
        replace h : sense_Parse.j0 K a0 x5815 = some r := h
        unfold sense_Parse.j0 at h
        refine hK5809 _ _ ?_; clear hK5809
        refine wp_seq_k (fun K5817 hK5818 => ?_)
        refine wp_seq_k (fun K5819 hK5820 => ?_)
        refine wp_region_lit ?_
        refine stepl ha 35 (HW.ca (i := 1) (b := b5804) (C := #[.int .i64 (IntKind.wrap .i64 (bt a0 2)), .int .i64 (IntKind.wrap .i64 (bt a0 12)), .int .i64 (IntKind.wrap .i64 (bt a0 13)), .int .i64 x5815]) (T := 66) (fr := (0, 0)) KR) 66 0 (.tmp 6) (.agg #[.int .i64 (IntKind.wrap .i64 (bt a0 2)), .int .i64 (IntKind.wrap .i64 (bt a0 12)), .int .i64 (IntKind.wrap .i64 (bt a0 13)), .int .i64 x5815]) rfl KR KR KR ?_; clear ha a; intro a ha
        obtain ⟨t5821, ht5822, h_⟩ := bind_some' h; clear h; have h := h_; clear h_
        refine stepc ha 36 KR KR (sense_Bytes.calls K (⟨IntKind.wrap .i64 (bt a0 2), IntKind.wrap .i64 (bt a0 12), IntKind.wrap .i64 (bt a0 13), x5815⟩ : T_api_Sense) t5821 _ ht5822) ?_; clear ha a; rintro e W5823 ⟨rfl, HX5824⟩
        refine ⟨_, rfl, ?_⟩; intro a ha; replace HW := HW.callw HX5824; clear HX5824
        refine stepp ha 34 (.tuple #[.string t5821.1, .int .i64 t5821.2]) KR KR ?_; clear ha a; intro a ha
        refine stepp ha 37 (.string t5821.1) KR KR ?_; clear ha a; intro a ha
        refine stepp ha 38 (.int .i64 t5821.2) KR KR ?_; clear ha a; intro a ha
        refine stepp ha 7 (.string t5821.1) KR KR ?_; clear ha a; intro a ha
        refine stepp ha 8 (.int .i64 t5821.2) KR KR ?_; clear ha a; intro a ha
        refine endl ?_
        refine thenN (hK5820 _ _ ?_); clear hK5820
        refine wp_seq_k (fun K5825 hK5826 => ?_)
        refine wp_region_lit ?_
        refine stepp ha 39 (.int .i64 t5821.2) KR KR ?_; clear ha a; intro a ha
        refine stepp ha 40 (.bool (t5821.2 != 0)) KR KR ?_; clear ha a; intro a ha
        refine stepp ha 41 (.bool (t5821.2 != 0)) KR KR ?_; clear ha a; intro a ha
        by_cases hp5827 : t5821.2 = 0
        · skip
          replace h := ite_pos' h hp5827
          replace ha := ha.bool 41 KR (ineq_f hp5827)
          refine stepp ha 42 (.string t5821.1) KR KR ?_; clear ha a; intro a ha
          refine stepp ha 43 (.string a0) KR KR ?_; clear ha a; intro a ha
          refine stepp ha 44 (.bool (!(t5821.1.toList == a0.toList))) KR KR ?_; clear ha a; intro a ha
          refine stepp ha 45 (.bool (!(t5821.1.toList == a0.toList))) KR KR ?_; clear ha a; intro a ha
          refine endl ?_
          refine thenN (hK5826 _ _ ?_); clear hK5826
          by_cases hp5828 : t5821.1 = a0
          · skip
            replace h := ite_pos' h hp5828
            refine condF ha KR KR (t := (!(t5821.1.toList == a0.toList))) (str_ne_f hp5828) ?_
            refine wp_skip ?_
            refine thenN (hK5818 _ _ ?_); clear hK5818
            refine wp_seq_k (fun K5835 hK5836 => ?_)
            refine wp_region_lit ?_
            refine stepl ha 47 (HW.ca (i := 1) (b := b5804) (C := #[.int .i64 (IntKind.wrap .i64 (bt a0 2)), .int .i64 (IntKind.wrap .i64 (bt a0 12)), .int .i64 (IntKind.wrap .i64 (bt a0 13)), .int .i64 x5815]) (T := 66) (fr := (0, 0)) KR) 66 0 (.tmp 6) (.agg #[.int .i64 (IntKind.wrap .i64 (bt a0 2)), .int .i64 (IntKind.wrap .i64 (bt a0 12)), .int .i64 (IntKind.wrap .i64 (bt a0 13)), .int .i64 x5815]) rfl KR KR KR ?_; clear ha a; intro a ha
            refine stepst ha HW 0 (b := b5783) (C := #[.int .i64 0, .int .i64 0, .int .i64 0, .int .i64 0]) (T := 66) KR 66 0 (.tmp 2) (.tmp 47) (.agg #[.int .i64 (IntKind.wrap .i64 (bt a0 2)), .int .i64 (IntKind.wrap .i64 (bt a0 12)), .int .i64 (IntKind.wrap .i64 (bt a0 13)), .int .i64 x5815]) #[.int .i64 (IntKind.wrap .i64 (bt a0 2)), .int .i64 (IntKind.wrap .i64 (bt a0 12)), .int .i64 (IntKind.wrap .i64 (bt a0 13)), .int .i64 x5815] rfl KR KR KR KR KR KR KR ?_; clear ha HW a; intro a W5837 HW ha
            refine stepp ha 3 (.int .i64 0) KR KR ?_; clear ha a; intro a ha
            refine endl ?_
            refine thenN (hK5836 _ _ ?_); clear hK5836
            refine wp_ret ?_
            obtain rfl := Option.some.inj h
            exact finv ha _ _ rfl (.cell (ad := ⟨b5783, 0, none⟩) (v := .agg #[.int .i64 (IntKind.wrap .i64 (bt a0 2)), .int .i64 (IntKind.wrap .i64 (bt a0 12)), .int .i64 (IntKind.wrap .i64 (bt a0 13)), .int .i64 x5815]) KR (run_loadVar_ca0 (HW.ca (i := 0) (b := b5783) (C := #[.int .i64 (IntKind.wrap .i64 (bt a0 2)), .int .i64 (IntKind.wrap .i64 (bt a0 12)), .int .i64 (IntKind.wrap .i64 (bt a0 13)), .int .i64 x5815]) (T := 66) (fr := (0, 0)) KR) 66 0 (.agg #[.int .i64 (IntKind.wrap .i64 (bt a0 2)), .int .i64 (IntKind.wrap .i64 (bt a0 12)), .int .i64 (IntKind.wrap .i64 (bt a0 13)), .int .i64 x5815]) KR) (.tmp (v := .int .i64 0) KR .nil)) (.tuple #[.agg #[.int .i64 (IntKind.wrap .i64 (bt a0 2)), .int .i64 (IntKind.wrap .i64 (bt a0 12)), .int .i64 (IntKind.wrap .i64 (bt a0 13)), .int .i64 x5815], .int .i64 0]) rfl ⟨rfl, HW.pick [] [] (by decide) (by decide) rfl KR⟩
          · skip
            replace h := ite_neg' h hp5828
            refine condT ha KR KR (t := (!(t5821.1.toList == a0.toList))) (str_ne_t hp5828) ?_
            refine wp_seq_k (fun K5829 hK5830 => ?_)
            refine wp_region_lit ?_
            refine stepp ha 46 (.agg #[.int .i64 0, .int .i64 0, .int .i64 0, .int .i64 0]) KR KR ?_; clear ha a; intro a ha
            refine stepst ha HW 0 (b := b5783) (C := #[.int .i64 0, .int .i64 0, .int .i64 0, .int .i64 0]) (T := 66) KR 66 0 (.tmp 2) (.tmp 46) (.agg #[.int .i64 0, .int .i64 0, .int .i64 0, .int .i64 0]) #[.int .i64 0, .int .i64 0, .int .i64 0, .int .i64 0] rfl KR KR KR KR KR KR KR ?_; clear ha HW a; intro a W5831 HW ha
            refine stepp ha 3 (.int .i64 160) KR KR ?_; clear ha a; intro a ha
            refine endl ?_
            refine thenN (hK5830 _ _ ?_); clear hK5830
            refine wp_ret ?_
            refine thenR ?_
            obtain rfl := Option.some.inj h
            exact finv ha _ _ rfl (.cell (ad := ⟨b5783, 0, none⟩) (v := .agg #[.int .i64 0, .int .i64 0, .int .i64 0, .int .i64 0]) KR (run_loadVar_ca0 (HW.ca (i := 0) (b := b5783) (C := #[.int .i64 0, .int .i64 0, .int .i64 0, .int .i64 0]) (T := 66) (fr := (0, 0)) KR) 66 0 (.agg #[.int .i64 0, .int .i64 0, .int .i64 0, .int .i64 0]) KR) (.tmp (v := .int .i64 160) KR .nil)) (.tuple #[.agg #[.int .i64 0, .int .i64 0, .int .i64 0, .int .i64 0], .int .i64 160]) rfl ⟨rfl, HW.pick [] [] (by decide) (by decide) rfl KR⟩
        · skip
          replace h := ite_neg' h hp5827
          replace ha := ha.bool 41 KR (ineq_t hp5827)
          refine stepo ha 42 KR ?_; clear ha a; intro a ha
          refine stepo ha 43 KR ?_; clear ha a; intro a ha
          refine stepo ha 44 KR ?_; clear ha a; intro a ha
          refine stepp ha 45 (.bool true) KR KR ?_; clear ha a; intro a ha
          refine endl ?_
          refine thenN (hK5826 _ _ ?_); clear hK5826
          refine condT ha KR KR (t := true) (rfl) ?_
          refine wp_seq_k (fun K5832 hK5833 => ?_)
          refine wp_region_lit ?_
          refine stepp ha 46 (.agg #[.int .i64 0, .int .i64 0, .int .i64 0, .int .i64 0]) KR KR ?_; clear ha a; intro a ha
          refine stepst ha HW 0 (b := b5783) (C := #[.int .i64 0, .int .i64 0, .int .i64 0, .int .i64 0]) (T := 66) KR 66 0 (.tmp 2) (.tmp 46) (.agg #[.int .i64 0, .int .i64 0, .int .i64 0, .int .i64 0]) #[.int .i64 0, .int .i64 0, .int .i64 0, .int .i64 0] rfl KR KR KR KR KR KR KR ?_; clear ha HW a; intro a W5834 HW ha
          refine stepp ha 3 (.int .i64 160) KR KR ?_; clear ha a; intro a ha
          refine endl ?_
          refine thenN (hK5833 _ _ ?_); clear hK5833
          refine wp_ret ?_
          refine thenR ?_
          obtain rfl := Option.some.inj h
          exact finv ha _ _ rfl (.cell (ad := ⟨b5783, 0, none⟩) (v := .agg #[.int .i64 0, .int .i64 0, .int .i64 0, .int .i64 0]) KR (run_loadVar_ca0 (HW.ca (i := 0) (b := b5783) (C := #[.int .i64 0, .int .i64 0, .int .i64 0, .int .i64 0]) (T := 66) (fr := (0, 0)) KR) 66 0 (.agg #[.int .i64 0, .int .i64 0, .int .i64 0, .int .i64 0]) KR) (.tmp (v := .int .i64 160) KR .nil)) (.tuple #[.agg #[.int .i64 0, .int .i64 0, .int .i64 0, .int .i64 0], .int .i64 160]) rfl ⟨rfl, HW.pick [] [] (by decide) (by decide) rfl KR⟩
  · skip
    replace h := ite_neg' h hp5789
    refine condT ha KR KR (t := ((a0.size : Int) != 18)) (ineq_t hp5789) ?_
    refine wp_seq_k (fun K5790 hK5791 => ?_)
    refine wp_region_lit ?_
    refine stepp ha 12 (.agg #[.int .i64 0, .int .i64 0, .int .i64 0, .int .i64 0]) KR KR ?_; clear ha a; intro a ha
    refine stepst ha HW 0 (b := b5783) (C := #[.int .i64 0, .int .i64 0, .int .i64 0, .int .i64 0]) (T := 66) KR 66 0 (.tmp 2) (.tmp 12) (.agg #[.int .i64 0, .int .i64 0, .int .i64 0, .int .i64 0]) #[.int .i64 0, .int .i64 0, .int .i64 0, .int .i64 0] rfl KR KR KR KR KR KR KR ?_; clear ha HW a; intro a W5792 HW ha
    refine stepp ha 3 (.int .i64 160) KR KR ?_; clear ha a; intro a ha
    refine endl ?_
    refine thenN (hK5791 _ _ ?_); clear hK5791
    refine wp_ret ?_
    refine thenR ?_
    obtain rfl := Option.some.inj h
    exact finv ha _ _ rfl (.cell (ad := ⟨b5783, 0, none⟩) (v := .agg #[.int .i64 0, .int .i64 0, .int .i64 0, .int .i64 0]) KR (run_loadVar_ca0 (HW.ca (i := 0) (b := b5783) (C := #[.int .i64 0, .int .i64 0, .int .i64 0, .int .i64 0]) (T := 66) (fr := (0, 0)) KR) 66 0 (.agg #[.int .i64 0, .int .i64 0, .int .i64 0, .int .i64 0]) KR) (.tmp (v := .int .i64 160) KR .nil)) (.tuple #[.agg #[.int .i64 0, .int .i64 0, .int .i64 0, .int .i64 0], .int .i64 160]) rfl ⟨rfl, HW.pick [] [] (by decide) (by decide) rfl KR⟩
end Go.Proofs.YthjjbkgifelooaaDoor.F
