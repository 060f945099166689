/- headgate/headgateref17.Capacity, headgate/headgateref17.List, headgate/headgatelaw17.InquiryLists: plain functions, and that the calls come to what they say. No condition. -/
import Derived.Test.YtccmdlbdpapigaaFT
import Derived.Test.YtccmdlbdpapigaaF13
import Derived.Test.YtccmdlbdpapigaaF22
import Derived.Test.YtccmdlbdpapigaaF27
namespace Go.Proofs.Ytccmdlbdpapigaa.F
open Go Go.RowKit Go.Proofs.Ytccmdlbdpapigaa.X
set_option linter.unusedVariables false
set_option linter.unusedSimpArgs false
/-! ### headgate/headgateref17.Capacity: function 12 -/
def headgateref17_Capacity.j0 (K : Nat) (x780 : Int) : Option ByteArray :=
  (headgateref01_PutBig.f K (IntKind.wrap .u64 (IntKind.wrap .i64 (x780 - 1))) 4).bind fun t784 => ((headgateref01_PutBig.f K 512 4).bind fun t788 => (asrt (t784.size + t788.size ≤ 9223372036854775807) (some (t784 ++ t788))))
def headgateref17_Capacity.f (K : Nat) (a0 : Int) : Option ByteArray :=
  if a0 < 1 then (headgateref17_Capacity.j0 K  1) else (if a0 ≥ 4294967296 then (headgateref17_Capacity.j0 K  1) else (headgateref17_Capacity.j0 K  a0))
set_option maxRecDepth 100000 in
set_option maxHeartbeats 4000000 in
theorem headgateref17_Capacity.calls (K : Nat) (a0 : Int)  (r : ByteArray) (w : World)  (h : headgateref17_Capacity.f K a0 = some r) :
    Calls Try.prog 12 #[.int .i64 a0] w (fun e W' => e = .returned (.string r) ∧ Wd w W' [] [] ) := by
  refine sxstart (n := 15) (l := [(0, .int .i64 a0)]) Try.func12 rfl rfl (Nat.le_of_ble_eq_true KR) (subsA_cons rfl (subsA_nil _)) ?_
  intro a ha
  have HW := Wd.refl w
  unfold headgateref17_Capacity.f at h
  refine wp_seq_k (fun K772 hK773 => ?_)
  refine wp_region_lit ?_
  refine stepp ha 2 (.string (⟨#[]⟩ : ByteArray)) KR KR ?_; clear ha a; intro a ha
  refine endl ?_
  refine thenN (hK773 _ _ ?_); clear hK773
  refine wp_seq_k (fun K774 hK775 => ?_)
  refine cutn (fun a W781 => ∃ (x780 : Int), headgateref17_Capacity.j0 K  x780 = some r ∧ Has 15 [(0, .int .i64 x780)] a ∧ Wd w W781 [] []) ?_ ?_
  · skip
    refine wp_seq_k (fun K776 hK777 => ?_)
    refine wp_region_lit ?_
    refine stepp ha 3 (.int .i64 a0) KR KR ?_; clear ha a; intro a ha
    refine stepp ha 4 (.bool (decide (a0 < 1))) KR KR ?_; clear ha a; intro a ha
    refine stepp ha 5 (.bool (decide (a0 < 1))) KR KR ?_; clear ha a; intro a ha
    by_cases hp778 : a0 < 1
    · skip
      replace h := ite_pos' h hp778
      replace ha := ha.bool 5 KR (decide_eq_true hp778)
      refine stepo ha 6 KR ?_; clear ha a; intro a ha
      refine stepo ha 7 KR ?_; clear ha a; intro a ha
      refine stepp ha 8 (.bool true) KR KR ?_; clear ha a; intro a ha
      refine endl ?_
      refine thenN (hK777 _ _ ?_); clear hK777
      refine condT ha KR KR (t := true) (rfl) ?_
      refine wp_region_lit ?_
      refine stepp ha 0 (.int .i64 1) KR KR ?_; clear ha a; intro a ha
      refine endl ?_
      exact thenN ⟨1, h, ha.sub (subs_cons KR (subs_nil _)), HW.pick [] [] (by decide) (by decide) KR KR⟩
    · skip
      replace h := ite_neg' h hp778
      replace ha := ha.bool 5 KR (decide_eq_false hp778)
      refine stepp ha 6 (.int .i64 a0) KR KR ?_; clear ha a; intro a ha
      refine stepp ha 7 (.bool (decide (a0 ≥ 4294967296))) KR KR ?_; clear ha a; intro a ha
      refine stepp ha 8 (.bool (decide (a0 ≥ 4294967296))) KR KR ?_; clear ha a; intro a ha
      refine endl ?_
      refine thenN (hK777 _ _ ?_); clear hK777
      by_cases hp779 : a0 ≥ 4294967296
      · skip
        replace h := ite_pos' h hp779
        refine condT ha KR KR (t := decide (a0 ≥ 4294967296)) (decide_eq_true hp779) ?_
        refine wp_region_lit ?_
        refine stepp ha 0 (.int .i64 1) KR KR ?_; clear ha a; intro a ha
        refine endl ?_
        exact thenN ⟨1, h, ha.sub (subs_cons KR (subs_nil _)), HW.pick [] [] (by decide) (by decide) KR KR⟩
      · skip
        replace h := ite_neg' h hp779
        refine condF ha KR KR (t := decide (a0 ≥ 4294967296)) (decide_eq_false hp779) ?_
        refine wp_skip ?_
        exact thenN ⟨a0, h, ha.sub (subs_cons KR (subs_nil _)), HW.pick [] [] (by decide) (by decide) KR KR⟩
  · skip
    intro a W781 hJ
    obtain ⟨x780, h, ha, HW⟩ := hJ
    replace h : headgateref17_Capacity.j0 K  x780 = some r := h
    unfold headgateref17_Capacity.j0 at h
    refine hK775 _ _ ?_; clear hK775
    refine wp_seq_k (fun K782 hK783 => ?_)
    refine wp_region_lit ?_
    refine stepp ha 9 (.int .i64 x780) KR KR ?_; clear ha a; intro a ha
    refine stepp ha 10 (.int .i64 (IntKind.wrap .i64 (x780 - 1))) KR KR ?_; clear ha a; intro a ha
    refine stepp ha 11 (.int .u64 (IntKind.wrap .u64 (IntKind.wrap .i64 (x780 - 1)))) KR KR ?_; clear ha a; intro a ha
    obtain ⟨t784, ht785, h_⟩ := bind_some' h; clear h; have h := h_; clear h_
    refine stepc ha 12 KR KR (headgateref01_PutBig.calls K (IntKind.wrap .u64 (IntKind.wrap .i64 (x780 - 1))) 4 t784 _ ht785) ?_; clear ha a; rintro e W786 ⟨rfl, HX787⟩
    refine ⟨_, rfl, ?_⟩; intro a ha; replace HW := HW.callw HX787; clear HX787
    obtain ⟨t788, ht789, h_⟩ := bind_some' h; clear h; have h := h_; clear h_
    refine stepc ha 13 KR KR (headgateref01_PutBig.calls K 512 4 t788 _ ht789) ?_; clear ha a; rintro e W790 ⟨rfl, HX791⟩
    refine ⟨_, rfl, ?_⟩; intro a ha; replace HW := HW.callw HX791; clear HX791
    obtain ⟨hA792, h_⟩ := asrt_some h; clear h; have h := h_; clear h_
    refine stepsa ha 14 9 9 (.tmp 12) (.tmp 13) t784 t788 rfl KR KR (show (t784).size + (t788).size ≤ 9223372036854775807 from hA792) KR ?_; clear ha a; intro a ha
    refine stepp ha 2 (.string (t784 ++ t788)) KR KR ?_; clear ha a; intro a ha
    refine endl ?_
    refine thenN (hK783 _ _ ?_); clear hK783
    refine wp_ret ?_
    obtain rfl := Option.some.inj h
    exact finv ha _ _ rfl (.tmp (v := .string (t784 ++ t788)) KR .nil) (.string (t784 ++ t788)) rfl ⟨rfl, HW.pick [] [] (by decide) (by decide) rfl KR⟩
/-! ### headgate/headgateref17.List: function 14 -/
def headgateref17_List.b0 (K : Nat) (x946 : Int) (again1005 : ByteArray → Int → Option ByteArray) (x1006 : ByteArray) (x1007 : Int) : Option ByteArray :=
  if x1007 < x946 then (asrt (1 + (strOfNums ([IntKind.wrap .u8 x1007] : List Int)).size ≤ 9223372036854775807) ((headgateref17_zeros.f 6).bind fun t1023 => (asrt (((⟨#[0]⟩ : ByteArray) ++ (strOfNums ([IntKind.wrap .u8 x1007] : List Int))).size + t1023.size ≤ 9223372036854775807) (asrt (x1006.size + (((⟨#[0]⟩ : ByteArray) ++ (strOfNums ([IntKind.wrap .u8 x1007] : List Int))) ++ t1023).size ≤ 9223372036854775807) (again1005 (x1006 ++ (((⟨#[0]⟩ : ByteArray) ++ (strOfNums ([IntKind.wrap .u8 x1007] : List Int))) ++ t1023)) (IntKind.wrap .i64 (x1007 + 1))))))) else (some x1006)
def headgateref17_List.l0 (K : Nat) (x946 : Int) : Nat → ByteArray → Int → Option ByteArray
  | 0, _, _ => none
  | k_ + 1, x1006, x1007 => headgateref17_List.b0 K x946 (headgateref17_List.l0 K x946 k_) x1006 x1007
def headgateref17_List.j0 (K : Nat) (x946 : Int) : Option ByteArray :=
  (headgateref01_PutBig.f K (IntKind.wrap .u64 (IntKind.wrap .i64 (8 * x946))) 4).bind fun t950 => ((headgateref17_zeros.f 4).bind fun t954 => (asrt (t950.size + t954.size ≤ 9223372036854775807) (headgateref17_List.l0 K x946 K (t950 ++ t954) 0)))
def headgateref17_List.f (K : Nat) (a0 : Int) : Option ByteArray :=
  if a0 < 0 then (headgateref17_List.j0 K  0) else (if a0 > 256 then (headgateref17_List.j0 K  0) else (headgateref17_List.j0 K  a0))
set_option maxRecDepth 100000 in
set_option maxHeartbeats 4000000 in
theorem headgateref17_List.calls (K : Nat) (a0 : Int)  (r : ByteArray) (w : World)  (h : headgateref17_List.f K a0 = some r) :
    Calls Try.prog 14 #[.int .i64 a0] w (fun e W' => e = .returned (.string r) ∧ Wd w W' [] [] ) := by
  refine sxstart (n := 32) (l := [(0, .int .i64 a0)]) Try.func14 rfl rfl (Nat.le_of_ble_eq_true KR) (subsA_cons rfl (subsA_nil _)) ?_
  intro a ha
  have HW := Wd.refl w
  unfold headgateref17_List.f at h
  refine wp_seq_k (fun K938 hK939 => ?_)
  refine wp_region_lit ?_
  refine stepp ha 2 (.string (⟨#[]⟩ : ByteArray)) KR KR ?_; clear ha a; intro a ha
  refine endl ?_
  refine thenN (hK939 _ _ ?_); clear hK939
  refine wp_seq_k (fun K940 hK941 => ?_)
  refine cutn (fun a W947 => ∃ (x946 : Int), headgateref17_List.j0 K  x946 = some r ∧ Has 32 [(0, .int .i64 x946)] a ∧ Wd w W947 [] []) ?_ ?_
  · skip
    refine wp_seq_k (fun K942 hK943 => ?_)
    refine wp_region_lit ?_
    refine stepp ha 5 (.int .i64 a0) KR KR ?_; clear ha a; intro a ha
    refine stepp ha 6 (.bool (decide (a0 < 0))) KR KR ?_; clear ha a; intro a ha
    refine stepp ha 7 (.bool (decide (a0 < 0))) KR KR ?_; clear ha a; intro a ha
    by_cases hp944 : a0 < 0
    · skip
      replace h := ite_pos' h hp944
      replace ha := ha.bool 7 KR (decide_eq_true hp944)
      refine stepo ha 8 KR ?_; clear ha a; intro a ha
      refine stepo ha 9 KR ?_; clear ha a; intro a ha
      refine stepp ha 10 (.bool true) KR KR ?_; clear ha a; intro a ha
      refine endl ?_
      refine thenN (hK943 _ _ ?_); clear hK943
      refine condT ha KR KR (t := true) (rfl) ?_
      refine wp_region_lit ?_
      refine stepp ha 0 (.int .i64 0) KR KR ?_; clear ha a; intro a ha
      refine endl ?_
      exact thenN ⟨0, h, ha.sub (subs_cons KR (subs_nil _)), HW.pick [] [] (by decide) (by decide) KR KR⟩
    · skip
      replace h := ite_neg' h hp944
      replace ha := ha.bool 7 KR (decide_eq_false hp944)
      refine stepp ha 8 (.int .i64 a0) KR KR ?_; clear ha a; intro a ha
      refine stepp ha 9 (.bool (decide (a0 > 256))) KR KR ?_; clear ha a; intro a ha
      refine stepp ha 10 (.bool (decide (a0 > 256))) KR KR ?_; clear ha a; intro a ha
      refine endl ?_
      refine thenN (hK943 _ _ ?_); clear hK943
      by_cases hp945 : a0 > 256
      · skip
        replace h := ite_pos' h hp945
        refine condT ha KR KR (t := decide (a0 > 256)) (decide_eq_true hp945) ?_
        refine wp_region_lit ?_
        refine stepp ha 0 (.int .i64 0) KR KR ?_; clear ha a; intro a ha
        refine endl ?_
        exact thenN ⟨0, h, ha.sub (subs_cons KR (subs_nil _)), HW.pick [] [] (by decide) (by decide) KR KR⟩
      · skip
        replace h := ite_neg' h hp945
        refine condF ha KR KR (t := decide (a0 > 256)) (decide_eq_false hp945) ?_
        refine wp_skip ?_
        exact thenN ⟨a0, h, ha.sub (subs_cons KR (subs_nil _)), HW.pick [] [] (by decide) (by decide) KR KR⟩
  · skip
    intro a W947 hJ
    obtain ⟨x946, h, ha, HW⟩ := hJ
    replace h : headgateref17_List.j0 K  x946 = some r := h
    unfold headgateref17_List.j0 at h
    refine hK941 _ _ ?_; clear hK941
    refine wp_seq_k (fun K948 hK949 => ?_)
    refine wp_region_lit ?_
    refine stepp ha 11 (.int .i64 x946) KR KR ?_; clear ha a; intro a ha
    refine stepp ha 12 (.int .i64 (IntKind.wrap .i64 (8 * x946))) KR KR ?_; clear ha a; intro a ha
    refine stepp ha 13 (.int .u64 (IntKind.wrap .u64 (IntKind.wrap .i64 (8 * x946)))) KR KR ?_; clear ha a; intro a ha
    obtain ⟨t950, ht951, h_⟩ := bind_some' h; clear h; have h := h_; clear h_
    refine stepc ha 14 KR KR (headgateref01_PutBig.calls K (IntKind.wrap .u64 (IntKind.wrap .i64 (8 * x946))) 4 t950 _ ht951) ?_; clear ha a; rintro e W952 ⟨rfl, HX953⟩
    refine ⟨_, rfl, ?_⟩; intro a ha; replace HW := HW.callw HX953; clear HX953
    obtain ⟨t954, ht955, h_⟩ := bind_some' h; clear h; have h := h_; clear h_
    refine stepc ha 15 KR KR (headgateref17_zeros.calls 4 t954 _ ht955) ?_; clear ha a; rintro e W956 ⟨rfl, HX957⟩
    refine ⟨_, rfl, ?_⟩; intro a ha; replace HW := HW.callw HX957; clear HX957
    obtain ⟨hA958, h_⟩ := asrt_some h; clear h; have h := h_; clear h_
    refine stepsa ha 16 9 9 (.tmp 14) (.tmp 15) t950 t954 rfl KR KR (show (t950).size + (t954).size ≤ 9223372036854775807 from hA958) KR ?_; clear ha a; intro a ha
    refine stepp ha 3 (.string (t950 ++ t954)) KR KR ?_; clear ha a; intro a ha
    refine endl ?_
    refine thenN (hK949 _ _ ?_); clear hK949
    refine wp_seq_k (fun K959 hK960 => ?_)
    refine wp_seq_k (fun K961 hK962 => ?_)
    refine wp_region_lit ?_
    refine stepp ha 4 (.int .i64 0) KR KR ?_; clear ha a; intro a ha
    refine endl ?_
    refine thenN (hK962 _ _ ?_); clear hK962
    refine wp_block ?_
    refine loopk (fun k => fun a W1008 => ∃ (x1006 : ByteArray), ∃ (x1007 : Int), headgateref17_List.l0 K x946 k x1006 x1007 = some r ∧ Has 32 [(0, .int .i64 x946), (3, .string x1006), (4, .int .i64 x1007)] a ∧ Wd w W1008 [] []) K ?_ ?_
    · skip
      exact ⟨t950 ++ t954, 0, h, ha.sub (subs_cons KR (subs_cons KR (subs_cons KR (subs_nil _)))), HW.pick [] [] (by decide) (by decide) KR KR⟩
    · skip
      intro k a W1008 hI
      obtain ⟨x1006, x1007, h, ha, HW⟩ := hI
      cases k with
      | zero => exact (none_some (show none = some r from h)).elim
      | succ k1009 =>
        replace h : headgateref17_List.b0 K x946 (headgateref17_List.l0 K x946 k1009) x1006 x1007 = some r := h
        obtain ⟨again1005, hag1010⟩ : ∃ g_, g_ = headgateref17_List.l0 K x946 k1009 := ⟨_, rfl⟩
        rw [← hag1010] at h
        unfold headgateref17_List.b0 at h
        refine wp_seq_k (fun K1011 hK1012 => ?_)
        refine wp_seq_k (fun K1013 hK1014 => ?_)
        refine wp_region_lit ?_
        refine stepp ha 17 (.int .i64 x1007) KR KR ?_; clear ha a; intro a ha
        refine stepp ha 18 (.int .i64 x946) KR KR ?_; clear ha a; intro a ha
        refine stepp ha 19 (.bool (decide (x1007 < x946))) KR KR ?_; clear ha a; intro a ha
        refine endl ?_
        refine thenN (hK1014 _ _ ?_); clear hK1014
        by_cases hp1015 : x1007 < x946
        · skip
          replace h := ite_pos' h hp1015
          refine condT ha KR KR (t := decide (x1007 < x946)) (decide_eq_true hp1015) ?_
          refine wp_skip ?_
          refine thenN (hK1012 _ _ ?_); clear hK1012
          refine wp_seq_k (fun K1016 hK1017 => ?_)
          refine wp_block ?_
          obtain ⟨hA1022, h_⟩ := asrt_some h; clear h; have h := h_; clear h_
          obtain ⟨t1023, ht1024, h_⟩ := bind_some' h; clear h; have h := h_; clear h_
          obtain ⟨hA1027, h_⟩ := asrt_some h; clear h; have h := h_; clear h_
          obtain ⟨hA1028, h_⟩ := asrt_some h; clear h; have h := h_; clear h_
          refine regionG 9 KR KR ha HW [.fix (.string x1006), .fix (.int .i64 x1007), .fix (.int .u8 (IntKind.wrap .u8 x1007)), .lit w 5 ([IntKind.wrap .u8 x1007] : List Int).length #[.int .u8 (IntKind.wrap .u8 x1007)] [] [], .fix (.string (strOfNums ([IntKind.wrap .u8 x1007] : List Int))), .fix (.string ((⟨#[0]⟩ : ByteArray) ++ (strOfNums ([IntKind.wrap .u8 x1007] : List Int)))), .fix (.string t1023), .fix (.string (((⟨#[0]⟩ : ByteArray) ++ (strOfNums ([IntKind.wrap .u8 x1007] : List Int))) ++ t1023)), .fix (.string (x1006 ++ (((⟨#[0]⟩ : ByteArray) ++ (strOfNums ([IntKind.wrap .u8 x1007] : List Int))) ++ t1023)))] ?_ ?_
          · skip
            refine ⟨?_, ?_, ?_, ?_, ?_, ?_, ?_, ?_, ?_, trivial⟩
            · skip
              intro a wr hn hd HW hs; have ha := hasNil hn hd
              have ha := ha.add (seeE hs 3 (.string x1006) KR KR)
              refine yStep ha 22 KR ?_; intro l_ ha HK
              refine stepp ha 22 (.string x1006) KR KR ?_; intro ax hax; exact HK _ _ _ hax rfl (Below.refl _ _)
            · skip
              intro a wr hn hd HW hs; have ha := hasNil hn hd
              have ha := ha.add (seeE hs 4 (.int .i64 x1007) KR KR)
              refine yStep ha 23 KR ?_; intro l_ ha HK
              refine stepp ha 23 (.int .i64 x1007) KR KR ?_; intro ax hax; exact HK _ _ _ hax rfl (Below.refl _ _)
            · skip
              intro a wr hn hd HW hs; have ha := hasNil hn hd
              have ha := ha.add (seeF hs 23 1 (.int .i64 x1007) KR KR)
              refine yStep ha 24 KR ?_; intro l_ ha HK
              refine stepp ha 24 (.int .u8 (IntKind.wrap .u8 x1007)) KR KR ?_; intro ax hax; exact HK _ _ _ hax rfl (Below.refl _ _)
            · skip
              intro a wr hn hd HW hs; have ha := hasNil hn hd
              have ha := ha.add (seeF hs 24 2 (.int .u8 (IntKind.wrap .u8 x1007)) KR KR)
              refine yStep ha 25 KR ?_; intro l_ ha HK
              refine stepbk ha (Wd.refl wr) 25 5 1 #[.int .u8 (IntKind.wrap .u8 x1007)] KR KR ?_; intro b1018 ax W1019 HV hax
              exact HK _ _ _ hax ⟨b1018, rfl, HW.callw HV⟩ HV.below
            · skip
              intro a wr hn hd HW hs; have ha := hasNil hn hd
              obtain ⟨b1018, he_, hR1021⟩ := seeL (enc := (encI .u8)) hs 25 3 1 5 #[.int .u8 (IntKind.wrap .u8 x1007)] ([IntKind.wrap .u8 x1007] : List Int) (w1 := w) (bs1 := []) (os1 := []) KR KR (fun _ => rfl) rfl; have ha := ha.add he_
              refine yStep ha 26 KR ?_; intro l_ ha HK
              refine stepbt ha 26 51 9 5 (.tmp 25) (v := .slice (some ⟨b1018, 0, none⟩) ([IntKind.wrap .u8 x1007] : List Int).length (([IntKind.wrap .u8 x1007] : List Int).length)) (xs := ([IntKind.wrap .u8 x1007] : List Int)) hR1021 rfl KR KR KR KR KR ?_; intro ax hax; exact HK _ _ _ hax rfl (Below.refl _ _)
            · skip
              intro a wr hn hd HW hs; have ha := hasNil hn hd
              have ha := ha.add (seeF hs 26 4 (.string (strOfNums ([IntKind.wrap .u8 x1007] : List Int))) KR KR)
              refine yStep ha 27 KR ?_; intro l_ ha HK
              refine stepsa ha 27 9 9 (.const (.string (⟨#[0]⟩ : ByteArray))) (.tmp 26) (⟨#[0]⟩ : ByteArray) (strOfNums ([IntKind.wrap .u8 x1007] : List Int)) rfl KR KR (show ((⟨#[0]⟩ : ByteArray)).size + (strOfNums ([IntKind.wrap .u8 x1007] : List Int)).size ≤ 9223372036854775807 from hA1022) KR ?_; intro ax hax; exact HK _ _ _ hax rfl (Below.refl _ _)
            · skip
              intro a wr hn hd HW hs; have ha := hasNil hn hd
              refine yStep ha 28 KR ?_; intro l_ ha HK
              refine stepc ha 28 KR KR (headgateref17_zeros.calls 6 t1023 _ ht1024) ?_; rintro e W1025 ⟨rfl, HX1026⟩
              refine ⟨_, rfl, ?_⟩; intro ax hax; exact HK _ _ _ hax rfl HX1026.below
            · skip
              intro a wr hn hd HW hs; have ha := hasNil hn hd
              have ha := ha.add (seeF hs 27 5 (.string ((⟨#[0]⟩ : ByteArray) ++ (strOfNums ([IntKind.wrap .u8 x1007] : List Int)))) KR KR)
              have ha := ha.add (seeF hs 28 6 (.string t1023) KR KR)
              refine yStep ha 29 KR ?_; intro l_ ha HK
              refine stepsa ha 29 9 9 (.tmp 27) (.tmp 28) ((⟨#[0]⟩ : ByteArray) ++ (strOfNums ([IntKind.wrap .u8 x1007] : List Int))) t1023 rfl KR KR (show ((⟨#[0]⟩ : ByteArray) ++ (strOfNums ([IntKind.wrap .u8 x1007] : List Int))).size + (t1023).size ≤ 9223372036854775807 from hA1027) KR ?_; intro ax hax; exact HK _ _ _ hax rfl (Below.refl _ _)
            · skip
              intro a wr hn hd HW hs; have ha := hasNil hn hd
              have ha := ha.add (seeF hs 22 0 (.string x1006) KR KR)
              have ha := ha.add (seeF hs 29 7 (.string (((⟨#[0]⟩ : ByteArray) ++ (strOfNums ([IntKind.wrap .u8 x1007] : List Int))) ++ t1023)) KR KR)
              refine yStep ha 30 KR ?_; intro l_ ha HK
              refine stepsa ha 30 9 9 (.tmp 22) (.tmp 29) x1006 (((⟨#[0]⟩ : ByteArray) ++ (strOfNums ([IntKind.wrap .u8 x1007] : List Int))) ++ t1023) rfl KR KR (show (x1006).size + (((⟨#[0]⟩ : ByteArray) ++ (strOfNums ([IntKind.wrap .u8 x1007] : List Int))) ++ t1023).size ≤ 9223372036854775807 from hA1028) KR ?_; intro ax hax; exact HK _ _ _ hax rfl (Below.refl _ _)
          · skip
            intro a W1029 ha HW he hf
            replace ha := ha.add (he 0 (.int .i64 x946) KR KR)
            replace ha := ha.add (he 4 (.int .i64 x1007) KR KR)
            replace ha := ha.add (gotF (m := 9) (j := 8) (d := 30) (v := .string (x1006 ++ (((⟨#[0]⟩ : ByteArray) ++ (strOfNums ([IntKind.wrap .u8 x1007] : List Int))) ++ t1023))) hf KR KR KR)
            clear he hf
            refine stepp ha 3 (.string (x1006 ++ (((⟨#[0]⟩ : ByteArray) ++ (strOfNums ([IntKind.wrap .u8 x1007] : List Int))) ++ t1023))) KR KR ?_; clear ha a; intro a ha
            refine endl ?_
            refine blkN ?_
            refine thenN (hK1017 _ _ ?_); clear hK1017
            refine wp_region_lit ?_
            refine stepp ha 20 (.int .i64 x1007) KR KR ?_; clear ha a; intro a ha
            refine stepp ha 21 (.int .i64 (IntKind.wrap .i64 (x1007 + 1))) KR KR ?_; clear ha a; intro a ha
            refine stepp ha 4 (.int .i64 (IntKind.wrap .i64 (x1007 + 1))) KR KR ?_; clear ha a; intro a ha
            refine endl ?_
            exact thenN ⟨k1009, Nat.lt_succ_self k1009, x1006 ++ (((⟨#[0]⟩ : ByteArray) ++ (strOfNums ([IntKind.wrap .u8 x1007] : List Int))) ++ t1023), IntKind.wrap .i64 (x1007 + 1), (by rw [← hag1010]; exact h), ha.sub (subs_cons KR (subs_cons KR (subs_cons KR (subs_nil _)))), HW.pick [] [] (by decide) (by decide) KR KR⟩
        · skip
          replace h := ite_neg' h hp1015
          refine condF ha KR KR (t := decide (x1007 < x946)) (decide_eq_false hp1015) ?_
          refine wp_exit ?_
          refine thenE ?_
          refine thenE ?_
          refine inBlk ?_
          refine thenN (hK960 _ _ ?_); clear hK960
          refine wp_seq_k (fun K1030 hK1031 => ?_)
          refine wp_region_lit ?_
          refine stepp ha 31 (.string x1006) KR KR ?_; clear ha a; intro a ha
          refine stepp ha 2 (.string x1006) KR KR ?_; clear ha a; intro a ha
          refine endl ?_
          refine thenN (hK1031 _ _ ?_); clear hK1031
          refine wp_ret ?_
          obtain rfl := Option.some.inj h
          exact finv ha _ _ rfl (.tmp (v := .string x1006) KR .nil) (.string x1006) rfl ⟨rfl, HW.pick [] [] (by decide) (by decide) rfl KR⟩
/-! ### headgate/headgatelaw17.InquiryLists: function 4 -/
def headgatelaw17_InquiryLists.f (K : Nat) (a0 : Int) (a1 : Int) : Option Bool :=
  (inquiry_Capacity.f K a0).bind fun t1036 => ((headgateref17_Capacity.f K a0).bind fun t1040 => (if t1036 = t1040 then ((inquiry_List.f K a1).bind fun t1045 => ((headgateref17_List.f K a1).bind fun t1049 => (if t1045 = t1049 then ((headgatelaw17_wakes.f K).bind fun t1054 => (some t1054)) else (some false)))) else (some false)))
set_option maxRecDepth 100000 in
set_option maxHeartbeats 4000000 in
theorem headgatelaw17_InquiryLists.calls (K : Nat) (a0 : Int) (a1 : Int)  (r : Bool) (w : World)  (h : headgatelaw17_InquiryLists.f K a0 a1 = some r) :
    Calls Try.prog 4 #[.int .i64 a0, .int .i64 a1] w (fun e W' => e = .returned (.bool r) ∧ Wd w W' [] [] ) := by
  refine sxstart (n := 20) (l := [(0, .int .i64 a0), (1, .int .i64 a1)]) Try.func4 rfl rfl (Nat.le_of_ble_eq_true KR) (subsA_cons rfl (subsA_cons rfl (subsA_nil _))) ?_
  intro a ha
  have HW := Wd.refl w
  unfold headgatelaw17_InquiryLists.f at h
  refine wp_seq_k (fun K1032 hK1033 => ?_)
  refine wp_region_lit ?_
  refine stepp ha 4 (.bool false) KR KR ?_; clear ha a; intro a ha
  refine endl ?_
  refine thenN (hK1033 _ _ ?_); clear hK1033
  refine wp_seq_k (fun K1034 hK1035 => ?_)
  refine wp_region_lit ?_
  refine stepp ha 5 (.int .i64 a0) KR KR ?_; clear ha a; intro a ha
  obtain ⟨t1036, ht1037, h_⟩ := bind_some' h; clear h; have h := h_; clear h_
  refine stepc ha 6 KR KR (inquiry_Capacity.calls K a0 t1036 _ ht1037) ?_; clear ha a; rintro e W1038 ⟨rfl, HX1039⟩
  refine ⟨_, rfl, ?_⟩; intro a ha; replace HW := HW.callw HX1039; clear HX1039
  refine stepp ha 7 (.int .i64 a0) KR KR ?_; clear ha a; intro a ha
  obtain ⟨t1040, ht1041, h_⟩ := bind_some' h; clear h; have h := h_; clear h_
  refine stepc ha 8 KR KR (headgateref17_Capacity.calls K a0 t1040 _ ht1041) ?_; clear ha a; rintro e W1042 ⟨rfl, HX1043⟩
  refine ⟨_, rfl, ?_⟩; intro a ha; replace HW := HW.callw HX1043; clear HX1043
  refine stepp ha 9 (.bool (t1036.toList == t1040.toList)) KR KR ?_; clear ha a; intro a ha
  refine stepp ha 10 (.bool (t1036.toList == t1040.toList)) KR KR ?_; clear ha a; intro a ha
  by_cases hp1044 : t1036 = t1040
  · skip
    replace h := ite_pos' h hp1044
    replace ha := ha.bool 10 KR (str_eq_t hp1044)
    refine stepp ha 11 (.int .i64 a1) KR KR ?_; clear ha a; intro a ha
    obtain ⟨t1045, ht1046, h_⟩ := bind_some' h; clear h; have h := h_; clear h_
    refine stepc ha 12 KR KR (inquiry_List.calls K a1 t1045 _ ht1046) ?_; clear ha a; rintro e W1047 ⟨rfl, HX1048⟩
    refine ⟨_, rfl, ?_⟩; intro a ha; replace HW := HW.callw HX1048; clear HX1048
    refine stepp ha 13 (.int .i64 a1) KR KR ?_; clear ha a; intro a ha
    obtain ⟨t1049, ht1050, h_⟩ := bind_some' h; clear h; have h := h_; clear h_
    refine stepc ha 14 KR KR (headgateref17_List.calls K a1 t1049 _ ht1050) ?_; clear ha a; rintro e W1051 ⟨rfl, HX1052⟩
    refine ⟨_, rfl, ?_⟩; intro a ha; replace HW := HW.callw HX1052; clear HX1052
    refine stepp ha 15 (.bool (t1045.toList == t1049.toList)) KR KR ?_; clear ha a; intro a ha
    refine stepp ha 16 (.bool (t1045.toList == t1049.toList)) KR KR ?_; clear ha a; intro a ha
    refine stepp ha 17 (.bool (t1045.toList == t1049.toList)) KR KR ?_; clear ha a; intro a ha
    by_cases hp1053 : t1045 = t1049
    · skip
      replace h := ite_pos' h hp1053
      replace ha := ha.bool 17 KR (str_eq_t hp1053)
      obtain ⟨t1054, ht1055, h_⟩ := bind_some' h; clear h; have h := h_; clear h_
      refine stepc ha 18 KR KR (headgatelaw17_wakes.calls K t1054 _ ht1055) ?_; clear ha a; rintro e W1056 ⟨rfl, HX1057⟩
      refine ⟨_, rfl, ?_⟩; intro a ha; replace HW := HW.callw HX1057; clear HX1057
      refine stepp ha 19 (.bool t1054) KR KR ?_; clear ha a; intro a ha
      refine stepp ha 4 (.bool t1054) KR KR ?_; clear ha a; intro a ha
      refine endl ?_
      refine thenN (hK1035 _ _ ?_); clear hK1035
      refine wp_ret ?_
      obtain rfl := Option.some.inj h
      exact finv ha _ _ rfl (.tmp (v := .bool t1054) KR .nil) (.bool t1054) rfl ⟨rfl, HW.pick [] [] (by decide) (by decide) rfl KR⟩
    · skip
      replace h := ite_neg' h hp1053
      replace ha := ha.bool 17 KR (str_eq_f hp1053)
      refine stepo ha 18 KR ?_; clear ha a; intro a ha
      refine stepp ha 19 (.bool false) KR KR ?_; clear ha a; intro a ha
      refine stepp ha 4 (.bool false) KR KR ?_; clear ha a; intro a ha
      refine endl ?_
      refine thenN (hK1035 _ _ ?_); clear hK1035
      refine wp_ret ?_
      obtain rfl := Option.some.inj h
      exact finv ha _ _ rfl (.tmp (v := .bool false) KR .nil) (.bool false) rfl ⟨rfl, HW.pick [] [] (by decide) (by decide) rfl KR⟩
  · skip
    replace h := ite_neg' h hp1044
    replace ha := ha.bool 10 KR (str_eq_f hp1044)
    refine stepo ha 11 KR ?_; clear ha a; intro a ha
    refine stepo ha 12 KR ?_; clear ha a; intro a ha
    refine stepo ha 13 KR ?_; clear ha a; intro a ha
    refine stepo ha 14 KR ?_; clear ha a; intro a ha
    refine stepo ha 15 KR ?_; clear ha a; intro a ha
    refine stepp ha 16 (.bool false) KR KR ?_; clear ha a; intro a ha
    refine stepp ha 17 (.bool false) KR KR ?_; clear ha a; intro a ha
    refine stepo ha 18 KR ?_; clear ha a; intro a ha
    refine stepp ha 19 (.bool false) KR KR ?_; clear ha a; intro a ha
    refine stepp ha 4 (.bool false) KR KR ?_; clear ha a; intro a ha
    refine endl ?_
    refine thenN (hK1035 _ _ ?_); clear hK1035
    refine wp_ret ?_
    obtain rfl := Option.some.inj h
    exact finv ha _ _ rfl (.tmp (v := .bool false) KR .nil) (.bool false) rfl ⟨rfl, HW.pick [] [] (by decide) (by decide) rfl KR⟩
end Go.Proofs.Ytccmdlbdpapigaa.F
