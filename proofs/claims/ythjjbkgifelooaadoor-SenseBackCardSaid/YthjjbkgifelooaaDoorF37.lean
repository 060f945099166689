/- headgate/sense.Bytes, headgate/headgatelaw16.wakes: plain functions, and that the calls come to what they say. No condition. -/
import Derived.Test.YthjjbkgifelooaaDoorFT
import Derived.Test.YthjjbkgifelooaaDoorF64
import Derived.Test.YthjjbkgifelooaaDoorF68
namespace Go.Proofs.YthjjbkgifelooaaDoor.F
open Go Go.RowKit Go.Proofs.YthjjbkgifelooaaDoor.X
set_option linter.unusedVariables false
set_option linter.unusedSimpArgs false
/-! ### headgate/sense.Bytes: function 37 -/
def sense_Bytes.j0 (K : Nat) (a0 : T_api_Sense) (x5411 : Int) (x5412 : Int) : Option (ByteArray × Int) :=
  (fields_PutBig.f K (IntKind.wrap .u64 x5412) 4).bind fun t5420 => (asrt ((strOfNums ([x5411, 0, IntKind.wrap .u8 a0.f0] : List Int)).size + t5420.size ≤ 9223372036854775807) (asrt (((strOfNums ([x5411, 0, IntKind.wrap .u8 a0.f0] : List Int)) ++ t5420).size + (strOfNums ([10, 0, 0, 0, 0, IntKind.wrap .u8 a0.f1, IntKind.wrap .u8 a0.f2] : List Int)).size ≤ 9223372036854775807) ((strings_Repeat.f (⟨#[0]⟩ : ByteArray) (IntKind.wrap .i64 (18 - ((((strOfNums ([x5411, 0, IntKind.wrap .u8 a0.f0] : List Int)) ++ t5420) ++ (strOfNums ([10, 0, 0, 0, 0, IntKind.wrap .u8 a0.f1, IntKind.wrap .u8 a0.f2] : List Int))).size : Int)))).bind fun t5433 => (asrt ((((strOfNums ([x5411, 0, IntKind.wrap .u8 a0.f0] : List Int)) ++ t5420) ++ (strOfNums ([10, 0, 0, 0, 0, IntKind.wrap .u8 a0.f1, IntKind.wrap .u8 a0.f2] : List Int))).size + t5433.size ≤ 9223372036854775807) (some ((((strOfNums ([x5411, 0, IntKind.wrap .u8 a0.f0] : List Int)) ++ t5420) ++ (strOfNums ([10, 0, 0, 0, 0, IntKind.wrap .u8 a0.f1, IntKind.wrap .u8 a0.f2] : List Int))) ++ t5433, 0))))))
def sense_Bytes.f (K : Nat) (a0 : T_api_Sense) : Option (ByteArray × Int) :=
  (sense_good.f a0).bind fun t5396 => (if t5396 = true then (if a0.f3 = (-1) then (sense_Bytes.j0 K a0 112 0) else (sense_Bytes.j0 K a0 240 a0.f3)) else (some ((⟨#[]⟩ : ByteArray), 160)))
set_option maxRecDepth 100000 in
set_option maxHeartbeats 4000000 in
theorem sense_Bytes.calls (K : Nat) (a0 : T_api_Sense)  (r : ByteArray × Int) (w : World)  (h : sense_Bytes.f K a0 = some r) :
    Calls Tryd.prog 37 #[.agg #[.int .i64 a0.f0, .int .i64 a0.f1, .int .i64 a0.f2, .int .i64 a0.f3]] w (fun e W' => e = .returned (.tuple #[.string r.1, .int .i64 r.2]) ∧ Wd w W' [] [] ) := by
  refine sxstart (n := 39) (l := [(0, .agg #[.int .i64 a0.f0, .int .i64 a0.f1, .int .i64 a0.f2, .int .i64 a0.f3])]) Tryd.func37 rfl rfl (Nat.le_of_ble_eq_true KR) (subsA_cons rfl (subsA_nil _)) ?_
  intro a ha
  have HW := Wd.refl w
  unfold sense_Bytes.f at h
  refine wp_seq_k (fun K5388 hK5389 => ?_)
  refine wp_region_lit ?_
  refine stepnew ha HW 1 #[.int .i64 a0.f0, .int .i64 a0.f1, .int .i64 a0.f2, .int .i64 a0.f3] 66 KR KR ?_; clear ha HW a; intro b5390 a W5391 HW ha
  refine stepp ha 2 (.string (⟨#[]⟩ : ByteArray)) KR KR ?_; clear ha a; intro a ha
  refine stepp ha 3 (.int .i64 0) KR KR ?_; clear ha a; intro a ha
  refine endl ?_
  refine thenN (hK5389 _ _ ?_); clear hK5389
  refine wp_seq_k (fun K5392 hK5393 => ?_)
  refine wp_seq_k (fun K5394 hK5395 => ?_)
  refine wp_region_lit ?_
  refine stepl ha 7 (HW.ca (i := 0) (b := b5390) (C := #[.int .i64 a0.f0, .int .i64 a0.f1, .int .i64 a0.f2, .int .i64 a0.f3]) (T := 66) (fr := (0, 0)) KR) 66 0 (.tmp 1) (.agg #[.int .i64 a0.f0, .int .i64 a0.f1, .int .i64 a0.f2, .int .i64 a0.f3]) rfl KR KR KR ?_; clear ha a; intro a ha
  obtain ⟨t5396, ht5397, h_⟩ := bind_some' h; clear h; have h := h_; clear h_
  refine stepc ha 8 KR KR (sense_good.calls a0 t5396 _ ht5397) ?_; clear ha a; rintro e W5398 ⟨rfl, HX5399⟩
  refine ⟨_, rfl, ?_⟩; intro a ha; replace HW := HW.callw HX5399; clear HX5399
  refine stepp ha 9 (.bool (!t5396)) KR KR ?_; clear ha a; intro a ha
  refine endl ?_
  refine thenN (hK5395 _ _ ?_); clear hK5395
  by_cases hp5400 : t5396 = true
  · skip
    replace h := ite_pos' h hp5400
    refine condF ha KR KR (t := (!t5396)) (not_f (hp5400)) ?_
    refine wp_skip ?_
    refine thenN (hK5393 _ _ ?_); clear hK5393
    refine wp_seq_k (fun K5403 hK5404 => ?_)
    refine regionG 3 KR KR ha HW [.fix (.pointer (some ⟨b5390, 3, none⟩)), .fix (.int .i64 a0.f3), .fix (.int .u8 240)] ?_ ?_
    · skip
      refine ⟨?_, ?_, ?_, trivial⟩
      · skip
        intro a wr hn hd HW hs; have ha := hasNil hn hd
        have ha := ha.add (seeE hs 1 (.pointer (some ⟨b5390, 0, none⟩)) KR KR)
        refine yStep ha 10 KR ?_; intro l_ ha HK
        refine stepp ha 10 (.pointer (some ⟨b5390, 3, none⟩)) KR KR ?_; intro ax hax; exact HK _ _ _ hax rfl (Below.refl _ _)
      · skip
        intro a wr hn hd HW hs; have ha := hasNil hn hd
        have ha := ha.add (seeF hs 10 0 (.pointer (some ⟨b5390, 3, none⟩)) KR KR)
        refine yStep ha 11 KR ?_; intro l_ ha HK
        refine stepl ha 11 (HW.ca (i := 0) (b := b5390) (C := #[.int .i64 a0.f0, .int .i64 a0.f1, .int .i64 a0.f2, .int .i64 a0.f3]) (T := 66) (fr := (0, 0)) KR) 3 3 (.tmp 10) (.int .i64 a0.f3) rfl KR KR KR ?_; intro ax hax; exact HK _ _ _ hax rfl (Below.refl _ _)
      · skip
        intro a wr hn hd HW hs; have ha := hasNil hn hd
        refine yStep ha 4 KR ?_; intro l_ ha HK
        refine stepp ha 4 (.int .u8 240) KR KR ?_; intro ax hax; exact HK _ _ _ hax rfl (Below.refl _ _)
    · skip
      intro a W5405 ha HW he hf
      replace ha := ha.add (he 1 (.pointer (some ⟨b5390, 0, none⟩)) KR KR)
      replace ha := ha.add (gotF (m := 3) (j := 2) (d := 4) (v := .int .u8 240) hf KR KR KR)
      replace ha := ha.add (gotF (m := 3) (j := 1) (d := 11) (v := .int .i64 a0.f3) hf KR KR KR)
      clear he hf
      refine stepp ha 5 (.int .i64 a0.f3) KR KR ?_; clear ha a; intro a ha
      refine endl ?_
      refine thenN (hK5404 _ _ ?_); clear hK5404
      refine wp_seq_k (fun K5406 hK5407 => ?_)
      refine cutn (fun a W5413 => ∃ (x5411 : Int), ∃ (x5412 : Int), sense_Bytes.j0 K a0 x5411 x5412 = some r ∧ Has 39 [(1, .pointer (some ⟨b5390, 0, none⟩)), (4, .int .u8 x5411), (5, .int .i64 x5412)] a ∧ Wd w W5413 [(b5390, .cells #[.int .i64 a0.f0, .int .i64 a0.f1, .int .i64 a0.f2, .int .i64 a0.f3] 66 (0, 0))] []) ?_ ?_
      · skip
        refine wp_seq_k (fun K5408 hK5409 => ?_)
        refine wp_region_lit ?_
        refine stepp ha 12 (.int .i64 a0.f3) KR KR ?_; clear ha a; intro a ha
        refine stepp ha 13 (.bool (a0.f3 == (-1))) KR KR ?_; clear ha a; intro a ha
        refine endl ?_
        refine thenN (hK5409 _ _ ?_); clear hK5409
        by_cases hp5410 : a0.f3 = (-1)
        · skip
          replace h := ite_pos' h hp5410
          refine condT ha KR KR (t := (a0.f3 == (-1))) (ieq_t hp5410) ?_
          refine wp_region_lit ?_
          refine stepp ha 4 (.int .u8 112) KR KR ?_; clear ha a; intro a ha
          refine stepp ha 5 (.int .i64 0) KR KR ?_; clear ha a; intro a ha
          refine endl ?_
          exact thenN ⟨112, 0, h, ha.sub (subs_cons KR (subs_cons KR (subs_cons KR (subs_nil _)))), HW.pick [0] [] (by decide) (by decide) KR KR⟩
        · skip
          replace h := ite_neg' h hp5410
          refine condF ha KR KR (t := (a0.f3 == (-1))) (ieq_f hp5410) ?_
          refine wp_skip ?_
          exact thenN ⟨240, a0.f3, h, ha.sub (subs_cons KR (subs_cons KR (subs_cons KR (subs_nil _)))), HW.pick [0] [] (by decide) (by decide) KR KR⟩
      · skip
        intro a W5413 hJ
        obtain ⟨x5411, x5412, h, ha, HW⟩ := hJ
        replace h : sense_Bytes.j0 K a0 x5411 x5412 = some r := h
        unfold sense_Bytes.j0 at h
        refine hK5407 _ _ ?_; clear hK5407
        refine wp_seq_k (fun K5414 hK5415 => ?_)
        obtain ⟨t5420, ht5421, h_⟩ := bind_some' h; clear h; have h := h_; clear h_
        obtain ⟨hA5424, h_⟩ := asrt_some h; clear h; have h := h_; clear h_
        obtain ⟨hA5429, h_⟩ := asrt_some h; clear h; have h := h_; clear h_
        refine regionG 19 KR KR ha HW [.fix (.int .u8 x5411), .fix (.pointer (some ⟨b5390, 0, none⟩)), .fix (.int .i64 a0.f0), .fix (.int .u8 (IntKind.wrap .u8 a0.f0)), .lit w 5 ([x5411, 0, IntKind.wrap .u8 a0.f0] : List Int).length #[.int .u8 x5411, .int .u8 0, .int .u8 (IntKind.wrap .u8 a0.f0)] [(b5390, .cells #[.int .i64 a0.f0, .int .i64 a0.f1, .int .i64 a0.f2, .int .i64 a0.f3] 66 (0, 0))] [], .fix (.string (strOfNums ([x5411, 0, IntKind.wrap .u8 a0.f0] : List Int))), .fix (.int .i64 x5412), .fix (.int .u64 (IntKind.wrap .u64 x5412)), .fix (.string t5420), .fix (.string ((strOfNums ([x5411, 0, IntKind.wrap .u8 a0.f0] : List Int)) ++ t5420)), .fix (.pointer (some ⟨b5390, 1, none⟩)), .fix (.int .i64 a0.f1), .fix (.int .u8 (IntKind.wrap .u8 a0.f1)), .fix (.pointer (some ⟨b5390, 2, none⟩)), .fix (.int .i64 a0.f2), .fix (.int .u8 (IntKind.wrap .u8 a0.f2)), .lit w 5 ([10, 0, 0, 0, 0, IntKind.wrap .u8 a0.f1, IntKind.wrap .u8 a0.f2] : List Int).length #[.int .u8 10, .int .u8 0, .int .u8 0, .int .u8 0, .int .u8 0, .int .u8 (IntKind.wrap .u8 a0.f1), .int .u8 (IntKind.wrap .u8 a0.f2)] [(b5390, .cells #[.int .i64 a0.f0, .int .i64 a0.f1, .int .i64 a0.f2, .int .i64 a0.f3] 66 (0, 0))] [], .fix (.string (strOfNums ([10, 0, 0, 0, 0, IntKind.wrap .u8 a0.f1, IntKind.wrap .u8 a0.f2] : List Int))), .fix (.string (((strOfNums ([x5411, 0, IntKind.wrap .u8 a0.f0] : List Int)) ++ t5420) ++ (strOfNums ([10, 0, 0, 0, 0, IntKind.wrap .u8 a0.f1, IntKind.wrap .u8 a0.f2] : List Int))))] ?_ ?_
        · skip
          refine ⟨?_, ?_, ?_, ?_, ?_, ?_, ?_, ?_, ?_, ?_, ?_, ?_, ?_, ?_, ?_, ?_, ?_, ?_, ?_, trivial⟩
          · skip
            intro a wr hn hd HW hs; have ha := hasNil hn hd
            have ha := ha.add (seeE hs 4 (.int .u8 x5411) KR KR)
            refine yStep ha 14 KR ?_; intro l_ ha HK
            refine stepp ha 14 (.int .u8 x5411) KR KR ?_; intro ax hax; exact HK _ _ _ hax rfl (Below.refl _ _)
          · skip
            intro a wr hn hd HW hs; have ha := hasNil hn hd
            have ha := ha.add (seeE hs 1 (.pointer (some ⟨b5390, 0, none⟩)) KR KR)
            refine yStep ha 15 KR ?_; intro l_ ha HK
            refine stepp ha 15 (.pointer (some ⟨b5390, 0, none⟩)) KR KR ?_; intro ax hax; exact HK _ _ _ hax rfl (Below.refl _ _)
          · skip
            intro a wr hn hd HW hs; have ha := hasNil hn hd
            have ha := ha.add (seeF hs 15 1 (.pointer (some ⟨b5390, 0, none⟩)) KR KR)
            refine yStep ha 16 KR ?_; intro l_ ha HK
            refine stepl ha 16 (HW.ca (i := 0) (b := b5390) (C := #[.int .i64 a0.f0, .int .i64 a0.f1, .int .i64 a0.f2, .int .i64 a0.f3]) (T := 66) (fr := (0, 0)) KR) 3 0 (.tmp 15) (.int .i64 a0.f0) rfl KR KR KR ?_; intro ax hax; exact HK _ _ _ hax rfl (Below.refl _ _)
          · skip
            intro a wr hn hd HW hs; have ha := hasNil hn hd
            have ha := ha.add (seeF hs 16 2 (.int .i64 a0.f0) KR KR)
            refine yStep ha 17 KR ?_; intro l_ ha HK
            refine stepp ha 17 (.int .u8 (IntKind.wrap .u8 a0.f0)) KR KR ?_; intro ax hax; exact HK _ _ _ hax rfl (Below.refl _ _)
          · skip
            intro a wr hn hd HW hs; have ha := hasNil hn hd
            have ha := ha.add (seeF hs 14 0 (.int .u8 x5411) KR KR)
            have ha := ha.add (seeF hs 17 3 (.int .u8 (IntKind.wrap .u8 a0.f0)) KR KR)
            refine yStep ha 18 KR ?_; intro l_ ha HK
            refine stepbk ha (Wd.refl wr) 18 5 3 #[.int .u8 x5411, .int .u8 0, .int .u8 (IntKind.wrap .u8 a0.f0)] KR KR ?_; intro b5416 ax W5417 HV hax
            exact HK _ _ _ hax ⟨b5416, rfl, HW.callw HV⟩ HV.below
          · skip
            intro a wr hn hd HW hs; have ha := hasNil hn hd
            obtain ⟨b5416, he_, hR5419⟩ := seeL (enc := (encI .u8)) hs 18 4 1 5 #[.int .u8 x5411, .int .u8 0, .int .u8 (IntKind.wrap .u8 a0.f0)] ([x5411, 0, IntKind.wrap .u8 a0.f0] : List Int) (w1 := w) (bs1 := [(b5390, .cells #[.int .i64 a0.f0, .int .i64 a0.f1, .int .i64 a0.f2, .int .i64 a0.f3] 66 (0, 0))]) (os1 := []) KR KR (fun _ => rfl) rfl; have ha := ha.add he_
            refine yStep ha 19 KR ?_; intro l_ ha HK
            refine stepbt ha 19 97 9 5 (.tmp 18) (v := .slice (some ⟨b5416, 0, none⟩) ([x5411, 0, IntKind.wrap .u8 a0.f0] : List Int).length (([x5411, 0, IntKind.wrap .u8 a0.f0] : List Int).length)) (xs := ([x5411, 0, IntKind.wrap .u8 a0.f0] : List Int)) hR5419 rfl KR KR KR KR KR ?_; intro ax hax; exact HK _ _ _ hax rfl (Below.refl _ _)
          · skip
            intro a wr hn hd HW hs; have ha := hasNil hn hd
            have ha := ha.add (seeE hs 5 (.int .i64 x5412) KR KR)
            refine yStep ha 20 KR ?_; intro l_ ha HK
            refine stepp ha 20 (.int .i64 x5412) KR KR ?_; intro ax hax; exact HK _ _ _ hax rfl (Below.refl _ _)
          · skip
            intro a wr hn hd HW hs; have ha := hasNil hn hd
            have ha := ha.add (seeF hs 20 6 (.int .i64 x5412) KR KR)
            refine yStep ha 21 KR ?_; intro l_ ha HK
            refine stepp ha 21 (.int .u64 (IntKind.wrap .u64 x5412)) KR KR ?_; intro ax hax; exact HK _ _ _ hax rfl (Below.refl _ _)
          · skip
            intro a wr hn hd HW hs; have ha := hasNil hn hd
            have ha := ha.add (seeF hs 21 7 (.int .u64 (IntKind.wrap .u64 x5412)) KR KR)
            refine yStep ha 22 KR ?_; intro l_ ha HK
            refine stepc ha 22 KR KR (fields_PutBig.calls K (IntKind.wrap .u64 x5412) 4 t5420 _ ht5421) ?_; rintro e W5422 ⟨rfl, HX5423⟩
            refine ⟨_, rfl, ?_⟩; intro ax hax; exact HK _ _ _ hax rfl HX5423.below
          · skip
            intro a wr hn hd HW hs; have ha := hasNil hn hd
            have ha := ha.add (seeF hs 19 5 (.string (strOfNums ([x5411, 0, IntKind.wrap .u8 a0.f0] : List Int))) KR KR)
            have ha := ha.add (seeF hs 22 8 (.string t5420) KR KR)
            refine yStep ha 23 KR ?_; intro l_ ha HK
            refine stepsa ha 23 9 9 (.tmp 19) (.tmp 22) (strOfNums ([x5411, 0, IntKind.wrap .u8 a0.f0] : List Int)) t5420 rfl KR KR (show (strOfNums ([x5411, 0, IntKind.wrap .u8 a0.f0] : List Int)).size + (t5420).size ≤ 9223372036854775807 from hA5424) KR ?_; intro ax hax; exact HK _ _ _ hax rfl (Below.refl _ _)
          · skip
            intro a wr hn hd HW hs; have ha := hasNil hn hd
            have ha := ha.add (seeE hs 1 (.pointer (some ⟨b5390, 0, none⟩)) KR KR)
            refine yStep ha 24 KR ?_; intro l_ ha HK
            refine stepp ha 24 (.pointer (some ⟨b5390, 1, none⟩)) KR KR ?_; intro ax hax; exact HK _ _ _ hax rfl (Below.refl _ _)
          · skip
            intro a wr hn hd HW hs; have ha := hasNil hn hd
            have ha := ha.add (seeF hs 24 10 (.pointer (some ⟨b5390, 1, none⟩)) KR KR)
            refine yStep ha 25 KR ?_; intro l_ ha HK
            refine stepl ha 25 (HW.ca (i := 0) (b := b5390) (C := #[.int .i64 a0.f0, .int .i64 a0.f1, .int .i64 a0.f2, .int .i64 a0.f3]) (T := 66) (fr := (0, 0)) KR) 3 1 (.tmp 24) (.int .i64 a0.f1) rfl KR KR KR ?_; intro ax hax; exact HK _ _ _ hax rfl (Below.refl _ _)
          · skip
            intro a wr hn hd HW hs; have ha := hasNil hn hd
            have ha := ha.add (seeF hs 25 11 (.int .i64 a0.f1) KR KR)
            refine yStep ha 26 KR ?_; intro l_ ha HK
            refine stepp ha 26 (.int .u8 (IntKind.wrap .u8 a0.f1)) KR KR ?_; intro ax hax; exact HK _ _ _ hax rfl (Below.refl _ _)
          · skip
            intro a wr hn hd HW hs; have ha := hasNil hn hd
            have ha := ha.add (seeE hs 1 (.pointer (some ⟨b5390, 0, none⟩)) KR KR)
            refine yStep ha 27 KR ?_; intro l_ ha HK
            refine stepp ha 27 (.pointer (some ⟨b5390, 2, none⟩)) KR KR ?_; intro ax hax; exact HK _ _ _ hax rfl (Below.refl _ _)
          · skip
            intro a wr hn hd HW hs; have ha := hasNil hn hd
            have ha := ha.add (seeF hs 27 13 (.pointer (some ⟨b5390, 2, none⟩)) KR KR)
            refine yStep ha 28 KR ?_; intro l_ ha HK
            refine stepl ha 28 (HW.ca (i := 0) (b := b5390) (C := #[.int .i64 a0.f0, .int .i64 a0.f1, .int .i64 a0.f2, .int .i64 a0.f3]) (T := 66) (fr := (0, 0)) KR) 3 2 (.tmp 27) (.int .i64 a0.f2) rfl KR KR KR ?_; intro ax hax; exact HK _ _ _ hax rfl (Below.refl _ _)
          · skip
            intro a wr hn hd HW hs; have ha := hasNil hn hd
            have ha := ha.add (seeF hs 28 14 (.int .i64 a0.f2) KR KR)
            refine yStep ha 29 KR ?_; intro l_ ha HK
            refine stepp ha 29 (.int .u8 (IntKind.wrap .u8 a0.f2)) KR KR ?_; intro ax hax; exact HK _ _ _ hax rfl (Below.refl _ _)
          · skip
            intro a wr hn hd HW hs; have ha := hasNil hn hd
            have ha := ha.add (seeF hs 26 12 (.int .u8 (IntKind.wrap .u8 a0.f1)) KR KR)
            have ha := ha.add (seeF hs 29 15 (.int .u8 (IntKind.wrap .u8 a0.f2)) KR KR)
            refine yStep ha 30 KR ?_; intro l_ ha HK
            refine stepbk ha (Wd.refl wr) 30 5 7 #[.int .u8 10, .int .u8 0, .int .u8 0, .int .u8 0, .int .u8 0, .int .u8 (IntKind.wrap .u8 a0.f1), .int .u8 (IntKind.wrap .u8 a0.f2)] KR KR ?_; intro b5425 ax W5426 HV hax
            exact HK _ _ _ hax ⟨b5425, rfl, HW.callw HV⟩ HV.below
          · skip
            intro a wr hn hd HW hs; have ha := hasNil hn hd
            obtain ⟨b5425, he_, hR5428⟩ := seeL (enc := (encI .u8)) hs 30 16 1 5 #[.int .u8 10, .int .u8 0, .int .u8 0, .int .u8 0, .int .u8 0, .int .u8 (IntKind.wrap .u8 a0.f1), .int .u8 (IntKind.wrap .u8 a0.f2)] ([10, 0, 0, 0, 0, IntKind.wrap .u8 a0.f1, IntKind.wrap .u8 a0.f2] : List Int) (w1 := w) (bs1 := [(b5390, .cells #[.int .i64 a0.f0, .int .i64 a0.f1, .int .i64 a0.f2, .int .i64 a0.f3] 66 (0, 0))]) (os1 := []) KR KR (fun _ => rfl) rfl; have ha := ha.add he_
            refine yStep ha 31 KR ?_; intro l_ ha HK
            refine stepbt ha 31 97 9 5 (.tmp 30) (v := .slice (some ⟨b5425, 0, none⟩) ([10, 0, 0, 0, 0, IntKind.wrap .u8 a0.f1, IntKind.wrap .u8 a0.f2] : List Int).length (([10, 0, 0, 0, 0, IntKind.wrap .u8 a0.f1, IntKind.wrap .u8 a0.f2] : List Int).length)) (xs := ([10, 0, 0, 0, 0, IntKind.wrap .u8 a0.f1, IntKind.wrap .u8 a0.f2] : List Int)) hR5428 rfl KR KR KR KR KR ?_; intro ax hax; exact HK _ _ _ hax rfl (Below.refl _ _)
          · skip
            intro a wr hn hd HW hs; have ha := hasNil hn hd
            have ha := ha.add (seeF hs 23 9 (.string ((strOfNums ([x5411, 0, IntKind.wrap .u8 a0.f0] : List Int)) ++ t5420)) KR KR)
            have ha := ha.add (seeF hs 31 17 (.string (strOfNums ([10, 0, 0, 0, 0, IntKind.wrap .u8 a0.f1, IntKind.wrap .u8 a0.f2] : List Int))) KR KR)
            refine yStep ha 32 KR ?_; intro l_ ha HK
            refine stepsa ha 32 9 9 (.tmp 23) (.tmp 31) ((strOfNums ([x5411, 0, IntKind.wrap .u8 a0.f0] : List Int)) ++ t5420) (strOfNums ([10, 0, 0, 0, 0, IntKind.wrap .u8 a0.f1, IntKind.wrap .u8 a0.f2] : List Int)) rfl KR KR (show ((strOfNums ([x5411, 0, IntKind.wrap .u8 a0.f0] : List Int)) ++ t5420).size + (strOfNums ([10, 0, 0, 0, 0, IntKind.wrap .u8 a0.f1, IntKind.wrap .u8 a0.f2] : List Int)).size ≤ 9223372036854775807 from hA5429) KR ?_; intro ax hax; exact HK _ _ _ hax rfl (Below.refl _ _)
        · skip
          intro a W5430 ha HW he hf
          replace ha := ha.add (gotF (m := 19) (j := 18) (d := 32) (v := .string (((strOfNums ([x5411, 0, IntKind.wrap .u8 a0.f0] : List Int)) ++ t5420) ++ (strOfNums ([10, 0, 0, 0, 0, IntKind.wrap .u8 a0.f1, IntKind.wrap .u8 a0.f2] : List Int)))) hf KR KR KR)
          clear he hf
          refine stepp ha 6 (.string (((strOfNums ([x5411, 0, IntKind.wrap .u8 a0.f0] : List Int)) ++ t5420) ++ (strOfNums ([10, 0, 0, 0, 0, IntKind.wrap .u8 a0.f1, IntKind.wrap .u8 a0.f2] : List Int)))) KR KR ?_; clear ha a; intro a ha
          refine endl ?_
          refine thenN (hK5415 _ _ ?_); clear hK5415
          refine wp_seq_k (fun K5431 hK5432 => ?_)
          refine wp_region_lit ?_
          refine stepp ha 33 (.string (((strOfNums ([x5411, 0, IntKind.wrap .u8 a0.f0] : List Int)) ++ t5420) ++ (strOfNums ([10, 0, 0, 0, 0, IntKind.wrap .u8 a0.f1, IntKind.wrap .u8 a0.f2] : List Int)))) KR KR ?_; clear ha a; intro a ha
          refine stepp ha 34 (.string (((strOfNums ([x5411, 0, IntKind.wrap .u8 a0.f0] : List Int)) ++ t5420) ++ (strOfNums ([10, 0, 0, 0, 0, IntKind.wrap .u8 a0.f1, IntKind.wrap .u8 a0.f2] : List Int)))) KR KR ?_; clear ha a; intro a ha
          refine stepp ha 35 (.int .i64 ((((strOfNums ([x5411, 0, IntKind.wrap .u8 a0.f0] : List Int)) ++ t5420) ++ (strOfNums ([10, 0, 0, 0, 0, IntKind.wrap .u8 a0.f1, IntKind.wrap .u8 a0.f2] : List Int))).size : Int)) KR KR ?_; clear ha a; intro a ha
          refine stepp ha 36 (.int .i64 (IntKind.wrap .i64 (18 - ((((strOfNums ([x5411, 0, IntKind.wrap .u8 a0.f0] : List Int)) ++ t5420) ++ (strOfNums ([10, 0, 0, 0, 0, IntKind.wrap .u8 a0.f1, IntKind.wrap .u8 a0.f2] : List Int))).size : Int)))) KR KR ?_; clear ha a; intro a ha
          obtain ⟨t5433, ht5434, h_⟩ := bind_some' h; clear h; have h := h_; clear h_
          refine stepc ha 37 KR KR (strings_Repeat.calls (⟨#[0]⟩ : ByteArray) (IntKind.wrap .i64 (18 - ((((strOfNums ([x5411, 0, IntKind.wrap .u8 a0.f0] : List Int)) ++ t5420) ++ (strOfNums ([10, 0, 0, 0, 0, IntKind.wrap .u8 a0.f1, IntKind.wrap .u8 a0.f2] : List Int))).size : Int))) t5433 _ ht5434) ?_; clear ha a; rintro e W5435 ⟨rfl, HX5436⟩
          refine ⟨_, rfl, ?_⟩; intro a ha; replace HW := HW.callw HX5436; clear HX5436
          obtain ⟨hA5437, h_⟩ := asrt_some h; clear h; have h := h_; clear h_
          refine stepsa ha 38 9 9 (.tmp 33) (.tmp 37) (((strOfNums ([x5411, 0, IntKind.wrap .u8 a0.f0] : List Int)) ++ t5420) ++ (strOfNums ([10, 0, 0, 0, 0, IntKind.wrap .u8 a0.f1, IntKind.wrap .u8 a0.f2] : List Int))) t5433 rfl KR KR (show (((strOfNums ([x5411, 0, IntKind.wrap .u8 a0.f0] : List Int)) ++ t5420) ++ (strOfNums ([10, 0, 0, 0, 0, IntKind.wrap .u8 a0.f1, IntKind.wrap .u8 a0.f2] : List Int))).size + (t5433).size ≤ 9223372036854775807 from hA5437) KR ?_; clear ha a; intro a ha
          refine stepp ha 2 (.string ((((strOfNums ([x5411, 0, IntKind.wrap .u8 a0.f0] : List Int)) ++ t5420) ++ (strOfNums ([10, 0, 0, 0, 0, IntKind.wrap .u8 a0.f1, IntKind.wrap .u8 a0.f2] : List Int))) ++ t5433)) KR KR ?_; clear ha a; intro a ha
          refine stepp ha 3 (.int .i64 0) KR KR ?_; clear ha a; intro a ha
          refine endl ?_
          refine thenN (hK5432 _ _ ?_); clear hK5432
          refine wp_ret ?_
          obtain rfl := Option.some.inj h
          exact finv ha _ _ rfl (.tmp (v := .string ((((strOfNums ([x5411, 0, IntKind.wrap .u8 a0.f0] : List Int)) ++ t5420) ++ (strOfNums ([10, 0, 0, 0, 0, IntKind.wrap .u8 a0.f1, IntKind.wrap .u8 a0.f2] : List Int))) ++ t5433)) KR (.tmp (v := .int .i64 0) KR .nil)) (.tuple #[.string ((((strOfNums ([x5411, 0, IntKind.wrap .u8 a0.f0] : List Int)) ++ t5420) ++ (strOfNums ([10, 0, 0, 0, 0, IntKind.wrap .u8 a0.f1, IntKind.wrap .u8 a0.f2] : List Int))) ++ t5433), .int .i64 0]) rfl ⟨rfl, HW.pick [] [] (by decide) (by decide) rfl KR⟩
  · skip
    replace h := ite_neg' h hp5400
    refine condT ha KR KR (t := (!t5396)) (not_t (bool_f hp5400)) ?_
    refine wp_seq_k (fun K5401 hK5402 => ?_)
    refine wp_region_lit ?_
    refine stepp ha 2 (.string (⟨#[]⟩ : ByteArray)) KR KR ?_; clear ha a; intro a ha
    refine stepp ha 3 (.int .i64 160) KR KR ?_; clear ha a; intro a ha
    refine endl ?_
    refine thenN (hK5402 _ _ ?_); clear hK5402
    refine wp_ret ?_
    refine thenR ?_
    obtain rfl := Option.some.inj h
    exact finv ha _ _ rfl (.tmp (v := .string (⟨#[]⟩ : ByteArray)) KR (.tmp (v := .int .i64 160) KR .nil)) (.tuple #[.string (⟨#[]⟩ : ByteArray), .int .i64 160]) rfl ⟨rfl, HW.pick [] [] (by decide) (by decide) rfl KR⟩
/-! ### headgate/headgatelaw16.wakes: function 36 -/
def headgatelaw16_wakes.f (K : Nat)  : Option Bool :=
  (sense_Of.f K (⟨3, (⟨#[]⟩ : ByteArray), 3, 0, ([] : List T_api_Reg), 0, (⟨0, (⟨#[]⟩ : ByteArray)⟩ : T_api_Hold), 0⟩ : T_api_Out)).bind fun t5442 => ((sense_Bytes.f K (⟨t5442.2.f0, t5442.2.f1, t5442.2.f2, t5442.2.f3⟩ : T_api_Sense)).bind fun t5451 => (if t5442.1 = 2 then (if t5442.2.f0 = 14 then (if t5442.2.f1 = 29 then (if t5442.2.f3 = 3 then (if t5451.2 = 0 then (if (t5451.1.size : Int) = 18 then (asrt (0 < (t5451.1.size : Int)) (if (bt t5451.1 0) = 240 then (asrt (6 < (t5451.1.size : Int)) (some ((bt t5451.1 6) == 3))) else (some false))) else (some false)) else (some false)) else (some false)) else (some false)) else (some false)) else (some false)))
set_option maxRecDepth 100000 in
set_option maxHeartbeats 4000000 in
theorem headgatelaw16_wakes.calls (K : Nat)   (r : Bool) (w : World) (hG3 : CA w 3 0 (encs T_sense_row.enc G_sense_rows).toArray) (h : headgatelaw16_wakes.f K  = some r) :
    Calls Tryd.prog 36 #[] w (fun e W' => e = .returned (.bool r) ∧ Wd w W' [] [] ) := by
  refine sxstart (n := 51) (l := []) Tryd.func36 rfl rfl (Nat.le_of_ble_eq_true KR) (subsA_nil _) ?_
  intro a ha
  have HW := Wd.refl w
  unfold headgatelaw16_wakes.f at h
  refine wp_seq_k (fun K5438 hK5439 => ?_)
  refine wp_region_lit ?_
  refine stepp ha 0 (.bool false) KR KR ?_; clear ha a; intro a ha
  refine endl ?_
  refine thenN (hK5439 _ _ ?_); clear hK5439
  refine wp_seq_k (fun K5440 hK5441 => ?_)
  refine wp_region_lit ?_
  refine stepp ha 6 (.agg #[.int .i64 3, .string (⟨#[]⟩ : ByteArray), .int .i64 3, .int .i64 0, .slice none 0 0, .int .u32 0, .int .i64 0, .string (⟨#[]⟩ : ByteArray), .int .i64 0]) KR KR ?_; clear ha a; intro a ha
  obtain ⟨t5442, ht5443, h_⟩ := bind_some' h; clear h; have h := h_; clear h_
  refine stepc ha 7 KR KR (sense_Of.calls K (⟨3, (⟨#[]⟩ : ByteArray), 3, 0, ([] : List T_api_Reg), 0, (⟨0, (⟨#[]⟩ : ByteArray)⟩ : T_api_Hold), 0⟩ : T_api_Out) none 0 t5442 _ (HW.ca0 hG3) (Rd.nil _ _) ht5443) ?_; clear ha a; rintro e W5444 ⟨rfl, HX5445⟩
  refine ⟨_, rfl, ?_⟩; intro a ha; replace HW := HW.callw HX5445; clear HX5445
  refine stepp ha 5 (.tuple #[.int .i64 t5442.1, .agg #[.int .i64 t5442.2.f0, .int .i64 t5442.2.f1, .int .i64 t5442.2.f2, .int .i64 t5442.2.f3]]) KR KR ?_; clear ha a; intro a ha
  refine stepp ha 8 (.int .i64 t5442.1) KR KR ?_; clear ha a; intro a ha
  refine stepp ha 9 (.agg #[.int .i64 t5442.2.f0, .int .i64 t5442.2.f1, .int .i64 t5442.2.f2, .int .i64 t5442.2.f3]) KR KR ?_; clear ha a; intro a ha
  refine stepnew ha HW 2 #[.int .i64 0, .int .i64 0, .int .i64 0, .int .i64 0] 66 KR KR ?_; clear ha HW a; intro b5446 a W5447 HW ha
  refine stepp ha 1 (.int .i64 t5442.1) KR KR ?_; clear ha a; intro a ha
  refine stepst ha HW 0 (b := b5446) (C := #[.int .i64 0, .int .i64 0, .int .i64 0, .int .i64 0]) (T := 66) KR 66 0 (.tmp 2) (.tmp 9) (.agg #[.int .i64 t5442.2.f0, .int .i64 t5442.2.f1, .int .i64 t5442.2.f2, .int .i64 t5442.2.f3]) #[.int .i64 t5442.2.f0, .int .i64 t5442.2.f1, .int .i64 t5442.2.f2, .int .i64 t5442.2.f3] rfl KR KR KR KR KR KR KR ?_; clear ha HW a; intro a W5448 HW ha
  refine endl ?_
  refine thenN (hK5441 _ _ ?_); clear hK5441
  refine wp_seq_k (fun K5449 hK5450 => ?_)
  refine wp_region_lit ?_
  refine stepl ha 11 (HW.ca (i := 0) (b := b5446) (C := #[.int .i64 t5442.2.f0, .int .i64 t5442.2.f1, .int .i64 t5442.2.f2, .int .i64 t5442.2.f3]) (T := 66) (fr := (0, 0)) KR) 66 0 (.tmp 2) (.agg #[.int .i64 t5442.2.f0, .int .i64 t5442.2.f1, .int .i64 t5442.2.f2, .int .i64 t5442.2.f3]) rfl KR KR KR ?_; clear ha a; intro a ha
  obtain ⟨t5451, ht5452, h_⟩ := bind_some' h; clear h; have h := h_; clear h_
  refine stepc ha 12 KR KR (sense_Bytes.calls K (⟨t5442.2.f0, t5442.2.f1, t5442.2.f2, t5442.2.f3⟩ : T_api_Sense) t5451 _ ht5452) ?_; clear ha a; rintro e W5453 ⟨rfl, HX5454⟩
  refine ⟨_, rfl, ?_⟩; intro a ha; replace HW := HW.callw HX5454; clear HX5454
  refine stepp ha 10 (.tuple #[.string t5451.1, .int .i64 t5451.2]) KR KR ?_; clear ha a; intro a ha
  refine stepp ha 13 (.string t5451.1) KR KR ?_; clear ha a; intro a ha
  refine stepp ha 14 (.int .i64 t5451.2) KR KR ?_; clear ha a; intro a ha
  refine stepp ha 3 (.string t5451.1) KR KR ?_; clear ha a; intro a ha
  refine stepp ha 4 (.int .i64 t5451.2) KR KR ?_; clear ha a; intro a ha
  refine endl ?_
  refine thenN (hK5450 _ _ ?_); clear hK5450
  refine wp_seq_k (fun K5455 hK5456 => ?_)
  refine wp_region_lit ?_
  refine stepp ha 15 (.int .i64 t5442.1) KR KR ?_; clear ha a; intro a ha
  refine stepp ha 16 (.bool (t5442.1 == 2)) KR KR ?_; clear ha a; intro a ha
  refine stepp ha 17 (.bool (t5442.1 == 2)) KR KR ?_; clear ha a; intro a ha
  by_cases hp5457 : t5442.1 = 2
  · skip
    replace h := ite_pos' h hp5457
    replace ha := ha.bool 17 KR (ieq_t hp5457)
    refine stepp ha 18 (.pointer (some ⟨b5446, 0, none⟩)) KR KR ?_; clear ha a; intro a ha
    refine stepl ha 19 (HW.ca (i := 0) (b := b5446) (C := #[.int .i64 t5442.2.f0, .int .i64 t5442.2.f1, .int .i64 t5442.2.f2, .int .i64 t5442.2.f3]) (T := 66) (fr := (0, 0)) KR) 3 0 (.tmp 18) (.int .i64 t5442.2.f0) rfl KR KR KR ?_; clear ha a; intro a ha
    refine stepp ha 20 (.bool (t5442.2.f0 == 14)) KR KR ?_; clear ha a; intro a ha
    refine stepp ha 21 (.bool (t5442.2.f0 == 14)) KR KR ?_; clear ha a; intro a ha
    refine stepp ha 22 (.bool (t5442.2.f0 == 14)) KR KR ?_; clear ha a; intro a ha
    by_cases hp5458 : t5442.2.f0 = 14
    · skip
      replace h := ite_pos' h hp5458
      replace ha := ha.bool 22 KR (ieq_t hp5458)
      refine stepp ha 23 (.pointer (some ⟨b5446, 1, none⟩)) KR KR ?_; clear ha a; intro a ha
      refine stepl ha 24 (HW.ca (i := 0) (b := b5446) (C := #[.int .i64 t5442.2.f0, .int .i64 t5442.2.f1, .int .i64 t5442.2.f2, .int .i64 t5442.2.f3]) (T := 66) (fr := (0, 0)) KR) 3 1 (.tmp 23) (.int .i64 t5442.2.f1) rfl KR KR KR ?_; clear ha a; intro a ha
      refine stepp ha 25 (.bool (t5442.2.f1 == 29)) KR KR ?_; clear ha a; intro a ha
      refine stepp ha 26 (.bool (t5442.2.f1 == 29)) KR KR ?_; clear ha a; intro a ha
      refine stepp ha 27 (.bool (t5442.2.f1 == 29)) KR KR ?_; clear ha a; intro a ha
      by_cases hp5459 : t5442.2.f1 = 29
      · skip
        replace h := ite_pos' h hp5459
        replace ha := ha.bool 27 KR (ieq_t hp5459)
        refine stepp ha 28 (.pointer (some ⟨b5446, 3, none⟩)) KR KR ?_; clear ha a; intro a ha
        refine stepl ha 29 (HW.ca (i := 0) (b := b5446) (C := #[.int .i64 t5442.2.f0, .int .i64 t5442.2.f1, .int .i64 t5442.2.f2, .int .i64 t5442.2.f3]) (T := 66) (fr := (0, 0)) KR) 3 3 (.tmp 28) (.int .i64 t5442.2.f3) rfl KR KR KR ?_; clear ha a; intro a ha
        refine stepp ha 30 (.bool (t5442.2.f3 == 3)) KR KR ?_; clear ha a; intro a ha
        refine stepp ha 31 (.bool (t5442.2.f3 == 3)) KR KR ?_; clear ha a; intro a ha
        refine stepp ha 32 (.bool (t5442.2.f3 == 3)) KR KR ?_; clear ha a; intro a ha
        by_cases hp5460 : t5442.2.f3 = 3
        · skip
          replace h := ite_pos' h hp5460
          replace ha := ha.bool 32 KR (ieq_t hp5460)
          refine stepp ha 33 (.int .i64 t5451.2) KR KR ?_; clear ha a; intro a ha
          refine stepp ha 34 (.bool (t5451.2 == 0)) KR KR ?_; clear ha a; intro a ha
          refine stepp ha 35 (.bool (t5451.2 == 0)) KR KR ?_; clear ha a; intro a ha
          refine stepp ha 36 (.bool (t5451.2 == 0)) KR KR ?_; clear ha a; intro a ha
          by_cases hp5461 : t5451.2 = 0
          · skip
            replace h := ite_pos' h hp5461
            replace ha := ha.bool 36 KR (ieq_t hp5461)
            refine stepp ha 37 (.string t5451.1) KR KR ?_; clear ha a; intro a ha
            refine stepp ha 38 (.int .i64 (t5451.1.size : Int)) KR KR ?_; clear ha a; intro a ha
            refine stepp ha 39 (.bool ((t5451.1.size : Int) == 18)) KR KR ?_; clear ha a; intro a ha
            refine stepp ha 40 (.bool ((t5451.1.size : Int) == 18)) KR KR ?_; clear ha a; intro a ha
            refine stepp ha 41 (.bool ((t5451.1.size : Int) == 18)) KR KR ?_; clear ha a; intro a ha
            by_cases hp5462 : (t5451.1.size : Int) = 18
            · skip
              replace h := ite_pos' h hp5462
              replace ha := ha.bool 41 KR (ieq_t hp5462)
              refine stepp ha 42 (.string t5451.1) KR KR ?_; clear ha a; intro a ha
              obtain ⟨hA5463, h_⟩ := asrt_some h; clear h; have h := h_; clear h_
              refine stepsi ha 43 9 (.tmp 42) (.const (.int .i64 0)) t5451.1 .i64 0 rfl KR KR KR (by decide) (show (0 : Int) < ((t5451.1).size : Int) from hA5463) KR ?_; clear ha a; intro a ha
              refine stepp ha 44 (.bool ((bt t5451.1 0) == 240)) KR KR ?_; clear ha a; intro a ha
              refine stepp ha 45 (.bool ((bt t5451.1 0) == 240)) KR KR ?_; clear ha a; intro a ha
              refine stepp ha 46 (.bool ((bt t5451.1 0) == 240)) KR KR ?_; clear ha a; intro a ha
              by_cases hp5464 : (bt t5451.1 0) = 240
              · skip
                replace h := ite_pos' h hp5464
                replace ha := ha.bool 46 KR (ieq_t hp5464)
                refine stepp ha 47 (.string t5451.1) KR KR ?_; clear ha a; intro a ha
                obtain ⟨hA5465, h_⟩ := asrt_some h; clear h; have h := h_; clear h_
                refine stepsi ha 48 9 (.tmp 47) (.const (.int .i64 6)) t5451.1 .i64 6 rfl KR KR KR (by decide) (show (6 : Int) < ((t5451.1).size : Int) from hA5465) KR ?_; clear ha a; intro a ha
                refine stepp ha 49 (.bool ((bt t5451.1 6) == 3)) KR KR ?_; clear ha a; intro a ha
                refine stepp ha 50 (.bool ((bt t5451.1 6) == 3)) KR KR ?_; clear ha a; intro a ha
                refine stepp ha 0 (.bool ((bt t5451.1 6) == 3)) KR KR ?_; clear ha a; intro a ha
                refine endl ?_
                refine thenN (hK5456 _ _ ?_); clear hK5456
                refine wp_ret ?_
                obtain rfl := Option.some.inj h
                exact finv ha _ _ rfl (.tmp (v := .bool ((bt t5451.1 6) == 3)) KR .nil) (.bool ((bt t5451.1 6) == 3)) rfl ⟨rfl, HW.pick [] [] (by decide) (by decide) rfl KR⟩
              · skip
                replace h := ite_neg' h hp5464
                replace ha := ha.bool 46 KR (ieq_f hp5464)
                refine stepo ha 47 KR ?_; clear ha a; intro a ha
                refine stepo ha 48 KR ?_; clear ha a; intro a ha
                refine stepo ha 49 KR ?_; clear ha a; intro a ha
                refine stepp ha 50 (.bool false) KR KR ?_; clear ha a; intro a ha
                refine stepp ha 0 (.bool false) KR KR ?_; clear ha a; intro a ha
                refine endl ?_
                refine thenN (hK5456 _ _ ?_); clear hK5456
                refine wp_ret ?_
                obtain rfl := Option.some.inj h
                exact finv ha _ _ rfl (.tmp (v := .bool false) KR .nil) (.bool false) rfl ⟨rfl, HW.pick [] [] (by decide) (by decide) rfl KR⟩
            · skip
              replace h := ite_neg' h hp5462
              replace ha := ha.bool 41 KR (ieq_f hp5462)
              refine stepo ha 42 KR ?_; clear ha a; intro a ha
              refine stepo ha 43 KR ?_; clear ha a; intro a ha
              refine stepo ha 44 KR ?_; clear ha a; intro a ha
              refine stepp ha 45 (.bool false) KR KR ?_; clear ha a; intro a ha
              refine stepp ha 46 (.bool false) KR KR ?_; clear ha a; intro a ha
              refine stepo ha 47 KR ?_; clear ha a; intro a ha
              refine stepo ha 48 KR ?_; clear ha a; intro a ha
              refine stepo ha 49 KR ?_; clear ha a; intro a ha
              refine stepp ha 50 (.bool false) KR KR ?_; clear ha a; intro a ha
              refine stepp ha 0 (.bool false) KR KR ?_; clear ha a; intro a ha
              refine endl ?_
              refine thenN (hK5456 _ _ ?_); clear hK5456
              refine wp_ret ?_
              obtain rfl := Option.some.inj h
              exact finv ha _ _ rfl (.tmp (v := .bool false) KR .nil) (.bool false) rfl ⟨rfl, HW.pick [] [] (by decide) (by decide) rfl KR⟩
          · skip
            replace h := ite_neg' h hp5461
            replace ha := ha.bool 36 KR (ieq_f hp5461)
            refine stepo ha 37 KR ?_; clear ha a; intro a ha
            refine stepo ha 38 KR ?_; clear ha a; intro a ha
            refine stepo ha 39 KR ?_; clear ha a; intro a ha
            refine stepp ha 40 (.bool false) KR KR ?_; clear ha a; intro a ha
            refine stepp ha 41 (.bool false) KR KR ?_; clear ha a; intro a ha
            refine stepo ha 42 KR ?_; clear ha a; intro a ha
            refine stepo ha 43 KR ?_; clear ha a; intro a ha
            refine stepo ha 44 KR ?_; clear ha a; intro a ha
            refine stepp ha 45 (.bool false) KR KR ?_; clear ha a; intro a ha
            refine stepp ha 46 (.bool false) KR KR ?_; clear ha a; intro a ha
            refine stepo ha 47 KR ?_; clear ha a; intro a ha
            refine stepo ha 48 KR ?_; clear ha a; intro a ha
            refine stepo ha 49 KR ?_; clear ha a; intro a ha
            refine stepp ha 50 (.bool false) KR KR ?_; clear ha a; intro a ha
            refine stepp ha 0 (.bool false) KR KR ?_; clear ha a; intro a ha
            refine endl ?_
            refine thenN (hK5456 _ _ ?_); clear hK5456
            refine wp_ret ?_
            obtain rfl := Option.some.inj h
            exact finv ha _ _ rfl (.tmp (v := .bool false) KR .nil) (.bool false) rfl ⟨rfl, HW.pick [] [] (by decide) (by decide) rfl KR⟩
        · skip
          replace h := ite_neg' h hp5460
          replace ha := ha.bool 32 KR (ieq_f hp5460)
          refine stepo ha 33 KR ?_; clear ha a; intro a ha
          refine stepo ha 34 KR ?_; clear ha a; intro a ha
          refine stepp ha 35 (.bool false) KR KR ?_; clear ha a; intro a ha
          refine stepp ha 36 (.bool false) KR KR ?_; clear ha a; intro a ha
          refine stepo ha 37 KR ?_; clear ha a; intro a ha
          refine stepo ha 38 KR ?_; clear ha a; intro a ha
          refine stepo ha 39 KR ?_; clear ha a; intro a ha
          refine stepp ha 40 (.bool false) KR KR ?_; clear ha a; intro a ha
          refine stepp ha 41 (.bool false) KR KR ?_; clear ha a; intro a ha
          refine stepo ha 42 KR ?_; clear ha a; intro a ha
          refine stepo ha 43 KR ?_; clear ha a; intro a ha
          refine stepo ha 44 KR ?_; clear ha a; intro a ha
          refine stepp ha 45 (.bool false) KR KR ?_; clear ha a; intro a ha
          refine stepp ha 46 (.bool false) KR KR ?_; clear ha a; intro a ha
          refine stepo ha 47 KR ?_; clear ha a; intro a ha
          refine stepo ha 48 KR ?_; clear ha a; intro a ha
          refine stepo ha 49 KR ?_; clear ha a; intro a ha
          refine stepp ha 50 (.bool false) KR KR ?_; clear ha a; intro a ha
          refine stepp ha 0 (.bool false) KR KR ?_; clear ha a; intro a ha
          refine endl ?_
          refine thenN (hK5456 _ _ ?_); clear hK5456
          refine wp_ret ?_
          obtain rfl := Option.some.inj h
          exact finv ha _ _ rfl (.tmp (v := .bool false) KR .nil) (.bool false) rfl ⟨rfl, HW.pick [] [] (by decide) (by decide) rfl KR⟩
      · skip
        replace h := ite_neg' h hp5459
        replace ha := ha.bool 27 KR (ieq_f hp5459)
        refine stepo ha 28 KR ?_; clear ha a; intro a ha
        refine stepo ha 29 KR ?_; clear ha a; intro a ha
        refine stepo ha 30 KR ?_; clear ha a; intro a ha
        refine stepp ha 31 (.bool false) KR KR ?_; clear ha a; intro a ha
        refine stepp ha 32 (.bool false) KR KR ?_; clear ha a; intro a ha
        refine stepo ha 33 KR ?_; clear ha a; intro a ha
        refine stepo ha 34 KR ?_; clear ha a; intro a ha
        refine stepp ha 35 (.bool false) KR KR ?_; clear ha a; intro a ha
        refine stepp ha 36 (.bool false) KR KR ?_; clear ha a; intro a ha
        refine stepo ha 37 KR ?_; clear ha a; intro a ha
        refine stepo ha 38 KR ?_; clear ha a; intro a ha
        refine stepo ha 39 KR ?_; clear ha a; intro a ha
        refine stepp ha 40 (.bool false) KR KR ?_; clear ha a; intro a ha
        refine stepp ha 41 (.bool false) KR KR ?_; clear ha a; intro a ha
        refine stepo ha 42 KR ?_; clear ha a; intro a ha
        refine stepo ha 43 KR ?_; clear ha a; intro a ha
        refine stepo ha 44 KR ?_; clear ha a; intro a ha
        refine stepp ha 45 (.bool false) KR KR ?_; clear ha a; intro a ha
        refine stepp ha 46 (.bool false) KR KR ?_; clear ha a; intro a ha
        refine stepo ha 47 KR ?_; clear ha a; intro a ha
        refine stepo ha 48 KR ?_; clear ha a; intro a ha
        refine stepo ha 49 KR ?_; clear ha a; intro a ha
        refine stepp ha 50 (.bool false) KR KR ?_; clear ha a; intro a ha
        refine stepp ha 0 (.bool false) KR KR ?_; clear ha a; intro a ha
        refine endl ?_
        refine thenN (hK5456 _ _ ?_); clear hK5456
        refine wp_ret ?_
        obtain rfl := Option.some.inj h
        exact finv ha _ _ rfl (.tmp (v := .bool false) KR .nil) (.bool false) rfl ⟨rfl, HW.pick [] [] (by decide) (by decide) rfl KR⟩
    · skip
      replace h := ite_neg' h hp5458
      replace ha := ha.bool 22 KR (ieq_f hp5458)
      refine stepo ha 23 KR ?_; clear ha a; intro a ha
      refine stepo ha 24 KR ?_; clear ha a; intro a ha
      refine stepo ha 25 KR ?_; clear ha a; intro a ha
      refine stepp ha 26 (.bool false) KR KR ?_; clear ha a; intro a ha
      refine stepp ha 27 (.bool false) KR KR ?_; clear ha a; intro a ha
      refine stepo ha 28 KR ?_; clear ha a; intro a ha
      refine stepo ha 29 KR ?_; clear ha a; intro a ha
      refine stepo ha 30 KR ?_; clear ha a; intro a ha
      refine stepp ha 31 (.bool false) KR KR ?_; clear ha a; intro a ha
      refine stepp ha 32 (.bool false) KR KR ?_; clear ha a; intro a ha
      refine stepo ha 33 KR ?_; clear ha a; intro a ha
      refine stepo ha 34 KR ?_; clear ha a; intro a ha
      refine stepp ha 35 (.bool false) KR KR ?_; clear ha a; intro a ha
      refine stepp ha 36 (.bool false) KR KR ?_; clear ha a; intro a ha
      refine stepo ha 37 KR ?_; clear ha a; intro a ha
      refine stepo ha 38 KR ?_; clear ha a; intro a ha
      refine stepo ha 39 KR ?_; clear ha a; intro a ha
      refine stepp ha 40 (.bool false) KR KR ?_; clear ha a; intro a ha
      refine stepp ha 41 (.bool false) KR KR ?_; clear ha a; intro a ha
      refine stepo ha 42 KR ?_; clear ha a; intro a ha
      refine stepo ha 43 KR ?_; clear ha a; intro a ha
      refine stepo ha 44 KR ?_; clear ha a; intro a ha
      refine stepp ha 45 (.bool false) KR KR ?_; clear ha a; intro a ha
      refine stepp ha 46 (.bool false) KR KR ?_; clear ha a; intro a ha
      refine stepo ha 47 KR ?_; clear ha a; intro a ha
      refine stepo ha 48 KR ?_; clear ha a; intro a ha
      refine stepo ha 49 KR ?_; clear ha a; intro a ha
      refine stepp ha 50 (.bool false) KR KR ?_; clear ha a; intro a ha
      refine stepp ha 0 (.bool false) KR KR ?_; clear ha a; intro a ha
      refine endl ?_
      refine thenN (hK5456 _ _ ?_); clear hK5456
      refine wp_ret ?_
      obtain rfl := Option.some.inj h
      exact finv ha _ _ rfl (.tmp (v := .bool false) KR .nil) (.bool false) rfl ⟨rfl, HW.pick [] [] (by decide) (by decide) rfl KR⟩
  · skip
    replace h := ite_neg' h hp5457
    replace ha := ha.bool 17 KR (ieq_f hp5457)
    refine stepo ha 18 KR ?_; clear ha a; intro a ha
    refine stepo ha 19 KR ?_; clear ha a; intro a ha
    refine stepo ha 20 KR ?_; clear ha a; intro a ha
    refine stepp ha 21 (.bool false) KR KR ?_; clear ha a; intro a ha
    refine stepp ha 22 (.bool false) KR KR ?_; clear ha a; intro a ha
    refine stepo ha 23 KR ?_; clear ha a; intro a ha
    refine stepo ha 24 KR ?_; clear ha a; intro a ha
    refine stepo ha 25 KR ?_; clear ha a; intro a ha
    refine stepp ha 26 (.bool false) KR KR ?_; clear ha a; intro a ha
    refine stepp ha 27 (.bool false) KR KR ?_; clear ha a; intro a ha
    refine stepo ha 28 KR ?_; clear ha a; intro a ha
    refine stepo ha 29 KR ?_; clear ha a; intro a ha
    refine stepo ha 30 KR ?_; clear ha a; intro a ha
    refine stepp ha 31 (.bool false) KR KR ?_; clear ha a; intro a ha
    refine stepp ha 32 (.bool false) KR KR ?_; clear ha a; intro a ha
    refine stepo ha 33 KR ?_; clear ha a; intro a ha
    refine stepo ha 34 KR ?_; clear ha a; intro a ha
    refine stepp ha 35 (.bool false) KR KR ?_; clear ha a; intro a ha
    refine stepp ha 36 (.bool false) KR KR ?_; clear ha a; intro a ha
    refine stepo ha 37 KR ?_; clear ha a; intro a ha
    refine stepo ha 38 KR ?_; clear ha a; intro a ha
    refine stepo ha 39 KR ?_; clear ha a; intro a ha
    refine stepp ha 40 (.bool false) KR KR ?_; clear ha a; intro a ha
    refine stepp ha 41 (.bool false) KR KR ?_; clear ha a; intro a ha
    refine stepo ha 42 KR ?_; clear ha a; intro a ha
    refine stepo ha 43 KR ?_; clear ha a; intro a ha
    refine stepo ha 44 KR ?_; clear ha a; intro a ha
    refine stepp ha 45 (.bool false) KR KR ?_; clear ha a; intro a ha
    refine stepp ha 46 (.bool false) KR KR ?_; clear ha a; intro a ha
    refine stepo ha 47 KR ?_; clear ha a; intro a ha
    refine stepo ha 48 KR ?_; clear ha a; intro a ha
    refine stepo ha 49 KR ?_; clear ha a; intro a ha
    refine stepp ha 50 (.bool false) KR KR ?_; clear ha a; intro a ha
    refine stepp ha 0 (.bool false) KR KR ?_; clear ha a; intro a ha
    refine endl ?_
    refine thenN (hK5456 _ _ ?_); clear hK5456
    refine wp_ret ?_
    obtain rfl := Option.some.inj h
    exact finv ha _ _ rfl (.tmp (v := .bool false) KR .nil) (.bool false) rfl ⟨rfl, HW.pick [] [] (by decide) (by decide) rfl KR⟩
end Go.Proofs.YthjjbkgifelooaaDoor.F
