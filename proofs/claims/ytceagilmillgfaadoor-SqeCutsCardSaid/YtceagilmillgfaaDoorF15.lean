/- headgate/sqe.End: a plain function, and that the call comes to what it says. No condition. -/
import Derived.Test.YtceagilmillgfaaDoorFT
import Derived.Test.YtceagilmillgfaaDoorF42
import Derived.Test.YtceagilmillgfaaDoorF43
import Derived.Test.YtceagilmillgfaaDoorF44
import Derived.Test.YtceagilmillgfaaDoorF47
namespace Go.Proofs.YtceagilmillgfaaDoor.F
open Go Go.RowKit Go.Proofs.YtceagilmillgfaaDoor.X
set_option linter.unusedVariables false
set_option linter.unusedSimpArgs false
/-! ### headgate/sqe.End: function 15 -/
def sqe_End.f (K : Nat) (a0 : T_api_Cqe) : Option (ByteArray × Int) :=
  (sqe_fieldsFor.f K true).bind fun t952 => ((sqe_put.f K 16 t952 ([IntKind.wrap .u64 a0.f0, IntKind.wrap .u64 a0.f1, IntKind.wrap .u64 a0.f2, IntKind.wrap .u64 a0.f3, IntKind.wrap .u64 a0.f4, IntKind.wrap .u64 a0.f5] : List Int)).bind fun t966 => (if t966.2 = true then ((fields_PutLittle.f K (IntKind.wrap .u64 (IntKind.wrap .i64 (2 * a0.f5))) 2).bind fun t980 => ((fields_Set.f t966.1 14 t980).bind fun t984 => (some (t984.1, 0)))) else (some ((⟨#[]⟩ : ByteArray), 250))))
set_option maxRecDepth 100000 in
set_option maxHeartbeats 4000000 in
theorem sqe_End.calls (K : Nat) (a0 : T_api_Cqe)  (r : ByteArray × Int) (w : World) (hG1 : CA w 1 0 (encs T_sqe_field.enc G_sqe_endsOf).toArray) (hG2 : CA w 2 0 (encs T_sqe_field.enc G_sqe_fieldsOf).toArray) (h : sqe_End.f K a0 = some r) :
    Calls Tryd.prog 15 #[.agg #[.int .u32 a0.f0, .int .u32 a0.f1, .int .i64 a0.f2, .int .i64 a0.f3, .int .i64 a0.f4, .int .i64 a0.f5]] w (fun e W' => e = .returned (.tuple #[.string r.1, .int .i64 r.2]) ∧ Wd w W' [] [] ) := by
  refine sxstart (n := 43) (l := [(0, .agg #[.int .u32 a0.f0, .int .u32 a0.f1, .int .i64 a0.f2, .int .i64 a0.f3, .int .i64 a0.f4, .int .i64 a0.f5])]) Tryd.func15 rfl rfl (Nat.le_of_ble_eq_true (by kernel_rfl)) (subsA_cons rfl (subsA_nil _)) ?_
  intro a ha
  have HW := Wd.refl w
  unfold sqe_End.f at h
  refine wp_seq_k (fun K946 hK947 => ?_)
  refine wp_region_lit ?_
  refine stepnew ha HW 1 #[.int .u32 a0.f0, .int .u32 a0.f1, .int .i64 a0.f2, .int .i64 a0.f3, .int .i64 a0.f4, .int .i64 a0.f5] 27 (by kernel_rfl) (by kernel_rfl) ?_; clear ha HW a; intro b948 a W949 HW ha
  refine stepp ha 2 (.string (⟨#[]⟩ : ByteArray)) (by kernel_rfl) (by kernel_rfl) ?_; clear ha a; intro a ha
  refine stepp ha 3 (.int .i64 0) (by kernel_rfl) (by kernel_rfl) ?_; clear ha a; intro a ha
  refine endl ?_
  refine thenN (hK947 _ _ ?_); clear hK947
  refine wp_seq_k (fun K950 hK951 => ?_)
  obtain ⟨t952, ht953, h_⟩ := bind_some' h; clear h; have h := h_; clear h_
  obtain ⟨t966, ht967, h_⟩ := bind_some' h; clear h; have h := h_; clear h_
  refine regionG 25 (by kernel_rfl) (by kernel_rfl) ha HW [.rd 3 t952.length (encs T_sqe_field.enc t952), .fix (.pointer (some ⟨b948, 0, none⟩)), .fix (.int .u32 a0.f0), .fix (.int .u64 (IntKind.wrap .u64 a0.f0)), .fix (.pointer (some ⟨b948, 1, none⟩)), .fix (.int .u32 a0.f1), .fix (.int .u64 (IntKind.wrap .u64 a0.f1)), .fix (.pointer (some ⟨b948, 2, none⟩)), .fix (.int .i64 a0.f2), .fix (.int .u64 (IntKind.wrap .u64 a0.f2)), .fix (.pointer (some ⟨b948, 3, none⟩)), .fix (.int .i64 a0.f3), .fix (.int .u64 (IntKind.wrap .u64 a0.f3)), .fix (.pointer (some ⟨b948, 4, none⟩)), .fix (.int .i64 a0.f4), .fix (.int .u64 (IntKind.wrap .u64 a0.f4)), .fix (.pointer (some ⟨b948, 5, none⟩)), .fix (.int .i64 a0.f5), .fix (.int .u64 (IntKind.wrap .u64 a0.f5)), .rd 1 ([IntKind.wrap .u64 a0.f0, IntKind.wrap .u64 a0.f1, IntKind.wrap .u64 a0.f2, IntKind.wrap .u64 a0.f3, IntKind.wrap .u64 a0.f4, IntKind.wrap .u64 a0.f5] : List Int).length (encs (encI .u64) ([IntKind.wrap .u64 a0.f0, IntKind.wrap .u64 a0.f1, IntKind.wrap .u64 a0.f2, IntKind.wrap .u64 a0.f3, IntKind.wrap .u64 a0.f4, IntKind.wrap .u64 a0.f5] : List Int)), .fix (.tuple #[.string t966.1, .bool t966.2]), .fix (.tuple #[.string t966.1, .bool t966.2]), .fix (.string t966.1), .fix (.bool t966.2), .fix (.string t966.1)] ?_ ?_
  · skip
    refine ⟨?_, ?_, ?_, ?_, ?_, ?_, ?_, ?_, ?_, ?_, ?_, ?_, ?_, ?_, ?_, ?_, ?_, ?_, ?_, ?_, ?_, ?_, ?_, ?_, ?_, trivial⟩
    · skip
      intro a wr hn hd HW hs; have ha := hasNil hn hd
      refine yStep ha 7 (by kernel_rfl) ?_; intro l_ ha HK
      refine stepc ha 7 (by kernel_rfl) (by kernel_rfl) (sqe_fieldsFor.calls K true t952 _ (HW.ca0 hG1) (HW.ca0 hG2) ht953) ?_; rintro e W957 ⟨A954, c955, rfl, HX958⟩
      refine ⟨_, rfl, ?_⟩; intro ax hax; exact HK _ _ _ hax (show Rd 3 _ _ t952.length (encs T_sqe_field.enc t952) from HX958.rdo (i := 0) (q := ⟨118, 3, .slice A954 t952.length c955, t952.length, encs T_sqe_field.enc t952⟩) (by kernel_rfl)) HX958.below
    · skip
      intro a wr hn hd HW hs; have ha := hasNil hn hd
      have ha := ha.add (seeE hs 1 (.pointer (some ⟨b948, 0, none⟩)) (by kernel_rfl) (by kernel_rfl))
      refine yStep ha 8 (by kernel_rfl) ?_; intro l_ ha HK
      refine stepp ha 8 (.pointer (some ⟨b948, 0, none⟩)) (by kernel_rfl) (by kernel_rfl) ?_; intro ax hax; exact HK _ _ _ hax rfl (Below.refl _ _)
    · skip
      intro a wr hn hd HW hs; have ha := hasNil hn hd
      have ha := ha.add (seeF hs 8 1 (.pointer (some ⟨b948, 0, none⟩)) (by kernel_rfl) (by kernel_rfl))
      refine yStep ha 9 (by kernel_rfl) ?_; intro l_ ha HK
      refine stepl ha 9 (HW.ca (i := 0) (b := b948) (C := #[.int .u32 a0.f0, .int .u32 a0.f1, .int .i64 a0.f2, .int .i64 a0.f3, .int .i64 a0.f4, .int .i64 a0.f5]) (T := 27) (fr := (0, 0)) (by kernel_rfl)) 22 0 (.tmp 8) (.int .u32 a0.f0) rfl (by kernel_rfl) (by kernel_rfl) (by kernel_rfl) ?_; intro ax hax; exact HK _ _ _ hax rfl (Below.refl _ _)
    · skip
      intro a wr hn hd HW hs; have ha := hasNil hn hd
      have ha := ha.add (seeF hs 9 2 (.int .u32 a0.f0) (by kernel_rfl) (by kernel_rfl))
      refine yStep ha 10 (by kernel_rfl) ?_; intro l_ ha HK
      refine stepp ha 10 (.int .u64 (IntKind.wrap .u64 a0.f0)) (by kernel_rfl) (by kernel_rfl) ?_; intro ax hax; exact HK _ _ _ hax rfl (Below.refl _ _)
    · skip
      intro a wr hn hd HW hs; have ha := hasNil hn hd
      have ha := ha.add (seeE hs 1 (.pointer (some ⟨b948, 0, none⟩)) (by kernel_rfl) (by kernel_rfl))
      refine yStep ha 11 (by kernel_rfl) ?_; intro l_ ha HK
      refine stepp ha 11 (.pointer (some ⟨b948, 1, none⟩)) (by kernel_rfl) (by kernel_rfl) ?_; intro ax hax; exact HK _ _ _ hax rfl (Below.refl _ _)
    · skip
      intro a wr hn hd HW hs; have ha := hasNil hn hd
      have ha := ha.add (seeF hs 11 4 (.pointer (some ⟨b948, 1, none⟩)) (by kernel_rfl) (by kernel_rfl))
      refine yStep ha 12 (by kernel_rfl) ?_; intro l_ ha HK
      refine stepl ha 12 (HW.ca (i := 0) (b := b948) (C := #[.int .u32 a0.f0, .int .u32 a0.f1, .int .i64 a0.f2, .int .i64 a0.f3, .int .i64 a0.f4, .int .i64 a0.f5]) (T := 27) (fr := (0, 0)) (by kernel_rfl)) 22 1 (.tmp 11) (.int .u32 a0.f1) rfl (by kernel_rfl) (by kernel_rfl) (by kernel_rfl) ?_; intro ax hax; exact HK _ _ _ hax rfl (Below.refl _ _)
    · skip
      intro a wr hn hd HW hs; have ha := hasNil hn hd
      have ha := ha.add (seeF hs 12 5 (.int .u32 a0.f1) (by kernel_rfl) (by kernel_rfl))
      refine yStep ha 13 (by kernel_rfl) ?_; intro l_ ha HK
      refine stepp ha 13 (.int .u64 (IntKind.wrap .u64 a0.f1)) (by kernel_rfl) (by kernel_rfl) ?_; intro ax hax; exact HK _ _ _ hax rfl (Below.refl _ _)
    · skip
      intro a wr hn hd HW hs; have ha := hasNil hn hd
      have ha := ha.add (seeE hs 1 (.pointer (some ⟨b948, 0, none⟩)) (by kernel_rfl) (by kernel_rfl))
      refine yStep ha 14 (by kernel_rfl) ?_; intro l_ ha HK
      refine stepp ha 14 (.pointer (some ⟨b948, 2, none⟩)) (by kernel_rfl) (by kernel_rfl) ?_; intro ax hax; exact HK _ _ _ hax rfl (Below.refl _ _)
    · skip
      intro a wr hn hd HW hs; have ha := hasNil hn hd
      have ha := ha.add (seeF hs 14 7 (.pointer (some ⟨b948, 2, none⟩)) (by kernel_rfl) (by kernel_rfl))
      refine yStep ha 15 (by kernel_rfl) ?_; intro l_ ha HK
      refine stepl ha 15 (HW.ca (i := 0) (b := b948) (C := #[.int .u32 a0.f0, .int .u32 a0.f1, .int .i64 a0.f2, .int .i64 a0.f3, .int .i64 a0.f4, .int .i64 a0.f5]) (T := 27) (fr := (0, 0)) (by kernel_rfl)) 3 2 (.tmp 14) (.int .i64 a0.f2) rfl (by kernel_rfl) (by kernel_rfl) (by kernel_rfl) ?_; intro ax hax; exact HK _ _ _ hax rfl (Below.refl _ _)
    · skip
      intro a wr hn hd HW hs; have ha := hasNil hn hd
      have ha := ha.add (seeF hs 15 8 (.int .i64 a0.f2) (by kernel_rfl) (by kernel_rfl))
      refine yStep ha 16 (by kernel_rfl) ?_; intro l_ ha HK
      refine stepp ha 16 (.int .u64 (IntKind.wrap .u64 a0.f2)) (by kernel_rfl) (by kernel_rfl) ?_; intro ax hax; exact HK _ _ _ hax rfl (Below.refl _ _)
    · skip
      intro a wr hn hd HW hs; have ha := hasNil hn hd
      have ha := ha.add (seeE hs 1 (.pointer (some ⟨b948, 0, none⟩)) (by kernel_rfl) (by kernel_rfl))
      refine yStep ha 17 (by kernel_rfl) ?_; intro l_ ha HK
      refine stepp ha 17 (.pointer (some ⟨b948, 3, none⟩)) (by kernel_rfl) (by kernel_rfl) ?_; intro ax hax; exact HK _ _ _ hax rfl (Below.refl _ _)
    · skip
      intro a wr hn hd HW hs; have ha := hasNil hn hd
      have ha := ha.add (seeF hs 17 10 (.pointer (some ⟨b948, 3, none⟩)) (by kernel_rfl) (by kernel_rfl))
      refine yStep ha 18 (by kernel_rfl) ?_; intro l_ ha HK
      refine stepl ha 18 (HW.ca (i := 0) (b := b948) (C := #[.int .u32 a0.f0, .int .u32 a0.f1, .int .i64 a0.f2, .int .i64 a0.f3, .int .i64 a0.f4, .int .i64 a0.f5]) (T := 27) (fr := (0, 0)) (by kernel_rfl)) 3 3 (.tmp 17) (.int .i64 a0.f3) rfl (by kernel_rfl) (by kernel_rfl) (by kernel_rfl) ?_; intro ax hax; exact HK _ _ _ hax rfl (Below.refl _ _)
    · skip
      intro a wr hn hd HW hs; have ha := hasNil hn hd
      have ha := ha.add (seeF hs 18 11 (.int .i64 a0.f3) (by kernel_rfl) (by kernel_rfl))
      refine yStep ha 19 (by kernel_rfl) ?_; intro l_ ha HK
      refine stepp ha 19 (.int .u64 (IntKind.wrap .u64 a0.f3)) (by kernel_rfl) (by kernel_rfl) ?_; intro ax hax; exact HK _ _ _ hax rfl (Below.refl _ _)
    · skip
      intro a wr hn hd HW hs; have ha := hasNil hn hd
      have ha := ha.add (seeE hs 1 (.pointer (some ⟨b948, 0, none⟩)) (by kernel_rfl) (by kernel_rfl))
      refine yStep ha 20 (by kernel_rfl) ?_; intro l_ ha HK
      refine stepp ha 20 (.pointer (some ⟨b948, 4, none⟩)) (by kernel_rfl) (by kernel_rfl) ?_; intro ax hax; exact HK _ _ _ hax rfl (Below.refl _ _)
    · skip
      intro a wr hn hd HW hs; have ha := hasNil hn hd
      have ha := ha.add (seeF hs 20 13 (.pointer (some ⟨b948, 4, none⟩)) (by kernel_rfl) (by kernel_rfl))
      refine yStep ha 21 (by kernel_rfl) ?_; intro l_ ha HK
      refine stepl ha 21 (HW.ca (i := 0) (b := b948) (C := #[.int .u32 a0.f0, .int .u32 a0.f1, .int .i64 a0.f2, .int .i64 a0.f3, .int .i64 a0.f4, .int .i64 a0.f5]) (T := 27) (fr := (0, 0)) (by kernel_rfl)) 3 4 (.tmp 20) (.int .i64 a0.f4) rfl (by kernel_rfl) (by kernel_rfl) (by kernel_rfl) ?_; intro ax hax; exact HK _ _ _ hax rfl (Below.refl _ _)
    · skip
      intro a wr hn hd HW hs; have ha := hasNil hn hd
      have ha := ha.add (seeF hs 21 14 (.int .i64 a0.f4) (by kernel_rfl) (by kernel_rfl))
      refine yStep ha 22 (by kernel_rfl) ?_; intro l_ ha HK
      refine stepp ha 22 (.int .u64 (IntKind.wrap .u64 a0.f4)) (by kernel_rfl) (by kernel_rfl) ?_; intro ax hax; exact HK _ _ _ hax rfl (Below.refl _ _)
    · skip
      intro a wr hn hd HW hs; have ha := hasNil hn hd
      have ha := ha.add (seeE hs 1 (.pointer (some ⟨b948, 0, none⟩)) (by kernel_rfl) (by kernel_rfl))
      refine yStep ha 23 (by kernel_rfl) ?_; intro l_ ha HK
      refine stepp ha 23 (.pointer (some ⟨b948, 5, none⟩)) (by kernel_rfl) (by kernel_rfl) ?_; intro ax hax; exact HK _ _ _ hax rfl (Below.refl _ _)
    · skip
      intro a wr hn hd HW hs; have ha := hasNil hn hd
      have ha := ha.add (seeF hs 23 16 (.pointer (some ⟨b948, 5, none⟩)) (by kernel_rfl) (by kernel_rfl))
      refine yStep ha 24 (by kernel_rfl) ?_; intro l_ ha HK
      refine stepl ha 24 (HW.ca (i := 0) (b := b948) (C := #[.int .u32 a0.f0, .int .u32 a0.f1, .int .i64 a0.f2, .int .i64 a0.f3, .int .i64 a0.f4, .int .i64 a0.f5]) (T := 27) (fr := (0, 0)) (by kernel_rfl)) 3 5 (.tmp 23) (.int .i64 a0.f5) rfl (by kernel_rfl) (by kernel_rfl) (by kernel_rfl) ?_; intro ax hax; exact HK _ _ _ hax rfl (Below.refl _ _)
    · skip
      intro a wr hn hd HW hs; have ha := hasNil hn hd
      have ha := ha.add (seeF hs 24 17 (.int .i64 a0.f5) (by kernel_rfl) (by kernel_rfl))
      refine yStep ha 25 (by kernel_rfl) ?_; intro l_ ha HK
      refine stepp ha 25 (.int .u64 (IntKind.wrap .u64 a0.f5)) (by kernel_rfl) (by kernel_rfl) ?_; intro ax hax; exact HK _ _ _ hax rfl (Below.refl _ _)
    · skip
      intro a wr hn hd HW hs; have ha := hasNil hn hd
      have ha := ha.add (seeF hs 10 3 (.int .u64 (IntKind.wrap .u64 a0.f0)) (by kernel_rfl) (by kernel_rfl))
      have ha := ha.add (seeF hs 13 6 (.int .u64 (IntKind.wrap .u64 a0.f1)) (by kernel_rfl) (by kernel_rfl))
      have ha := ha.add (seeF hs 16 9 (.int .u64 (IntKind.wrap .u64 a0.f2)) (by kernel_rfl) (by kernel_rfl))
      have ha := ha.add (seeF hs 19 12 (.int .u64 (IntKind.wrap .u64 a0.f3)) (by kernel_rfl) (by kernel_rfl))
      have ha := ha.add (seeF hs 22 15 (.int .u64 (IntKind.wrap .u64 a0.f4)) (by kernel_rfl) (by kernel_rfl))
      have ha := ha.add (seeF hs 25 18 (.int .u64 (IntKind.wrap .u64 a0.f5)) (by kernel_rfl) (by kernel_rfl))
      refine yStep ha 26 (by kernel_rfl) ?_; intro l_ ha HK
      refine stepbs ha (Wd.refl wr) 26 45 1 6 #[.int .u64 (IntKind.wrap .u64 a0.f0), .int .u64 (IntKind.wrap .u64 a0.f1), .int .u64 (IntKind.wrap .u64 a0.f2), .int .u64 (IntKind.wrap .u64 a0.f3), .int .u64 (IntKind.wrap .u64 a0.f4), .int .u64 (IntKind.wrap .u64 a0.f5)] [.int .u64 (IntKind.wrap .u64 a0.f0), .int .u64 (IntKind.wrap .u64 a0.f1), .int .u64 (IntKind.wrap .u64 a0.f2), .int .u64 (IntKind.wrap .u64 a0.f3), .int .u64 (IntKind.wrap .u64 a0.f4), .int .u64 (IntKind.wrap .u64 a0.f5)] (by decide) (by kernel_rfl) (by kernel_rfl) (by kernel_rfl) (by kernel_rfl) ?_; intro b960 ax W961 HV hax
      exact HK _ _ _ hax (show Rd 1 _ _ ([IntKind.wrap .u64 a0.f0, IntKind.wrap .u64 a0.f1, IntKind.wrap .u64 a0.f2, IntKind.wrap .u64 a0.f3, IntKind.wrap .u64 a0.f4, IntKind.wrap .u64 a0.f5] : List Int).length (encs (encI .u64) ([IntKind.wrap .u64 a0.f0, IntKind.wrap .u64 a0.f1, IntKind.wrap .u64 a0.f2, IntKind.wrap .u64 a0.f3, IntKind.wrap .u64 a0.f4, IntKind.wrap .u64 a0.f5] : List Int)) from HV.rdo (i := 0) (q := ⟨45, 1, .slice (some ⟨b960, 0, none⟩) 6 6, 6, [.int .u64 (IntKind.wrap .u64 a0.f0), .int .u64 (IntKind.wrap .u64 a0.f1), .int .u64 (IntKind.wrap .u64 a0.f2), .int .u64 (IntKind.wrap .u64 a0.f3), .int .u64 (IntKind.wrap .u64 a0.f4), .int .u64 (IntKind.wrap .u64 a0.f5)]⟩) (by kernel_rfl)) HV.below
    · skip
      intro a wr hn hd HW hs; have ha := hasNil hn hd
      obtain ⟨A954, c955, he_, hR959⟩ := seeR hs 7 0 3 t952.length (encs T_sqe_field.enc t952) (by kernel_rfl) (by kernel_rfl); have ha := ha.add he_
      obtain ⟨A963, c964, he_, hR965⟩ := seeR hs 26 19 1 ([IntKind.wrap .u64 a0.f0, IntKind.wrap .u64 a0.f1, IntKind.wrap .u64 a0.f2, IntKind.wrap .u64 a0.f3, IntKind.wrap .u64 a0.f4, IntKind.wrap .u64 a0.f5] : List Int).length (encs (encI .u64) ([IntKind.wrap .u64 a0.f0, IntKind.wrap .u64 a0.f1, IntKind.wrap .u64 a0.f2, IntKind.wrap .u64 a0.f3, IntKind.wrap .u64 a0.f4, IntKind.wrap .u64 a0.f5] : List Int)) (by kernel_rfl) (by kernel_rfl); have ha := ha.add he_
      refine yStep ha 27 (by kernel_rfl) ?_; intro l_ ha HK
      refine stepc ha 27 (by kernel_rfl) (by kernel_rfl) (sqe_put.calls K 16 t952 ([IntKind.wrap .u64 a0.f0, IntKind.wrap .u64 a0.f1, IntKind.wrap .u64 a0.f2, IntKind.wrap .u64 a0.f3, IntKind.wrap .u64 a0.f4, IntKind.wrap .u64 a0.f5] : List Int) A954 c955 A963 c964 t966 _ hR959 hR965 ht967) ?_; rintro e W968 ⟨rfl, HX969⟩
      refine ⟨_, rfl, ?_⟩; intro ax hax; exact HK _ _ _ hax rfl HX969.below
    · skip
      intro a wr hn hd HW hs; have ha := hasNil hn hd
      have ha := ha.add (seeF hs 27 20 (.tuple #[.string t966.1, .bool t966.2]) (by kernel_rfl) (by kernel_rfl))
      refine yStep ha 6 (by kernel_rfl) ?_; intro l_ ha HK
      refine stepp ha 6 (.tuple #[.string t966.1, .bool t966.2]) (by kernel_rfl) (by kernel_rfl) ?_; intro ax hax; exact HK _ _ _ hax rfl (Below.refl _ _)
    · skip
      intro a wr hn hd HW hs; have ha := hasNil hn hd
      have ha := ha.add (seeF hs 6 21 (.tuple #[.string t966.1, .bool t966.2]) (by kernel_rfl) (by kernel_rfl))
      refine yStep ha 28 (by kernel_rfl) ?_; intro l_ ha HK
      refine stepp ha 28 (.string t966.1) (by kernel_rfl) (by kernel_rfl) ?_; intro ax hax; exact HK _ _ _ hax rfl (Below.refl _ _)
    · skip
      intro a wr hn hd HW hs; have ha := hasNil hn hd
      have ha := ha.add (seeF hs 6 21 (.tuple #[.string t966.1, .bool t966.2]) (by kernel_rfl) (by kernel_rfl))
      refine yStep ha 29 (by kernel_rfl) ?_; intro l_ ha HK
      refine stepp ha 29 (.bool t966.2) (by kernel_rfl) (by kernel_rfl) ?_; intro ax hax; exact HK _ _ _ hax rfl (Below.refl _ _)
    · skip
      intro a wr hn hd HW hs; have ha := hasNil hn hd
      have ha := ha.add (seeF hs 28 22 (.string t966.1) (by kernel_rfl) (by kernel_rfl))
      refine yStep ha 4 (by kernel_rfl) ?_; intro l_ ha HK
      refine stepp ha 4 (.string t966.1) (by kernel_rfl) (by kernel_rfl) ?_; intro ax hax; exact HK _ _ _ hax rfl (Below.refl _ _)
  · skip
    intro a W970 ha HW he hf
    replace ha := ha.add (he 1 (.pointer (some ⟨b948, 0, none⟩)) (by kernel_rfl) (by kernel_rfl))
    replace ha := ha.add (gotF (m := 25) (j := 24) (d := 4) (v := .string t966.1) hf (by kernel_rfl) (by kernel_rfl) (by kernel_rfl))
    replace ha := ha.add (gotF (m := 25) (j := 23) (d := 29) (v := .bool t966.2) hf (by kernel_rfl) (by kernel_rfl) (by kernel_rfl))
    clear he hf
    refine stepp ha 5 (.bool t966.2) (by kernel_rfl) (by kernel_rfl) ?_; clear ha a; intro a ha
    refine endl ?_
    refine thenN (hK951 _ _ ?_); clear hK951
    refine wp_seq_k (fun K971 hK972 => ?_)
    refine wp_seq_k (fun K973 hK974 => ?_)
    refine wp_region_lit ?_
    refine stepp ha 30 (.bool t966.2) (by kernel_rfl) (by kernel_rfl) ?_; clear ha a; intro a ha
    refine stepp ha 31 (.bool (!t966.2)) (by kernel_rfl) (by kernel_rfl) ?_; clear ha a; intro a ha
    refine endl ?_
    refine thenN (hK974 _ _ ?_); clear hK974
    by_cases hp975 : t966.2 = true
    · skip
      replace h := ite_pos' h hp975
      refine condF ha (by kernel_rfl) (by kernel_rfl) (t := (!t966.2)) (not_f (hp975)) ?_
      refine wp_skip ?_
      refine thenN (hK972 _ _ ?_); clear hK972
      refine wp_seq_k (fun K978 hK979 => ?_)
      refine wp_region_lit ?_
      refine stepp ha 33 (.string t966.1) (by kernel_rfl) (by kernel_rfl) ?_; clear ha a; intro a ha
      refine stepp ha 34 (.pointer (some ⟨b948, 5, none⟩)) (by kernel_rfl) (by kernel_rfl) ?_; clear ha a; intro a ha
      refine stepl ha 35 (HW.ca (i := 0) (b := b948) (C := #[.int .u32 a0.f0, .int .u32 a0.f1, .int .i64 a0.f2, .int .i64 a0.f3, .int .i64 a0.f4, .int .i64 a0.f5]) (T := 27) (fr := (0, 0)) (by kernel_rfl)) 3 5 (.tmp 34) (.int .i64 a0.f5) rfl (by kernel_rfl) (by kernel_rfl) (by kernel_rfl) ?_; clear ha a; intro a ha
      refine stepp ha 36 (.int .i64 (IntKind.wrap .i64 (2 * a0.f5))) (by kernel_rfl) (by kernel_rfl) ?_; clear ha a; intro a ha
      refine stepp ha 37 (.int .u64 (IntKind.wrap .u64 (IntKind.wrap .i64 (2 * a0.f5)))) (by kernel_rfl) (by kernel_rfl) ?_; clear ha a; intro a ha
      obtain ⟨t980, ht981, h_⟩ := bind_some' h; clear h; have h := h_; clear h_
      refine stepc ha 38 (by kernel_rfl) (by kernel_rfl) (fields_PutLittle.calls K (IntKind.wrap .u64 (IntKind.wrap .i64 (2 * a0.f5))) 2 t980 _ ht981) ?_; clear ha a; rintro e W982 ⟨rfl, HX983⟩
      refine ⟨_, rfl, ?_⟩; intro a ha; replace HW := HW.callw HX983; clear HX983
      obtain ⟨t984, ht985, h_⟩ := bind_some' h; clear h; have h := h_; clear h_
      refine stepc ha 39 (by kernel_rfl) (by kernel_rfl) (fields_Set.calls t966.1 14 t980 t984 _ ht985) ?_; clear ha a; rintro e W986 ⟨rfl, HX987⟩
      refine ⟨_, rfl, ?_⟩; intro a ha; replace HW := HW.callw HX987; clear HX987
      refine stepp ha 32 (.tuple #[.string t984.1, .bool t984.2]) (by kernel_rfl) (by kernel_rfl) ?_; clear ha a; intro a ha
      refine stepp ha 40 (.string t984.1) (by kernel_rfl) (by kernel_rfl) ?_; clear ha a; intro a ha
      refine stepp ha 41 (.bool t984.2) (by kernel_rfl) (by kernel_rfl) ?_; clear ha a; intro a ha
      refine stepp ha 4 (.string t984.1) (by kernel_rfl) (by kernel_rfl) ?_; clear ha a; intro a ha
      refine endl ?_
      refine thenN (hK979 _ _ ?_); clear hK979
      refine wp_seq_k (fun K988 hK989 => ?_)
      refine wp_region_lit ?_
      refine stepp ha 42 (.string t984.1) (by kernel_rfl) (by kernel_rfl) ?_; clear ha a; intro a ha
      refine stepp ha 2 (.string t984.1) (by kernel_rfl) (by kernel_rfl) ?_; clear ha a; intro a ha
      refine stepp ha 3 (.int .i64 0) (by kernel_rfl) (by kernel_rfl) ?_; clear ha a; intro a ha
      refine endl ?_
      refine thenN (hK989 _ _ ?_); clear hK989
      refine wp_ret ?_
      obtain rfl := Option.some.inj h
      exact finv ha _ _ rfl (.tmp (v := .string t984.1) (by kernel_rfl) (.tmp (v := .int .i64 0) (by kernel_rfl) .nil)) (.tuple #[.string t984.1, .int .i64 0]) rfl ⟨rfl, HW.pick [] [] (by decide) (by decide) rfl (by kernel_rfl)⟩
    · skip
      replace h := ite_neg' h hp975
      refine condT ha (by kernel_rfl) (by kernel_rfl) (t := (!t966.2)) (not_t (bool_f hp975)) ?_
      refine wp_seq_k (fun K976 hK977 => ?_)
      refine wp_region_lit ?_
      refine stepp ha 2 (.string (⟨#[]⟩ : ByteArray)) (by kernel_rfl) (by kernel_rfl) ?_; clear ha a; intro a ha
      refine stepp ha 3 (.int .i64 250) (by kernel_rfl) (by kernel_rfl) ?_; clear ha a; intro a ha
      refine endl ?_
      refine thenN (hK977 _ _ ?_); clear hK977
      refine wp_ret ?_
      refine thenR ?_
      obtain rfl := Option.some.inj h
      exact finv ha _ _ rfl (.tmp (v := .string (⟨#[]⟩ : ByteArray)) (by kernel_rfl) (.tmp (v := .int .i64 250) (by kernel_rfl) .nil)) (.tuple #[.string (⟨#[]⟩ : ByteArray), .int .i64 250]) rfl ⟨rfl, HW.pick [] [] (by decide) (by decide) rfl (by kernel_rfl)⟩
end Go.Proofs.YtceagilmillgfaaDoor.F
