/- headgate/headgateref25.Put: a plain function, and that the call comes to what it says. No condition. -/
import Derived.Test.YtceagilmillgfaaDoorFT
import Derived.Test.YtceagilmillgfaaDoorF45
import Derived.Test.YtceagilmillgfaaDoorF46
namespace Go.Proofs.YtceagilmillgfaaDoor.F
open Go Go.RowKit Go.Proofs.YtceagilmillgfaaDoor.X
set_option linter.unusedVariables false
set_option linter.unusedSimpArgs false
/-! ### headgate/headgateref25.Put: function 14 -/
def headgateref25_Put.b0 (K : Nat) (a0 : T_api_Sqe) (again925 : ByteArray → Int → Option (ByteArray × Int)) (x926 : ByteArray) (x927 : Int) : Option (ByteArray × Int) :=
  if x927 < 6 then (asrt (0 ≤ x927) ((headgateref01_PutLittle.f K (IntKind.wrap .u64 (rdL (0 : Int) ([a0.f5.f0, a0.f5.f1, a0.f5.f2, a0.f5.f3, a0.f5.f4, a0.f5.f5] : List Int) x927)) 4).bind fun t939 => (asrt (x926.size + t939.size ≤ 9223372036854775807) (again925 (x926 ++ t939) (IntKind.wrap .i64 (x927 + 1)))))) else (some (x926, 0))
def headgateref25_Put.l0 (K : Nat) (a0 : T_api_Sqe) : Nat → ByteArray → Int → Option (ByteArray × Int)
  | 0, _, _ => none
  | k_ + 1, x926, x927 => headgateref25_Put.b0 K a0 (headgateref25_Put.l0 K a0 k_) x926 x927
def headgateref25_Put.j0 (K : Nat) (a0 : T_api_Sqe) (t855 : ByteArray) (t860 : ByteArray) (t872 : ByteArray) (x885 : Int) : Option (ByteArray × Int) :=
  asrt ((((((strOfNums ([IntKind.wrap .u8 a0.f0, IntKind.wrap .u8 (IntKind.wrap .i64 (64 + a0.f1))] : List Int)) ++ t855) ++ t860) ++ (strOfNums (List.replicate (24 : Int).toNat (0 : Int)))) ++ t872).size + (strOfNums ([0, 0, 0, x885] : List Int)).size ≤ 9223372036854775807) (headgateref25_Put.l0 K a0 K ((((((strOfNums ([IntKind.wrap .u8 a0.f0, IntKind.wrap .u8 (IntKind.wrap .i64 (64 + a0.f1))] : List Int)) ++ t855) ++ t860) ++ (strOfNums (List.replicate (24 : Int).toNat (0 : Int)))) ++ t872) ++ (strOfNums ([0, 0, 0, x885] : List Int))) 0)
def headgateref25_Put.f (K : Nat) (a0 : T_api_Sqe) (a1 : Bool) : Option (ByteArray × Int) :=
  (headgateref25_in.f a0.f0 255).bind fun t819 => (if t819 = true then ((headgateref25_in.f a0.f1 2).bind fun t824 => (if t824 = true then ((headgateref25_in.f a0.f2 65535).bind fun t829 => (if t829 = true then ((headgateref25_in.f a0.f4 4294967295).bind fun t834 => (if t834 = true then ((headgateref01_PutLittle.f K (IntKind.wrap .u64 a0.f2) 2).bind fun t855 => (asrt ((strOfNums ([IntKind.wrap .u8 a0.f0, IntKind.wrap .u8 (IntKind.wrap .i64 (64 + a0.f1))] : List Int)).size + t855.size ≤ 9223372036854775807) ((headgateref01_PutLittle.f K (IntKind.wrap .u64 a0.f3) 4).bind fun t860 => (asrt (((strOfNums ([IntKind.wrap .u8 a0.f0, IntKind.wrap .u8 (IntKind.wrap .i64 (64 + a0.f1))] : List Int)) ++ t855).size + t860.size ≤ 9223372036854775807) (asrt ((((strOfNums ([IntKind.wrap .u8 a0.f0, IntKind.wrap .u8 (IntKind.wrap .i64 (64 + a0.f1))] : List Int)) ++ t855) ++ t860).size + (strOfNums (List.replicate (24 : Int).toNat (0 : Int))).size ≤ 9223372036854775807) ((headgateref01_PutLittle.f K (IntKind.wrap .u64 a0.f4) 4).bind fun t872 => (asrt (((((strOfNums ([IntKind.wrap .u8 a0.f0, IntKind.wrap .u8 (IntKind.wrap .i64 (64 + a0.f1))] : List Int)) ++ t855) ++ t860) ++ (strOfNums (List.replicate (24 : Int).toNat (0 : Int)))).size + t872.size ≤ 9223372036854775807) (if a1 = true then (headgateref25_Put.j0 K a0 t855 t860 t872 1) else (headgateref25_Put.j0 K a0 t855 t860 t872 90))))))))) else (some ((⟨#[]⟩ : ByteArray), 250)))) else (some ((⟨#[]⟩ : ByteArray), 250)))) else (some ((⟨#[]⟩ : ByteArray), 250)))) else (some ((⟨#[]⟩ : ByteArray), 250)))
set_option maxRecDepth 100000 in
set_option maxHeartbeats 4000000 in
theorem headgateref25_Put.calls (K : Nat) (a0 : T_api_Sqe) (a1 : Bool)  (r : ByteArray × Int) (w : World)  (h : headgateref25_Put.f K a0 a1 = some r) :
    Calls Tryd.prog 14 #[.agg #[.int .i64 a0.f0, .int .i64 a0.f1, .int .i64 a0.f2, .int .u32 a0.f3, .int .i64 a0.f4, .int .u32 a0.f5.f0, .int .u32 a0.f5.f1, .int .u32 a0.f5.f2, .int .u32 a0.f5.f3, .int .u32 a0.f5.f4, .int .u32 a0.f5.f5], .bool a1] w (fun e W' => e = .returned (.tuple #[.string r.1, .int .i64 r.2]) ∧ Wd w W' [] [] ) := by
  refine sxstart (n := 77) (l := [(0, .agg #[.int .i64 a0.f0, .int .i64 a0.f1, .int .i64 a0.f2, .int .u32 a0.f3, .int .i64 a0.f4, .int .u32 a0.f5.f0, .int .u32 a0.f5.f1, .int .u32 a0.f5.f2, .int .u32 a0.f5.f3, .int .u32 a0.f5.f4, .int .u32 a0.f5.f5]), (1, .bool a1)]) Tryd.func14 rfl rfl (Nat.le_of_ble_eq_true (by kernel_rfl)) (subsA_cons rfl (subsA_cons rfl (subsA_nil _))) ?_
  intro a ha
  have HW := Wd.refl w
  unfold headgateref25_Put.f at h
  refine wp_seq_k (fun K811 hK812 => ?_)
  refine wp_region_lit ?_
  refine stepnew ha HW 2 #[.int .i64 a0.f0, .int .i64 a0.f1, .int .i64 a0.f2, .int .u32 a0.f3, .int .i64 a0.f4, .int .u32 a0.f5.f0, .int .u32 a0.f5.f1, .int .u32 a0.f5.f2, .int .u32 a0.f5.f3, .int .u32 a0.f5.f4, .int .u32 a0.f5.f5] 25 (by kernel_rfl) (by kernel_rfl) ?_; clear ha HW a; intro b813 a W814 HW ha
  refine stepp ha 4 (.string (⟨#[]⟩ : ByteArray)) (by kernel_rfl) (by kernel_rfl) ?_; clear ha a; intro a ha
  refine stepp ha 5 (.int .i64 0) (by kernel_rfl) (by kernel_rfl) ?_; clear ha a; intro a ha
  refine endl ?_
  refine thenN (hK812 _ _ ?_); clear hK812
  refine wp_seq_k (fun K815 hK816 => ?_)
  refine wp_seq_k (fun K817 hK818 => ?_)
  refine wp_region_lit ?_
  refine stepp ha 9 (.pointer (some ⟨b813, 0, none⟩)) (by kernel_rfl) (by kernel_rfl) ?_; clear ha a; intro a ha
  refine stepl ha 10 (HW.ca (i := 0) (b := b813) (C := #[.int .i64 a0.f0, .int .i64 a0.f1, .int .i64 a0.f2, .int .u32 a0.f3, .int .i64 a0.f4, .int .u32 a0.f5.f0, .int .u32 a0.f5.f1, .int .u32 a0.f5.f2, .int .u32 a0.f5.f3, .int .u32 a0.f5.f4, .int .u32 a0.f5.f5]) (T := 25) (fr := (0, 0)) (by kernel_rfl)) 3 0 (.tmp 9) (.int .i64 a0.f0) rfl (by kernel_rfl) (by kernel_rfl) (by kernel_rfl) ?_; clear ha a; intro a ha
  obtain ⟨t819, ht820, h_⟩ := bind_some' h; clear h; have h := h_; clear h_
  refine stepc ha 11 (by kernel_rfl) (by kernel_rfl) (headgateref25_in.calls a0.f0 255 t819 _ ht820) ?_; clear ha a; rintro e W821 ⟨rfl, HX822⟩
  refine ⟨_, rfl, ?_⟩; intro a ha; replace HW := HW.callw HX822; clear HX822
  refine stepp ha 12 (.bool (!t819)) (by kernel_rfl) (by kernel_rfl) ?_; clear ha a; intro a ha
  refine stepp ha 13 (.bool (!t819)) (by kernel_rfl) (by kernel_rfl) ?_; clear ha a; intro a ha
  by_cases hp823 : t819 = true
  · skip
    replace h := ite_pos' h hp823
    replace ha := ha.bool 13 (by kernel_rfl) (not_f (hp823))
    refine stepp ha 14 (.pointer (some ⟨b813, 1, none⟩)) (by kernel_rfl) (by kernel_rfl) ?_; clear ha a; intro a ha
    refine stepl ha 15 (HW.ca (i := 0) (b := b813) (C := #[.int .i64 a0.f0, .int .i64 a0.f1, .int .i64 a0.f2, .int .u32 a0.f3, .int .i64 a0.f4, .int .u32 a0.f5.f0, .int .u32 a0.f5.f1, .int .u32 a0.f5.f2, .int .u32 a0.f5.f3, .int .u32 a0.f5.f4, .int .u32 a0.f5.f5]) (T := 25) (fr := (0, 0)) (by kernel_rfl)) 3 1 (.tmp 14) (.int .i64 a0.f1) rfl (by kernel_rfl) (by kernel_rfl) (by kernel_rfl) ?_; clear ha a; intro a ha
    obtain ⟨t824, ht825, h_⟩ := bind_some' h; clear h; have h := h_; clear h_
    refine stepc ha 16 (by kernel_rfl) (by kernel_rfl) (headgateref25_in.calls a0.f1 2 t824 _ ht825) ?_; clear ha a; rintro e W826 ⟨rfl, HX827⟩
    refine ⟨_, rfl, ?_⟩; intro a ha; replace HW := HW.callw HX827; clear HX827
    refine stepp ha 17 (.bool (!t824)) (by kernel_rfl) (by kernel_rfl) ?_; clear ha a; intro a ha
    refine stepp ha 18 (.bool (!t824)) (by kernel_rfl) (by kernel_rfl) ?_; clear ha a; intro a ha
    refine stepp ha 19 (.bool (!t824)) (by kernel_rfl) (by kernel_rfl) ?_; clear ha a; intro a ha
    by_cases hp828 : t824 = true
    · skip
      replace h := ite_pos' h hp828
      replace ha := ha.bool 19 (by kernel_rfl) (not_f (hp828))
      refine stepp ha 20 (.pointer (some ⟨b813, 2, none⟩)) (by kernel_rfl) (by kernel_rfl) ?_; clear ha a; intro a ha
      refine stepl ha 21 (HW.ca (i := 0) (b := b813) (C := #[.int .i64 a0.f0, .int .i64 a0.f1, .int .i64 a0.f2, .int .u32 a0.f3, .int .i64 a0.f4, .int .u32 a0.f5.f0, .int .u32 a0.f5.f1, .int .u32 a0.f5.f2, .int .u32 a0.f5.f3, .int .u32 a0.f5.f4, .int .u32 a0.f5.f5]) (T := 25) (fr := (0, 0)) (by kernel_rfl)) 3 2 (.tmp 20) (.int .i64 a0.f2) rfl (by kernel_rfl) (by kernel_rfl) (by kernel_rfl) ?_; clear ha a; intro a ha
      obtain ⟨t829, ht830, h_⟩ := bind_some' h; clear h; have h := h_; clear h_
      refine stepc ha 22 (by kernel_rfl) (by kernel_rfl) (headgateref25_in.calls a0.f2 65535 t829 _ ht830) ?_; clear ha a; rintro e W831 ⟨rfl, HX832⟩
      refine ⟨_, rfl, ?_⟩; intro a ha; replace HW := HW.callw HX832; clear HX832
      refine stepp ha 23 (.bool (!t829)) (by kernel_rfl) (by kernel_rfl) ?_; clear ha a; intro a ha
      refine stepp ha 24 (.bool (!t829)) (by kernel_rfl) (by kernel_rfl) ?_; clear ha a; intro a ha
      refine stepp ha 25 (.bool (!t829)) (by kernel_rfl) (by kernel_rfl) ?_; clear ha a; intro a ha
      by_cases hp833 : t829 = true
      · skip
        replace h := ite_pos' h hp833
        replace ha := ha.bool 25 (by kernel_rfl) (not_f (hp833))
        refine stepp ha 26 (.pointer (some ⟨b813, 4, none⟩)) (by kernel_rfl) (by kernel_rfl) ?_; clear ha a; intro a ha
        refine stepl ha 27 (HW.ca (i := 0) (b := b813) (C := #[.int .i64 a0.f0, .int .i64 a0.f1, .int .i64 a0.f2, .int .u32 a0.f3, .int .i64 a0.f4, .int .u32 a0.f5.f0, .int .u32 a0.f5.f1, .int .u32 a0.f5.f2, .int .u32 a0.f5.f3, .int .u32 a0.f5.f4, .int .u32 a0.f5.f5]) (T := 25) (fr := (0, 0)) (by kernel_rfl)) 3 4 (.tmp 26) (.int .i64 a0.f4) rfl (by kernel_rfl) (by kernel_rfl) (by kernel_rfl) ?_; clear ha a; intro a ha
        obtain ⟨t834, ht835, h_⟩ := bind_some' h; clear h; have h := h_; clear h_
        refine stepc ha 28 (by kernel_rfl) (by kernel_rfl) (headgateref25_in.calls a0.f4 4294967295 t834 _ ht835) ?_; clear ha a; rintro e W836 ⟨rfl, HX837⟩
        refine ⟨_, rfl, ?_⟩; intro a ha; replace HW := HW.callw HX837; clear HX837
        refine stepp ha 29 (.bool (!t834)) (by kernel_rfl) (by kernel_rfl) ?_; clear ha a; intro a ha
        refine stepp ha 30 (.bool (!t834)) (by kernel_rfl) (by kernel_rfl) ?_; clear ha a; intro a ha
        refine endl ?_
        refine thenN (hK818 _ _ ?_); clear hK818
        by_cases hp838 : t834 = true
        · skip
          replace h := ite_pos' h hp838
          refine condF ha (by kernel_rfl) (by kernel_rfl) (t := (!t834)) (not_f (hp838)) ?_
          refine wp_skip ?_
          refine thenN (hK816 _ _ ?_); clear hK816
          refine wp_seq_k (fun K847 hK848 => ?_)
          obtain ⟨t855, ht856, h_⟩ := bind_some' h; clear h; have h := h_; clear h_
          obtain ⟨hA859, h_⟩ := asrt_some h; clear h; have h := h_; clear h_
          obtain ⟨t860, ht861, h_⟩ := bind_some' h; clear h; have h := h_; clear h_
          obtain ⟨hA864, h_⟩ := asrt_some h; clear h; have h := h_; clear h_
          obtain ⟨hA871, h_⟩ := asrt_some h; clear h; have h := h_; clear h_
          obtain ⟨t872, ht873, h_⟩ := bind_some' h; clear h; have h := h_; clear h_
          obtain ⟨hA876, h_⟩ := asrt_some h; clear h; have h := h_; clear h_
          refine regionG 27 (by kernel_rfl) (by kernel_rfl) ha HW [.fix (.pointer (some ⟨b813, 0, none⟩)), .fix (.int .i64 a0.f0), .fix (.int .u8 (IntKind.wrap .u8 a0.f0)), .fix (.pointer (some ⟨b813, 1, none⟩)), .fix (.int .i64 a0.f1), .fix (.int .i64 (IntKind.wrap .i64 (64 + a0.f1))), .fix (.int .u8 (IntKind.wrap .u8 (IntKind.wrap .i64 (64 + a0.f1)))), .rd 1 ([IntKind.wrap .u8 a0.f0, IntKind.wrap .u8 (IntKind.wrap .i64 (64 + a0.f1))] : List Int).length (encs (encI .u8) ([IntKind.wrap .u8 a0.f0, IntKind.wrap .u8 (IntKind.wrap .i64 (64 + a0.f1))] : List Int)), .fix (.string (strOfNums ([IntKind.wrap .u8 a0.f0, IntKind.wrap .u8 (IntKind.wrap .i64 (64 + a0.f1))] : List Int))), .fix (.pointer (some ⟨b813, 2, none⟩)), .fix (.int .i64 a0.f2), .fix (.int .u64 (IntKind.wrap .u64 a0.f2)), .fix (.string t855), .fix (.string ((strOfNums ([IntKind.wrap .u8 a0.f0, IntKind.wrap .u8 (IntKind.wrap .i64 (64 + a0.f1))] : List Int)) ++ t855)), .fix (.pointer (some ⟨b813, 3, none⟩)), .fix (.int .u32 a0.f3), .fix (.int .u64 (IntKind.wrap .u64 a0.f3)), .fix (.string t860), .fix (.string (((strOfNums ([IntKind.wrap .u8 a0.f0, IntKind.wrap .u8 (IntKind.wrap .i64 (64 + a0.f1))] : List Int)) ++ t855) ++ t860)), .rd 1 (List.replicate (24 : Int).toNat (0 : Int)).length (encs (encI .u8) (List.replicate (24 : Int).toNat (0 : Int))), .fix (.string (strOfNums (List.replicate (24 : Int).toNat (0 : Int)))), .fix (.string ((((strOfNums ([IntKind.wrap .u8 a0.f0, IntKind.wrap .u8 (IntKind.wrap .i64 (64 + a0.f1))] : List Int)) ++ t855) ++ t860) ++ (strOfNums (List.replicate (24 : Int).toNat (0 : Int))))), .fix (.pointer (some ⟨b813, 4, none⟩)), .fix (.int .i64 a0.f4), .fix (.int .u64 (IntKind.wrap .u64 a0.f4)), .fix (.string t872), .fix (.string (((((strOfNums ([IntKind.wrap .u8 a0.f0, IntKind.wrap .u8 (IntKind.wrap .i64 (64 + a0.f1))] : List Int)) ++ t855) ++ t860) ++ (strOfNums (List.replicate (24 : Int).toNat (0 : Int)))) ++ t872))] ?_ ?_
          · skip
            refine ⟨?_, ?_, ?_, ?_, ?_, ?_, ?_, ?_, ?_, ?_, ?_, ?_, ?_, ?_, ?_, ?_, ?_, ?_, ?_, ?_, ?_, ?_, ?_, ?_, ?_, ?_, ?_, trivial⟩
            · skip
              intro a wr hn hd HW hs; have ha := hasNil hn hd
              have ha := ha.add (seeE hs 2 (.pointer (some ⟨b813, 0, none⟩)) (by kernel_rfl) (by kernel_rfl))
              refine yStep ha 31 (by kernel_rfl) ?_; intro l_ ha HK
              refine stepp ha 31 (.pointer (some ⟨b813, 0, none⟩)) (by kernel_rfl) (by kernel_rfl) ?_; intro ax hax; exact HK _ _ _ hax rfl (Below.refl _ _)
            · skip
              intro a wr hn hd HW hs; have ha := hasNil hn hd
              have ha := ha.add (seeF hs 31 0 (.pointer (some ⟨b813, 0, none⟩)) (by kernel_rfl) (by kernel_rfl))
              refine yStep ha 32 (by kernel_rfl) ?_; intro l_ ha HK
              refine stepl ha 32 (HW.ca (i := 0) (b := b813) (C := #[.int .i64 a0.f0, .int .i64 a0.f1, .int .i64 a0.f2, .int .u32 a0.f3, .int .i64 a0.f4, .int .u32 a0.f5.f0, .int .u32 a0.f5.f1, .int .u32 a0.f5.f2, .int .u32 a0.f5.f3, .int .u32 a0.f5.f4, .int .u32 a0.f5.f5]) (T := 25) (fr := (0, 0)) (by kernel_rfl)) 3 0 (.tmp 31) (.int .i64 a0.f0) rfl (by kernel_rfl) (by kernel_rfl) (by kernel_rfl) ?_; intro ax hax; exact HK _ _ _ hax rfl (Below.refl _ _)
            · skip
              intro a wr hn hd HW hs; have ha := hasNil hn hd
              have ha := ha.add (seeF hs 32 1 (.int .i64 a0.f0) (by kernel_rfl) (by kernel_rfl))
              refine yStep ha 33 (by kernel_rfl) ?_; intro l_ ha HK
              refine stepp ha 33 (.int .u8 (IntKind.wrap .u8 a0.f0)) (by kernel_rfl) (by kernel_rfl) ?_; intro ax hax; exact HK _ _ _ hax rfl (Below.refl _ _)
            · skip
              intro a wr hn hd HW hs; have ha := hasNil hn hd
              have ha := ha.add (seeE hs 2 (.pointer (some ⟨b813, 0, none⟩)) (by kernel_rfl) (by kernel_rfl))
              refine yStep ha 34 (by kernel_rfl) ?_; intro l_ ha HK
              refine stepp ha 34 (.pointer (some ⟨b813, 1, none⟩)) (by kernel_rfl) (by kernel_rfl) ?_; intro ax hax; exact HK _ _ _ hax rfl (Below.refl _ _)
            · skip
              intro a wr hn hd HW hs; have ha := hasNil hn hd
              have ha := ha.add (seeF hs 34 3 (.pointer (some ⟨b813, 1, none⟩)) (by kernel_rfl) (by kernel_rfl))
              refine yStep ha 35 (by kernel_rfl) ?_; intro l_ ha HK
              refine stepl ha 35 (HW.ca (i := 0) (b := b813) (C := #[.int .i64 a0.f0, .int .i64 a0.f1, .int .i64 a0.f2, .int .u32 a0.f3, .int .i64 a0.f4, .int .u32 a0.f5.f0, .int .u32 a0.f5.f1, .int .u32 a0.f5.f2, .int .u32 a0.f5.f3, .int .u32 a0.f5.f4, .int .u32 a0.f5.f5]) (T := 25) (fr := (0, 0)) (by kernel_rfl)) 3 1 (.tmp 34) (.int .i64 a0.f1) rfl (by kernel_rfl) (by kernel_rfl) (by kernel_rfl) ?_; intro ax hax; exact HK _ _ _ hax rfl (Below.refl _ _)
            · skip
              intro a wr hn hd HW hs; have ha := hasNil hn hd
              have ha := ha.add (seeF hs 35 4 (.int .i64 a0.f1) (by kernel_rfl) (by kernel_rfl))
              refine yStep ha 36 (by kernel_rfl) ?_; intro l_ ha HK
              refine stepp ha 36 (.int .i64 (IntKind.wrap .i64 (64 + a0.f1))) (by kernel_rfl) (by kernel_rfl) ?_; intro ax hax; exact HK _ _ _ hax rfl (Below.refl _ _)
            · skip
              intro a wr hn hd HW hs; have ha := hasNil hn hd
              have ha := ha.add (seeF hs 36 5 (.int .i64 (IntKind.wrap .i64 (64 + a0.f1))) (by kernel_rfl) (by kernel_rfl))
              refine yStep ha 37 (by kernel_rfl) ?_; intro l_ ha HK
              refine stepp ha 37 (.int .u8 (IntKind.wrap .u8 (IntKind.wrap .i64 (64 + a0.f1)))) (by kernel_rfl) (by kernel_rfl) ?_; intro ax hax; exact HK _ _ _ hax rfl (Below.refl _ _)
            · skip
              intro a wr hn hd HW hs; have ha := hasNil hn hd
              have ha := ha.add (seeF hs 33 2 (.int .u8 (IntKind.wrap .u8 a0.f0)) (by kernel_rfl) (by kernel_rfl))
              have ha := ha.add (seeF hs 37 6 (.int .u8 (IntKind.wrap .u8 (IntKind.wrap .i64 (64 + a0.f1)))) (by kernel_rfl) (by kernel_rfl))
              refine yStep ha 38 (by kernel_rfl) ?_; intro l_ ha HK
              refine stepbs ha (Wd.refl wr) 38 5 1 2 #[.int .u8 (IntKind.wrap .u8 a0.f0), .int .u8 (IntKind.wrap .u8 (IntKind.wrap .i64 (64 + a0.f1)))] [.int .u8 (IntKind.wrap .u8 a0.f0), .int .u8 (IntKind.wrap .u8 (IntKind.wrap .i64 (64 + a0.f1)))] (by decide) (by kernel_rfl) (by kernel_rfl) (by kernel_rfl) (by kernel_rfl) ?_; intro b849 ax W850 HV hax
              exact HK _ _ _ hax (show Rd 1 _ _ ([IntKind.wrap .u8 a0.f0, IntKind.wrap .u8 (IntKind.wrap .i64 (64 + a0.f1))] : List Int).length (encs (encI .u8) ([IntKind.wrap .u8 a0.f0, IntKind.wrap .u8 (IntKind.wrap .i64 (64 + a0.f1))] : List Int)) from HV.rdo (i := 0) (q := ⟨5, 1, .slice (some ⟨b849, 0, none⟩) 2 2, 2, [.int .u8 (IntKind.wrap .u8 a0.f0), .int .u8 (IntKind.wrap .u8 (IntKind.wrap .i64 (64 + a0.f1)))]⟩) (by kernel_rfl)) HV.below
            · skip
              intro a wr hn hd HW hs; have ha := hasNil hn hd
              obtain ⟨A852, c853, he_, hR854⟩ := seeR hs 38 7 1 ([IntKind.wrap .u8 a0.f0, IntKind.wrap .u8 (IntKind.wrap .i64 (64 + a0.f1))] : List Int).length (encs (encI .u8) ([IntKind.wrap .u8 a0.f0, IntKind.wrap .u8 (IntKind.wrap .i64 (64 + a0.f1))] : List Int)) (by kernel_rfl) (by kernel_rfl); have ha := ha.add he_
              refine yStep ha 39 (by kernel_rfl) ?_; intro l_ ha HK
              refine stepbt ha 39 80 9 5 (.tmp 38) (v := .slice A852 ([IntKind.wrap .u8 a0.f0, IntKind.wrap .u8 (IntKind.wrap .i64 (64 + a0.f1))] : List Int).length c853) (xs := ([IntKind.wrap .u8 a0.f0, IntKind.wrap .u8 (IntKind.wrap .i64 (64 + a0.f1))] : List Int)) hR854 rfl (by kernel_rfl) (by kernel_rfl) (by kernel_rfl) (by kernel_rfl) (by kernel_rfl) ?_; intro ax hax; exact HK _ _ _ hax rfl (Below.refl _ _)
            · skip
              intro a wr hn hd HW hs; have ha := hasNil hn hd
              have ha := ha.add (seeE hs 2 (.pointer (some ⟨b813, 0, none⟩)) (by kernel_rfl) (by kernel_rfl))
              refine yStep ha 40 (by kernel_rfl) ?_; intro l_ ha HK
              refine stepp ha 40 (.pointer (some ⟨b813, 2, none⟩)) (by kernel_rfl) (by kernel_rfl) ?_; intro ax hax; exact HK _ _ _ hax rfl (Below.refl _ _)
            · skip
              intro a wr hn hd HW hs; have ha := hasNil hn hd
              have ha := ha.add (seeF hs 40 9 (.pointer (some ⟨b813, 2, none⟩)) (by kernel_rfl) (by kernel_rfl))
              refine yStep ha 41 (by kernel_rfl) ?_; intro l_ ha HK
              refine stepl ha 41 (HW.ca (i := 0) (b := b813) (C := #[.int .i64 a0.f0, .int .i64 a0.f1, .int .i64 a0.f2, .int .u32 a0.f3, .int .i64 a0.f4, .int .u32 a0.f5.f0, .int .u32 a0.f5.f1, .int .u32 a0.f5.f2, .int .u32 a0.f5.f3, .int .u32 a0.f5.f4, .int .u32 a0.f5.f5]) (T := 25) (fr := (0, 0)) (by kernel_rfl)) 3 2 (.tmp 40) (.int .i64 a0.f2) rfl (by kernel_rfl) (by kernel_rfl) (by kernel_rfl) ?_; intro ax hax; exact HK _ _ _ hax rfl (Below.refl _ _)
            · skip
              intro a wr hn hd HW hs; have ha := hasNil hn hd
              have ha := ha.add (seeF hs 41 10 (.int .i64 a0.f2) (by kernel_rfl) (by kernel_rfl))
              refine yStep ha 42 (by kernel_rfl) ?_; intro l_ ha HK
              refine stepp ha 42 (.int .u64 (IntKind.wrap .u64 a0.f2)) (by kernel_rfl) (by kernel_rfl) ?_; intro ax hax; exact HK _ _ _ hax rfl (Below.refl _ _)
            · skip
              intro a wr hn hd HW hs; have ha := hasNil hn hd
              have ha := ha.add (seeF hs 42 11 (.int .u64 (IntKind.wrap .u64 a0.f2)) (by kernel_rfl) (by kernel_rfl))
              refine yStep ha 43 (by kernel_rfl) ?_; intro l_ ha HK
              refine stepc ha 43 (by kernel_rfl) (by kernel_rfl) (headgateref01_PutLittle.calls K (IntKind.wrap .u64 a0.f2) 2 t855 _ ht856) ?_; rintro e W857 ⟨rfl, HX858⟩
              refine ⟨_, rfl, ?_⟩; intro ax hax; exact HK _ _ _ hax rfl HX858.below
            · skip
              intro a wr hn hd HW hs; have ha := hasNil hn hd
              have ha := ha.add (seeF hs 39 8 (.string (strOfNums ([IntKind.wrap .u8 a0.f0, IntKind.wrap .u8 (IntKind.wrap .i64 (64 + a0.f1))] : List Int))) (by kernel_rfl) (by kernel_rfl))
              have ha := ha.add (seeF hs 43 12 (.string t855) (by kernel_rfl) (by kernel_rfl))
              refine yStep ha 44 (by kernel_rfl) ?_; intro l_ ha HK
              refine stepsa ha 44 9 9 (.tmp 39) (.tmp 43) (strOfNums ([IntKind.wrap .u8 a0.f0, IntKind.wrap .u8 (IntKind.wrap .i64 (64 + a0.f1))] : List Int)) t855 rfl (by kernel_rfl) (by kernel_rfl) (show (strOfNums ([IntKind.wrap .u8 a0.f0, IntKind.wrap .u8 (IntKind.wrap .i64 (64 + a0.f1))] : List Int)).size + (t855).size ≤ 9223372036854775807 from hA859) (by kernel_rfl) ?_; intro ax hax; exact HK _ _ _ hax rfl (Below.refl _ _)
            · skip
              intro a wr hn hd HW hs; have ha := hasNil hn hd
              have ha := ha.add (seeE hs 2 (.pointer (some ⟨b813, 0, none⟩)) (by kernel_rfl) (by kernel_rfl))
              refine yStep ha 45 (by kernel_rfl) ?_; intro l_ ha HK
              refine stepp ha 45 (.pointer (some ⟨b813, 3, none⟩)) (by kernel_rfl) (by kernel_rfl) ?_; intro ax hax; exact HK _ _ _ hax rfl (Below.refl _ _)
            · skip
              intro a wr hn hd HW hs; have ha := hasNil hn hd
              have ha := ha.add (seeF hs 45 14 (.pointer (some ⟨b813, 3, none⟩)) (by kernel_rfl) (by kernel_rfl))
              refine yStep ha 46 (by kernel_rfl) ?_; intro l_ ha HK
              refine stepl ha 46 (HW.ca (i := 0) (b := b813) (C := #[.int .i64 a0.f0, .int .i64 a0.f1, .int .i64 a0.f2, .int .u32 a0.f3, .int .i64 a0.f4, .int .u32 a0.f5.f0, .int .u32 a0.f5.f1, .int .u32 a0.f5.f2, .int .u32 a0.f5.f3, .int .u32 a0.f5.f4, .int .u32 a0.f5.f5]) (T := 25) (fr := (0, 0)) (by kernel_rfl)) 22 3 (.tmp 45) (.int .u32 a0.f3) rfl (by kernel_rfl) (by kernel_rfl) (by kernel_rfl) ?_; intro ax hax; exact HK _ _ _ hax rfl (Below.refl _ _)
            · skip
              intro a wr hn hd HW hs; have ha := hasNil hn hd
              have ha := ha.add (seeF hs 46 15 (.int .u32 a0.f3) (by kernel_rfl) (by kernel_rfl))
              refine yStep ha 47 (by kernel_rfl) ?_; intro l_ ha HK
              refine stepp ha 47 (.int .u64 (IntKind.wrap .u64 a0.f3)) (by kernel_rfl) (by kernel_rfl) ?_; intro ax hax; exact HK _ _ _ hax rfl (Below.refl _ _)
            · skip
              intro a wr hn hd HW hs; have ha := hasNil hn hd
              have ha := ha.add (seeF hs 47 16 (.int .u64 (IntKind.wrap .u64 a0.f3)) (by kernel_rfl) (by kernel_rfl))
              refine yStep ha 48 (by kernel_rfl) ?_; intro l_ ha HK
              refine stepc ha 48 (by kernel_rfl) (by kernel_rfl) (headgateref01_PutLittle.calls K (IntKind.wrap .u64 a0.f3) 4 t860 _ ht861) ?_; rintro e W862 ⟨rfl, HX863⟩
              refine ⟨_, rfl, ?_⟩; intro ax hax; exact HK _ _ _ hax rfl HX863.below
            · skip
              intro a wr hn hd HW hs; have ha := hasNil hn hd
              have ha := ha.add (seeF hs 44 13 (.string ((strOfNums ([IntKind.wrap .u8 a0.f0, IntKind.wrap .u8 (IntKind.wrap .i64 (64 + a0.f1))] : List Int)) ++ t855)) (by kernel_rfl) (by kernel_rfl))
              have ha := ha.add (seeF hs 48 17 (.string t860) (by kernel_rfl) (by kernel_rfl))
              refine yStep ha 49 (by kernel_rfl) ?_; intro l_ ha HK
              refine stepsa ha 49 9 9 (.tmp 44) (.tmp 48) ((strOfNums ([IntKind.wrap .u8 a0.f0, IntKind.wrap .u8 (IntKind.wrap .i64 (64 + a0.f1))] : List Int)) ++ t855) t860 rfl (by kernel_rfl) (by kernel_rfl) (show ((strOfNums ([IntKind.wrap .u8 a0.f0, IntKind.wrap .u8 (IntKind.wrap .i64 (64 + a0.f1))] : List Int)) ++ t855).size + (t860).size ≤ 9223372036854775807 from hA864) (by kernel_rfl) ?_; intro ax hax; exact HK _ _ _ hax rfl (Below.refl _ _)
            · skip
              intro a wr hn hd HW hs; have ha := hasNil hn hd
              refine yStep ha 50 (by kernel_rfl) ?_; intro l_ ha HK
              refine stepmk (encI .u8) (0 : Int) ha (Wd.refl wr) 50 80 5 (.const (.int .i64 24)) (.const (.int .i64 24)) .i64 .i64 24 (.int .u8 0) 1 rfl (by kernel_rfl) (by kernel_rfl) (by kernel_rfl) (by kernel_rfl) rfl rfl (by decide) (by have := (show (24 : Int) ≤ 281474976710656 by decide); omega) (by have := (show (24 : Int) ≤ 281474976710656 by decide); omega) (by kernel_rfl) ?_; intro b865 ax W866 HV hax
              exact HK _ _ _ hax (show Rd 1 _ _ (List.replicate (24 : Int).toNat (0 : Int)).length (encs (encI .u8) (List.replicate (24 : Int).toNat (0 : Int))) from HV.rdo (i := 0) (q := ⟨5, 1, .slice (some ⟨b865, 0, none⟩) (List.replicate (24 : Int).toNat (0 : Int)).length ((24 : Int).toNat), (List.replicate (24 : Int).toNat (0 : Int)).length, encs (encI .u8) (List.replicate (24 : Int).toNat (0 : Int))⟩) (by kernel_rfl)) HV.below
            · skip
              intro a wr hn hd HW hs; have ha := hasNil hn hd
              obtain ⟨A868, c869, he_, hR870⟩ := seeR hs 50 19 1 (List.replicate (24 : Int).toNat (0 : Int)).length (encs (encI .u8) (List.replicate (24 : Int).toNat (0 : Int))) (by kernel_rfl) (by kernel_rfl); have ha := ha.add he_
              refine yStep ha 51 (by kernel_rfl) ?_; intro l_ ha HK
              refine stepbt ha 51 80 9 5 (.tmp 50) (v := .slice A868 (List.replicate (24 : Int).toNat (0 : Int)).length c869) (xs := List.replicate (24 : Int).toNat (0 : Int)) hR870 rfl (by kernel_rfl) (by kernel_rfl) (by kernel_rfl) (by kernel_rfl) (by kernel_rfl) ?_; intro ax hax; exact HK _ _ _ hax rfl (Below.refl _ _)
            · skip
              intro a wr hn hd HW hs; have ha := hasNil hn hd
              have ha := ha.add (seeF hs 49 18 (.string (((strOfNums ([IntKind.wrap .u8 a0.f0, IntKind.wrap .u8 (IntKind.wrap .i64 (64 + a0.f1))] : List Int)) ++ t855) ++ t860)) (by kernel_rfl) (by kernel_rfl))
              have ha := ha.add (seeF hs 51 20 (.string (strOfNums (List.replicate (24 : Int).toNat (0 : Int)))) (by kernel_rfl) (by kernel_rfl))
              refine yStep ha 52 (by kernel_rfl) ?_; intro l_ ha HK
              refine stepsa ha 52 9 9 (.tmp 49) (.tmp 51) (((strOfNums ([IntKind.wrap .u8 a0.f0, IntKind.wrap .u8 (IntKind.wrap .i64 (64 + a0.f1))] : List Int)) ++ t855) ++ t860) (strOfNums (List.replicate (24 : Int).toNat (0 : Int))) rfl (by kernel_rfl) (by kernel_rfl) (show (((strOfNums ([IntKind.wrap .u8 a0.f0, IntKind.wrap .u8 (IntKind.wrap .i64 (64 + a0.f1))] : List Int)) ++ t855) ++ t860).size + (strOfNums (List.replicate (24 : Int).toNat (0 : Int))).size ≤ 9223372036854775807 from hA871) (by kernel_rfl) ?_; intro ax hax; exact HK _ _ _ hax rfl (Below.refl _ _)
            · skip
              intro a wr hn hd HW hs; have ha := hasNil hn hd
              have ha := ha.add (seeE hs 2 (.pointer (some ⟨b813, 0, none⟩)) (by kernel_rfl) (by kernel_rfl))
              refine yStep ha 53 (by kernel_rfl) ?_; intro l_ ha HK
              refine stepp ha 53 (.pointer (some ⟨b813, 4, none⟩)) (by kernel_rfl) (by kernel_rfl) ?_; intro ax hax; exact HK _ _ _ hax rfl (Below.refl _ _)
            · skip
              intro a wr hn hd HW hs; have ha := hasNil hn hd
              have ha := ha.add (seeF hs 53 22 (.pointer (some ⟨b813, 4, none⟩)) (by kernel_rfl) (by kernel_rfl))
              refine yStep ha 54 (by kernel_rfl) ?_; intro l_ ha HK
              refine stepl ha 54 (HW.ca (i := 0) (b := b813) (C := #[.int .i64 a0.f0, .int .i64 a0.f1, .int .i64 a0.f2, .int .u32 a0.f3, .int .i64 a0.f4, .int .u32 a0.f5.f0, .int .u32 a0.f5.f1, .int .u32 a0.f5.f2, .int .u32 a0.f5.f3, .int .u32 a0.f5.f4, .int .u32 a0.f5.f5]) (T := 25) (fr := (0, 0)) (by kernel_rfl)) 3 4 (.tmp 53) (.int .i64 a0.f4) rfl (by kernel_rfl) (by kernel_rfl) (by kernel_rfl) ?_; intro ax hax; exact HK _ _ _ hax rfl (Below.refl _ _)
            · skip
              intro a wr hn hd HW hs; have ha := hasNil hn hd
              have ha := ha.add (seeF hs 54 23 (.int .i64 a0.f4) (by kernel_rfl) (by kernel_rfl))
              refine yStep ha 55 (by kernel_rfl) ?_; intro l_ ha HK
              refine stepp ha 55 (.int .u64 (IntKind.wrap .u64 a0.f4)) (by kernel_rfl) (by kernel_rfl) ?_; intro ax hax; exact HK _ _ _ hax rfl (Below.refl _ _)
            · skip
              intro a wr hn hd HW hs; have ha := hasNil hn hd
              have ha := ha.add (seeF hs 55 24 (.int .u64 (IntKind.wrap .u64 a0.f4)) (by kernel_rfl) (by kernel_rfl))
              refine yStep ha 56 (by kernel_rfl) ?_; intro l_ ha HK
              refine stepc ha 56 (by kernel_rfl) (by kernel_rfl) (headgateref01_PutLittle.calls K (IntKind.wrap .u64 a0.f4) 4 t872 _ ht873) ?_; rintro e W874 ⟨rfl, HX875⟩
              refine ⟨_, rfl, ?_⟩; intro ax hax; exact HK _ _ _ hax rfl HX875.below
            · skip
              intro a wr hn hd HW hs; have ha := hasNil hn hd
              have ha := ha.add (seeF hs 52 21 (.string ((((strOfNums ([IntKind.wrap .u8 a0.f0, IntKind.wrap .u8 (IntKind.wrap .i64 (64 + a0.f1))] : List Int)) ++ t855) ++ t860) ++ (strOfNums (List.replicate (24 : Int).toNat (0 : Int))))) (by kernel_rfl) (by kernel_rfl))
              have ha := ha.add (seeF hs 56 25 (.string t872) (by kernel_rfl) (by kernel_rfl))
              refine yStep ha 57 (by kernel_rfl) ?_; intro l_ ha HK
              refine stepsa ha 57 9 9 (.tmp 52) (.tmp 56) ((((strOfNums ([IntKind.wrap .u8 a0.f0, IntKind.wrap .u8 (IntKind.wrap .i64 (64 + a0.f1))] : List Int)) ++ t855) ++ t860) ++ (strOfNums (List.replicate (24 : Int).toNat (0 : Int)))) t872 rfl (by kernel_rfl) (by kernel_rfl) (show ((((strOfNums ([IntKind.wrap .u8 a0.f0, IntKind.wrap .u8 (IntKind.wrap .i64 (64 + a0.f1))] : List Int)) ++ t855) ++ t860) ++ (strOfNums (List.replicate (24 : Int).toNat (0 : Int)))).size + (t872).size ≤ 9223372036854775807 from hA876) (by kernel_rfl) ?_; intro ax hax; exact HK _ _ _ hax rfl (Below.refl _ _)
          · skip
            intro a W877 ha HW he hf
            replace ha := ha.add (he 1 (.bool a1) (by kernel_rfl) (by kernel_rfl))
            replace ha := ha.add (he 2 (.pointer (some ⟨b813, 0, none⟩)) (by kernel_rfl) (by kernel_rfl))
            replace ha := ha.add (gotF (m := 27) (j := 26) (d := 57) (v := .string (((((strOfNums ([IntKind.wrap .u8 a0.f0, IntKind.wrap .u8 (IntKind.wrap .i64 (64 + a0.f1))] : List Int)) ++ t855) ++ t860) ++ (strOfNums (List.replicate (24 : Int).toNat (0 : Int)))) ++ t872)) hf (by kernel_rfl) (by kernel_rfl) (by kernel_rfl))
            clear he hf
            refine stepp ha 6 (.string (((((strOfNums ([IntKind.wrap .u8 a0.f0, IntKind.wrap .u8 (IntKind.wrap .i64 (64 + a0.f1))] : List Int)) ++ t855) ++ t860) ++ (strOfNums (List.replicate (24 : Int).toNat (0 : Int)))) ++ t872)) (by kernel_rfl) (by kernel_rfl) ?_; clear ha a; intro a ha
            refine endl ?_
            refine thenN (hK848 _ _ ?_); clear hK848
            refine wp_seq_k (fun K878 hK879 => ?_)
            refine wp_region_lit ?_
            refine stepp ha 7 (.int .u8 90) (by kernel_rfl) (by kernel_rfl) ?_; clear ha a; intro a ha
            refine endl ?_
            refine thenN (hK879 _ _ ?_); clear hK879
            refine wp_seq_k (fun K880 hK881 => ?_)
            refine cutn (fun a W886 => ∃ (x885 : Int), headgateref25_Put.j0 K a0 t855 t860 t872 x885 = some r ∧ Has 77 [(2, .pointer (some ⟨b813, 0, none⟩)), (6, .string (((((strOfNums ([IntKind.wrap .u8 a0.f0, IntKind.wrap .u8 (IntKind.wrap .i64 (64 + a0.f1))] : List Int)) ++ t855) ++ t860) ++ (strOfNums (List.replicate (24 : Int).toNat (0 : Int)))) ++ t872)), (7, .int .u8 x885)] a ∧ Wd w W886 [(b813, .cells #[.int .i64 a0.f0, .int .i64 a0.f1, .int .i64 a0.f2, .int .u32 a0.f3, .int .i64 a0.f4, .int .u32 a0.f5.f0, .int .u32 a0.f5.f1, .int .u32 a0.f5.f2, .int .u32 a0.f5.f3, .int .u32 a0.f5.f4, .int .u32 a0.f5.f5] 25 (0, 0))] []) ?_ ?_
            · skip
              refine wp_seq_k (fun K882 hK883 => ?_)
              refine wp_region_lit ?_
              refine stepp ha 58 (.bool a1) (by kernel_rfl) (by kernel_rfl) ?_; clear ha a; intro a ha
              refine endl ?_
              refine thenN (hK883 _ _ ?_); clear hK883
              by_cases hp884 : a1 = true
              · skip
                replace h := ite_pos' h hp884
                refine condT ha (by kernel_rfl) (by kernel_rfl) (t := a1) (hp884) ?_
                refine wp_region_lit ?_
                refine stepp ha 7 (.int .u8 1) (by kernel_rfl) (by kernel_rfl) ?_; clear ha a; intro a ha
                refine endl ?_
                exact thenN ⟨1, h, ha.sub (subs_cons (by kernel_rfl) (subs_cons (by kernel_rfl) (subs_cons (by kernel_rfl) (subs_nil _)))), HW.pick [0] [] (by decide) (by decide) (by kernel_rfl) (by kernel_rfl)⟩
              · skip
                replace h := ite_neg' h hp884
                refine condF ha (by kernel_rfl) (by kernel_rfl) (t := a1) (bool_f hp884) ?_
                refine wp_skip ?_
                exact thenN ⟨90, h, ha.sub (subs_cons (by kernel_rfl) (subs_cons (by kernel_rfl) (subs_cons (by kernel_rfl) (subs_nil _)))), HW.pick [0] [] (by decide) (by decide) (by kernel_rfl) (by kernel_rfl)⟩
            · skip
              intro a W886 hJ
              obtain ⟨x885, h, ha, HW⟩ := hJ
              replace h : headgateref25_Put.j0 K a0 t855 t860 t872 x885 = some r := h
              unfold headgateref25_Put.j0 at h
              refine hK881 _ _ ?_; clear hK881
              refine wp_seq_k (fun K887 hK888 => ?_)
              refine wp_region_lit ?_
              refine stepp ha 59 (.string (((((strOfNums ([IntKind.wrap .u8 a0.f0, IntKind.wrap .u8 (IntKind.wrap .i64 (64 + a0.f1))] : List Int)) ++ t855) ++ t860) ++ (strOfNums (List.replicate (24 : Int).toNat (0 : Int)))) ++ t872)) (by kernel_rfl) (by kernel_rfl) ?_; clear ha a; intro a ha
              refine stepp ha 60 (.int .u8 x885) (by kernel_rfl) (by kernel_rfl) ?_; clear ha a; intro a ha
              refine stepbs ha HW 61 5 1 4 #[.int .u8 0, .int .u8 0, .int .u8 0, .int .u8 x885] [.int .u8 0, .int .u8 0, .int .u8 0, .int .u8 x885] (by decide) (by kernel_rfl) (by kernel_rfl) (by kernel_rfl) (by kernel_rfl) ?_; clear ha HW a; intro b889 a W890 HW ha
              replace HW : Wd w W890 [(b813, .cells #[.int .i64 a0.f0, .int .i64 a0.f1, .int .i64 a0.f2, .int .u32 a0.f3, .int .i64 a0.f4, .int .u32 a0.f5.f0, .int .u32 a0.f5.f1, .int .u32 a0.f5.f2, .int .u32 a0.f5.f3, .int .u32 a0.f5.f4, .int .u32 a0.f5.f5] 25 (0, 0))] [⟨5, 1, .slice (some ⟨b889, 0, none⟩) ([0, 0, 0, x885] : List Int).length 4, ([0, 0, 0, x885] : List Int).length, encs (encI .u8) ([0, 0, 0, x885] : List Int)⟩] := HW
              replace ha := ha.turn 61 (v := .slice (some ⟨b889, 0, none⟩) ([0, 0, 0, x885] : List Int).length 4) (by kernel_rfl) rfl
              refine stepbt ha 62 80 9 5 (.tmp 61) (v := .slice (some ⟨b889, 0, none⟩) ([0, 0, 0, x885] : List Int).length 4) (xs := ([0, 0, 0, x885] : List Int)) (HW.rdo (i := 0) (q := ⟨5, 1, .slice (some ⟨b889, 0, none⟩) ([0, 0, 0, x885] : List Int).length 4, ([0, 0, 0, x885] : List Int).length, encs (encI .u8) ([0, 0, 0, x885] : List Int)⟩) (by kernel_rfl)) rfl (by kernel_rfl) (by kernel_rfl) (by kernel_rfl) (by kernel_rfl) (by kernel_rfl) ?_; clear ha a; intro a ha
              obtain ⟨hA892, h_⟩ := asrt_some h; clear h; have h := h_; clear h_
              refine stepsa ha 63 9 9 (.tmp 59) (.tmp 62) (((((strOfNums ([IntKind.wrap .u8 a0.f0, IntKind.wrap .u8 (IntKind.wrap .i64 (64 + a0.f1))] : List Int)) ++ t855) ++ t860) ++ (strOfNums (List.replicate (24 : Int).toNat (0 : Int)))) ++ t872) (strOfNums ([0, 0, 0, x885] : List Int)) rfl (by kernel_rfl) (by kernel_rfl) (show (((((strOfNums ([IntKind.wrap .u8 a0.f0, IntKind.wrap .u8 (IntKind.wrap .i64 (64 + a0.f1))] : List Int)) ++ t855) ++ t860) ++ (strOfNums (List.replicate (24 : Int).toNat (0 : Int)))) ++ t872).size + (strOfNums ([0, 0, 0, x885] : List Int)).size ≤ 9223372036854775807 from hA892) (by kernel_rfl) ?_; clear ha a; intro a ha
              refine stepp ha 6 (.string ((((((strOfNums ([IntKind.wrap .u8 a0.f0, IntKind.wrap .u8 (IntKind.wrap .i64 (64 + a0.f1))] : List Int)) ++ t855) ++ t860) ++ (strOfNums (List.replicate (24 : Int).toNat (0 : Int)))) ++ t872) ++ (strOfNums ([0, 0, 0, x885] : List Int)))) (by kernel_rfl) (by kernel_rfl) ?_; clear ha a; intro a ha
              refine endl ?_
              refine thenN (hK888 _ _ ?_); clear hK888
              refine wp_seq_k (fun K893 hK894 => ?_)
              refine wp_seq_k (fun K895 hK896 => ?_)
              refine wp_region_lit ?_
              refine stepp ha 8 (.int .i64 0) (by kernel_rfl) (by kernel_rfl) ?_; clear ha a; intro a ha
              refine endl ?_
              refine thenN (hK896 _ _ ?_); clear hK896
              refine wp_block ?_
              refine loopk (fun k => fun a W928 => ∃ (x926 : ByteArray), ∃ (x927 : Int), headgateref25_Put.l0 K a0 k x926 x927 = some r ∧ Has 77 [(2, .pointer (some ⟨b813, 0, none⟩)), (6, .string x926), (8, .int .i64 x927)] a ∧ Wd w W928 [(b813, .cells #[.int .i64 a0.f0, .int .i64 a0.f1, .int .i64 a0.f2, .int .u32 a0.f3, .int .i64 a0.f4, .int .u32 a0.f5.f0, .int .u32 a0.f5.f1, .int .u32 a0.f5.f2, .int .u32 a0.f5.f3, .int .u32 a0.f5.f4, .int .u32 a0.f5.f5] 25 (0, 0))] []) K ?_ ?_
              · skip
                exact ⟨(((((strOfNums ([IntKind.wrap .u8 a0.f0, IntKind.wrap .u8 (IntKind.wrap .i64 (64 + a0.f1))] : List Int)) ++ t855) ++ t860) ++ (strOfNums (List.replicate (24 : Int).toNat (0 : Int)))) ++ t872) ++ (strOfNums ([0, 0, 0, x885] : List Int)), 0, h, ha.sub (subs_cons (by kernel_rfl) (subs_cons (by kernel_rfl) (subs_cons (by kernel_rfl) (subs_nil _)))), HW.pick [0] [] (by decide) (by decide) (by kernel_rfl) (by kernel_rfl)⟩
              · skip
                intro k a W928 hI
                obtain ⟨x926, x927, h, ha, HW⟩ := hI
                cases k with
                | zero => exact (none_some (show none = some r from h)).elim
                | succ k929 =>
                  replace h : headgateref25_Put.b0 K a0 (headgateref25_Put.l0 K a0 k929) x926 x927 = some r := h
                  obtain ⟨again925, hag930⟩ : ∃ g_, g_ = headgateref25_Put.l0 K a0 k929 := ⟨_, rfl⟩
                  rw [← hag930] at h
                  unfold headgateref25_Put.b0 at h
                  refine wp_seq_k (fun K931 hK932 => ?_)
                  refine wp_seq_k (fun K933 hK934 => ?_)
                  refine wp_region_lit ?_
                  refine stepp ha 64 (.int .i64 x927) (by kernel_rfl) (by kernel_rfl) ?_; clear ha a; intro a ha
                  refine stepp ha 65 (.bool (decide (x927 < 6))) (by kernel_rfl) (by kernel_rfl) ?_; clear ha a; intro a ha
                  refine endl ?_
                  refine thenN (hK934 _ _ ?_); clear hK934
                  by_cases hp935 : x927 < 6
                  · skip
                    replace h := ite_pos' h hp935
                    refine condT ha (by kernel_rfl) (by kernel_rfl) (t := decide (x927 < 6)) (decide_eq_true hp935) ?_
                    refine wp_skip ?_
                    refine thenN (hK932 _ _ ?_); clear hK932
                    refine wp_seq_k (fun K936 hK937 => ?_)
                    refine wp_block ?_
                    refine wp_region_lit ?_
                    refine stepp ha 68 (.string x926) (by kernel_rfl) (by kernel_rfl) ?_; clear ha a; intro a ha
                    refine stepp ha 69 (.int .i64 x927) (by kernel_rfl) (by kernel_rfl) ?_; clear ha a; intro a ha
                    refine stepp ha 70 (.pointer (some ⟨b813, 5, none⟩)) (by kernel_rfl) (by kernel_rfl) ?_; clear ha a; intro a ha
                    obtain ⟨hA938, h_⟩ := asrt_some h; clear h; have h := h_; clear h_
                    refine stepiw ha 71 (sz := 1) b813 5 23 6 22 (.tmp 70) (.tmp 69) .i64 x927 rfl (by kernel_rfl) (by kernel_rfl) (by kernel_rfl) (by kernel_rfl) hA938 hp935 (by kernel_rfl) ?_; clear ha a; intro a ha
                    refine stepl ha 72 (CA.el (encI .u32) (0 : Int) (fun _ => rfl) (CA.part (off := 5) (HW.ca (i := 0) (b := b813) (C := #[.int .i64 a0.f0, .int .i64 a0.f1, .int .i64 a0.f2, .int .u32 a0.f3, .int .i64 a0.f4, .int .u32 a0.f5.f0, .int .u32 a0.f5.f1, .int .u32 a0.f5.f2, .int .u32 a0.f5.f3, .int .u32 a0.f5.f4, .int .u32 a0.f5.f5]) (T := 25) (fr := (0, 0)) (by kernel_rfl)) [.int .u32 a0.f5.f0, .int .u32 a0.f5.f1, .int .u32 a0.f5.f2, .int .u32 a0.f5.f3, .int .u32 a0.f5.f4, .int .u32 a0.f5.f5] (by kernel_rfl)) ([a0.f5.f0, a0.f5.f1, a0.f5.f2, a0.f5.f3, a0.f5.f4, a0.f5.f5] : List Int) (by kernel_rfl) (len := 6) rfl hA938 hp935) 22 0 (.tmp 71) (.int .u32 (rdL (0 : Int) ([a0.f5.f0, a0.f5.f1, a0.f5.f2, a0.f5.f3, a0.f5.f4, a0.f5.f5] : List Int) x927)) rfl (by kernel_rfl) (by kernel_rfl) (by kernel_rfl) ?_; clear ha a; intro a ha
                    refine stepp ha 73 (.int .u64 (IntKind.wrap .u64 (rdL (0 : Int) ([a0.f5.f0, a0.f5.f1, a0.f5.f2, a0.f5.f3, a0.f5.f4, a0.f5.f5] : List Int) x927))) (by kernel_rfl) (by kernel_rfl) ?_; clear ha a; intro a ha
                    obtain ⟨t939, ht940, h_⟩ := bind_some' h; clear h; have h := h_; clear h_
                    refine stepc ha 74 (by kernel_rfl) (by kernel_rfl) (headgateref01_PutLittle.calls K (IntKind.wrap .u64 (rdL (0 : Int) ([a0.f5.f0, a0.f5.f1, a0.f5.f2, a0.f5.f3, a0.f5.f4, a0.f5.f5] : List Int) x927)) 4 t939 _ ht940) ?_; clear ha a; rintro e W941 ⟨rfl, HX942⟩
                    refine ⟨_, rfl, ?_⟩; intro a ha; replace HW := HW.callw HX942; clear HX942
                    obtain ⟨hA943, h_⟩ := asrt_some h; clear h; have h := h_; clear h_
                    refine stepsa ha 75 9 9 (.tmp 68) (.tmp 74) x926 t939 rfl (by kernel_rfl) (by kernel_rfl) (show (x926).size + (t939).size ≤ 9223372036854775807 from hA943) (by kernel_rfl) ?_; clear ha a; intro a ha
                    refine stepp ha 6 (.string (x926 ++ t939)) (by kernel_rfl) (by kernel_rfl) ?_; clear ha a; intro a ha
                    refine endl ?_
                    refine blkN ?_
                    refine thenN (hK937 _ _ ?_); clear hK937
                    refine wp_region_lit ?_
                    refine stepp ha 66 (.int .i64 x927) (by kernel_rfl) (by kernel_rfl) ?_; clear ha a; intro a ha
                    refine stepp ha 67 (.int .i64 (IntKind.wrap .i64 (x927 + 1))) (by kernel_rfl) (by kernel_rfl) ?_; clear ha a; intro a ha
                    refine stepp ha 8 (.int .i64 (IntKind.wrap .i64 (x927 + 1))) (by kernel_rfl) (by kernel_rfl) ?_; clear ha a; intro a ha
                    refine endl ?_
                    exact thenN ⟨k929, Nat.lt_succ_self k929, x926 ++ t939, IntKind.wrap .i64 (x927 + 1), (by rw [← hag930]; exact h), ha.sub (subs_cons (by kernel_rfl) (subs_cons (by kernel_rfl) (subs_cons (by kernel_rfl) (subs_nil _)))), HW.pick [0] [] (by decide) (by decide) (by kernel_rfl) (by kernel_rfl)⟩
                  · skip
                    replace h := ite_neg' h hp935
                    refine condF ha (by kernel_rfl) (by kernel_rfl) (t := decide (x927 < 6)) (decide_eq_false hp935) ?_
                    refine wp_exit ?_
                    refine thenE ?_
                    refine thenE ?_
                    refine inBlk ?_
                    refine thenN (hK894 _ _ ?_); clear hK894
                    refine wp_seq_k (fun K944 hK945 => ?_)
                    refine wp_region_lit ?_
                    refine stepp ha 76 (.string x926) (by kernel_rfl) (by kernel_rfl) ?_; clear ha a; intro a ha
                    refine stepp ha 4 (.string x926) (by kernel_rfl) (by kernel_rfl) ?_; clear ha a; intro a ha
                    refine stepp ha 5 (.int .i64 0) (by kernel_rfl) (by kernel_rfl) ?_; clear ha a; intro a ha
                    refine endl ?_
                    refine thenN (hK945 _ _ ?_); clear hK945
                    refine wp_ret ?_
                    obtain rfl := Option.some.inj h
                    exact finv ha _ _ rfl (.tmp (v := .string x926) (by kernel_rfl) (.tmp (v := .int .i64 0) (by kernel_rfl) .nil)) (.tuple #[.string x926, .int .i64 0]) rfl ⟨rfl, HW.pick [] [] (by decide) (by decide) rfl (by kernel_rfl)⟩
        · skip
          replace h := ite_neg' h hp838
          refine condT ha (by kernel_rfl) (by kernel_rfl) (t := (!t834)) (not_t (bool_f hp838)) ?_
          refine wp_seq_k (fun K839 hK840 => ?_)
          refine wp_region_lit ?_
          refine stepp ha 4 (.string (⟨#[]⟩ : ByteArray)) (by kernel_rfl) (by kernel_rfl) ?_; clear ha a; intro a ha
          refine stepp ha 5 (.int .i64 250) (by kernel_rfl) (by kernel_rfl) ?_; clear ha a; intro a ha
          refine endl ?_
          refine thenN (hK840 _ _ ?_); clear hK840
          refine wp_ret ?_
          refine thenR ?_
          obtain rfl := Option.some.inj h
          exact finv ha _ _ rfl (.tmp (v := .string (⟨#[]⟩ : ByteArray)) (by kernel_rfl) (.tmp (v := .int .i64 250) (by kernel_rfl) .nil)) (.tuple #[.string (⟨#[]⟩ : ByteArray), .int .i64 250]) rfl ⟨rfl, HW.pick [] [] (by decide) (by decide) rfl (by kernel_rfl)⟩
      · skip
        replace h := ite_neg' h hp833
        replace ha := ha.bool 25 (by kernel_rfl) (not_t (bool_f hp833))
        refine stepo ha 26 (by kernel_rfl) ?_; clear ha a; intro a ha
        refine stepo ha 27 (by kernel_rfl) ?_; clear ha a; intro a ha
        refine stepo ha 28 (by kernel_rfl) ?_; clear ha a; intro a ha
        refine stepo ha 29 (by kernel_rfl) ?_; clear ha a; intro a ha
        refine stepp ha 30 (.bool true) (by kernel_rfl) (by kernel_rfl) ?_; clear ha a; intro a ha
        refine endl ?_
        refine thenN (hK818 _ _ ?_); clear hK818
        refine condT ha (by kernel_rfl) (by kernel_rfl) (t := true) (rfl) ?_
        refine wp_seq_k (fun K841 hK842 => ?_)
        refine wp_region_lit ?_
        refine stepp ha 4 (.string (⟨#[]⟩ : ByteArray)) (by kernel_rfl) (by kernel_rfl) ?_; clear ha a; intro a ha
        refine stepp ha 5 (.int .i64 250) (by kernel_rfl) (by kernel_rfl) ?_; clear ha a; intro a ha
        refine endl ?_
        refine thenN (hK842 _ _ ?_); clear hK842
        refine wp_ret ?_
        refine thenR ?_
        obtain rfl := Option.some.inj h
        exact finv ha _ _ rfl (.tmp (v := .string (⟨#[]⟩ : ByteArray)) (by kernel_rfl) (.tmp (v := .int .i64 250) (by kernel_rfl) .nil)) (.tuple #[.string (⟨#[]⟩ : ByteArray), .int .i64 250]) rfl ⟨rfl, HW.pick [] [] (by decide) (by decide) rfl (by kernel_rfl)⟩
    · skip
      replace h := ite_neg' h hp828
      replace ha := ha.bool 19 (by kernel_rfl) (not_t (bool_f hp828))
      refine stepo ha 20 (by kernel_rfl) ?_; clear ha a; intro a ha
      refine stepo ha 21 (by kernel_rfl) ?_; clear ha a; intro a ha
      refine stepo ha 22 (by kernel_rfl) ?_; clear ha a; intro a ha
      refine stepo ha 23 (by kernel_rfl) ?_; clear ha a; intro a ha
      refine stepp ha 24 (.bool true) (by kernel_rfl) (by kernel_rfl) ?_; clear ha a; intro a ha
      refine stepp ha 25 (.bool true) (by kernel_rfl) (by kernel_rfl) ?_; clear ha a; intro a ha
      refine stepo ha 26 (by kernel_rfl) ?_; clear ha a; intro a ha
      refine stepo ha 27 (by kernel_rfl) ?_; clear ha a; intro a ha
      refine stepo ha 28 (by kernel_rfl) ?_; clear ha a; intro a ha
      refine stepo ha 29 (by kernel_rfl) ?_; clear ha a; intro a ha
      refine stepp ha 30 (.bool true) (by kernel_rfl) (by kernel_rfl) ?_; clear ha a; intro a ha
      refine endl ?_
      refine thenN (hK818 _ _ ?_); clear hK818
      refine condT ha (by kernel_rfl) (by kernel_rfl) (t := true) (rfl) ?_
      refine wp_seq_k (fun K843 hK844 => ?_)
      refine wp_region_lit ?_
      refine stepp ha 4 (.string (⟨#[]⟩ : ByteArray)) (by kernel_rfl) (by kernel_rfl) ?_; clear ha a; intro a ha
      refine stepp ha 5 (.int .i64 250) (by kernel_rfl) (by kernel_rfl) ?_; clear ha a; intro a ha
      refine endl ?_
      refine thenN (hK844 _ _ ?_); clear hK844
      refine wp_ret ?_
      refine thenR ?_
      obtain rfl := Option.some.inj h
      exact finv ha _ _ rfl (.tmp (v := .string (⟨#[]⟩ : ByteArray)) (by kernel_rfl) (.tmp (v := .int .i64 250) (by kernel_rfl) .nil)) (.tuple #[.string (⟨#[]⟩ : ByteArray), .int .i64 250]) rfl ⟨rfl, HW.pick [] [] (by decide) (by decide) rfl (by kernel_rfl)⟩
  · skip
    replace h := ite_neg' h hp823
    replace ha := ha.bool 13 (by kernel_rfl) (not_t (bool_f hp823))
    refine stepo ha 14 (by kernel_rfl) ?_; clear ha a; intro a ha
    refine stepo ha 15 (by kernel_rfl) ?_; clear ha a; intro a ha
    refine stepo ha 16 (by kernel_rfl) ?_; clear ha a; intro a ha
    refine stepo ha 17 (by kernel_rfl) ?_; clear ha a; intro a ha
    refine stepp ha 18 (.bool true) (by kernel_rfl) (by kernel_rfl) ?_; clear ha a; intro a ha
    refine stepp ha 19 (.bool true) (by kernel_rfl) (by kernel_rfl) ?_; clear ha a; intro a ha
    refine stepo ha 20 (by kernel_rfl) ?_; clear ha a; intro a ha
    refine stepo ha 21 (by kernel_rfl) ?_; clear ha a; intro a ha
    refine stepo ha 22 (by kernel_rfl) ?_; clear ha a; intro a ha
    refine stepo ha 23 (by kernel_rfl) ?_; clear ha a; intro a ha
    refine stepp ha 24 (.bool true) (by kernel_rfl) (by kernel_rfl) ?_; clear ha a; intro a ha
    refine stepp ha 25 (.bool true) (by kernel_rfl) (by kernel_rfl) ?_; clear ha a; intro a ha
    refine stepo ha 26 (by kernel_rfl) ?_; clear ha a; intro a ha
    refine stepo ha 27 (by kernel_rfl) ?_; clear ha a; intro a ha
    refine stepo ha 28 (by kernel_rfl) ?_; clear ha a; intro a ha
    refine stepo ha 29 (by kernel_rfl) ?_; clear ha a; intro a ha
    refine stepp ha 30 (.bool true) (by kernel_rfl) (by kernel_rfl) ?_; clear ha a; intro a ha
    refine endl ?_
    refine thenN (hK818 _ _ ?_); clear hK818
    refine condT ha (by kernel_rfl) (by kernel_rfl) (t := true) (rfl) ?_
    refine wp_seq_k (fun K845 hK846 => ?_)
    refine wp_region_lit ?_
    refine stepp ha 4 (.string (⟨#[]⟩ : ByteArray)) (by kernel_rfl) (by kernel_rfl) ?_; clear ha a; intro a ha
    refine stepp ha 5 (.int .i64 250) (by kernel_rfl) (by kernel_rfl) ?_; clear ha a; intro a ha
    refine endl ?_
    refine thenN (hK846 _ _ ?_); clear hK846
    refine wp_ret ?_
    refine thenR ?_
    obtain rfl := Option.some.inj h
    exact finv ha _ _ rfl (.tmp (v := .string (⟨#[]⟩ : ByteArray)) (by kernel_rfl) (.tmp (v := .int .i64 250) (by kernel_rfl) .nil)) (.tuple #[.string (⟨#[]⟩ : ByteArray), .int .i64 250]) rfl ⟨rfl, HW.pick [] [] (by decide) (by decide) rfl (by kernel_rfl)⟩
end Go.Proofs.YtceagilmillgfaaDoor.F
