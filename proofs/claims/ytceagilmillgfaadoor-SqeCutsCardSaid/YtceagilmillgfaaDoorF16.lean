/- headgate/headgateref25.End: a plain function, and that the call comes to what it says. No condition. -/
import Derived.Test.YtceagilmillgfaaDoorFT
import Derived.Test.YtceagilmillgfaaDoorF45
import Derived.Test.YtceagilmillgfaaDoorF46
namespace Go.Proofs.YtceagilmillgfaaDoor.F
open Go Go.RowKit Go.Proofs.YtceagilmillgfaaDoor.X
set_option linter.unusedVariables false
set_option linter.unusedSimpArgs false
/-! ### headgate/headgateref25.End: function 16 -/
def headgateref25_End.f (K : Nat) (a0 : T_api_Cqe) : Option (ByteArray × Int) :=
  (headgateref25_in.f a0.f2 65535).bind fun t998 => (if t998 = true then ((headgateref25_in.f a0.f3 65535).bind fun t1003 => (if t1003 = true then ((headgateref25_in.f a0.f4 65535).bind fun t1008 => (if t1008 = true then ((headgateref25_in.f a0.f5 32767).bind fun t1013 => (if t1013 = true then ((headgateref01_PutLittle.f K (IntKind.wrap .u64 a0.f0) 4).bind fun t1028 => ((headgateref01_PutLittle.f K (IntKind.wrap .u64 a0.f1) 4).bind fun t1032 => (asrt (t1028.size + t1032.size ≤ 9223372036854775807) ((headgateref01_PutLittle.f K (IntKind.wrap .u64 a0.f2) 2).bind fun t1037 => (asrt ((t1028 ++ t1032).size + t1037.size ≤ 9223372036854775807) ((headgateref01_PutLittle.f K (IntKind.wrap .u64 a0.f3) 2).bind fun t1042 => (asrt (((t1028 ++ t1032) ++ t1037).size + t1042.size ≤ 9223372036854775807) ((headgateref01_PutLittle.f K (IntKind.wrap .u64 a0.f4) 2).bind fun t1047 => (asrt ((((t1028 ++ t1032) ++ t1037) ++ t1042).size + t1047.size ≤ 9223372036854775807) ((headgateref01_PutLittle.f K (IntKind.wrap .u64 (IntKind.wrap .i64 (2 * a0.f5))) 2).bind fun t1052 => (asrt (((((t1028 ++ t1032) ++ t1037) ++ t1042) ++ t1047).size + t1052.size ≤ 9223372036854775807) (some (((((t1028 ++ t1032) ++ t1037) ++ t1042) ++ t1047) ++ t1052, 0))))))))))))) else (some ((⟨#[]⟩ : ByteArray), 250)))) else (some ((⟨#[]⟩ : ByteArray), 250)))) else (some ((⟨#[]⟩ : ByteArray), 250)))) else (some ((⟨#[]⟩ : ByteArray), 250)))
set_option maxRecDepth 100000 in
set_option maxHeartbeats 4000000 in
theorem headgateref25_End.calls (K : Nat) (a0 : T_api_Cqe)  (r : ByteArray × Int) (w : World)  (h : headgateref25_End.f K a0 = some r) :
    Calls Tryd.prog 16 #[.agg #[.int .u32 a0.f0, .int .u32 a0.f1, .int .i64 a0.f2, .int .i64 a0.f3, .int .i64 a0.f4, .int .i64 a0.f5]] w (fun e W' => e = .returned (.tuple #[.string r.1, .int .i64 r.2]) ∧ Wd w W' [] [] ) := by
  refine sxstart (n := 56) (l := [(0, .agg #[.int .u32 a0.f0, .int .u32 a0.f1, .int .i64 a0.f2, .int .i64 a0.f3, .int .i64 a0.f4, .int .i64 a0.f5])]) Tryd.func16 rfl rfl (Nat.le_of_ble_eq_true (by kernel_rfl)) (subsA_cons rfl (subsA_nil _)) ?_
  intro a ha
  have HW := Wd.refl w
  unfold headgateref25_End.f at h
  refine wp_seq_k (fun K990 hK991 => ?_)
  refine wp_region_lit ?_
  refine stepnew ha HW 1 #[.int .u32 a0.f0, .int .u32 a0.f1, .int .i64 a0.f2, .int .i64 a0.f3, .int .i64 a0.f4, .int .i64 a0.f5] 27 (by kernel_rfl) (by kernel_rfl) ?_; clear ha HW a; intro b992 a W993 HW ha
  refine stepp ha 2 (.string (⟨#[]⟩ : ByteArray)) (by kernel_rfl) (by kernel_rfl) ?_; clear ha a; intro a ha
  refine stepp ha 3 (.int .i64 0) (by kernel_rfl) (by kernel_rfl) ?_; clear ha a; intro a ha
  refine endl ?_
  refine thenN (hK991 _ _ ?_); clear hK991
  refine wp_seq_k (fun K994 hK995 => ?_)
  refine wp_seq_k (fun K996 hK997 => ?_)
  refine wp_region_lit ?_
  refine stepp ha 4 (.pointer (some ⟨b992, 2, none⟩)) (by kernel_rfl) (by kernel_rfl) ?_; clear ha a; intro a ha
  refine stepl ha 5 (HW.ca (i := 0) (b := b992) (C := #[.int .u32 a0.f0, .int .u32 a0.f1, .int .i64 a0.f2, .int .i64 a0.f3, .int .i64 a0.f4, .int .i64 a0.f5]) (T := 27) (fr := (0, 0)) (by kernel_rfl)) 3 2 (.tmp 4) (.int .i64 a0.f2) rfl (by kernel_rfl) (by kernel_rfl) (by kernel_rfl) ?_; clear ha a; intro a ha
  obtain ⟨t998, ht999, h_⟩ := bind_some' h; clear h; have h := h_; clear h_
  refine stepc ha 6 (by kernel_rfl) (by kernel_rfl) (headgateref25_in.calls a0.f2 65535 t998 _ ht999) ?_; clear ha a; rintro e W1000 ⟨rfl, HX1001⟩
  refine ⟨_, rfl, ?_⟩; intro a ha; replace HW := HW.callw HX1001; clear HX1001
  refine stepp ha 7 (.bool (!t998)) (by kernel_rfl) (by kernel_rfl) ?_; clear ha a; intro a ha
  refine stepp ha 8 (.bool (!t998)) (by kernel_rfl) (by kernel_rfl) ?_; clear ha a; intro a ha
  by_cases hp1002 : t998 = true
  · skip
    replace h := ite_pos' h hp1002
    replace ha := ha.bool 8 (by kernel_rfl) (not_f (hp1002))
    refine stepp ha 9 (.pointer (some ⟨b992, 3, none⟩)) (by kernel_rfl) (by kernel_rfl) ?_; clear ha a; intro a ha
    refine stepl ha 10 (HW.ca (i := 0) (b := b992) (C := #[.int .u32 a0.f0, .int .u32 a0.f1, .int .i64 a0.f2, .int .i64 a0.f3, .int .i64 a0.f4, .int .i64 a0.f5]) (T := 27) (fr := (0, 0)) (by kernel_rfl)) 3 3 (.tmp 9) (.int .i64 a0.f3) rfl (by kernel_rfl) (by kernel_rfl) (by kernel_rfl) ?_; clear ha a; intro a ha
    obtain ⟨t1003, ht1004, h_⟩ := bind_some' h; clear h; have h := h_; clear h_
    refine stepc ha 11 (by kernel_rfl) (by kernel_rfl) (headgateref25_in.calls a0.f3 65535 t1003 _ ht1004) ?_; clear ha a; rintro e W1005 ⟨rfl, HX1006⟩
    refine ⟨_, rfl, ?_⟩; intro a ha; replace HW := HW.callw HX1006; clear HX1006
    refine stepp ha 12 (.bool (!t1003)) (by kernel_rfl) (by kernel_rfl) ?_; clear ha a; intro a ha
    refine stepp ha 13 (.bool (!t1003)) (by kernel_rfl) (by kernel_rfl) ?_; clear ha a; intro a ha
    refine stepp ha 14 (.bool (!t1003)) (by kernel_rfl) (by kernel_rfl) ?_; clear ha a; intro a ha
    by_cases hp1007 : t1003 = true
    · skip
      replace h := ite_pos' h hp1007
      replace ha := ha.bool 14 (by kernel_rfl) (not_f (hp1007))
      refine stepp ha 15 (.pointer (some ⟨b992, 4, none⟩)) (by kernel_rfl) (by kernel_rfl) ?_; clear ha a; intro a ha
      refine stepl ha 16 (HW.ca (i := 0) (b := b992) (C := #[.int .u32 a0.f0, .int .u32 a0.f1, .int .i64 a0.f2, .int .i64 a0.f3, .int .i64 a0.f4, .int .i64 a0.f5]) (T := 27) (fr := (0, 0)) (by kernel_rfl)) 3 4 (.tmp 15) (.int .i64 a0.f4) rfl (by kernel_rfl) (by kernel_rfl) (by kernel_rfl) ?_; clear ha a; intro a ha
      obtain ⟨t1008, ht1009, h_⟩ := bind_some' h; clear h; have h := h_; clear h_
      refine stepc ha 17 (by kernel_rfl) (by kernel_rfl) (headgateref25_in.calls a0.f4 65535 t1008 _ ht1009) ?_; clear ha a; rintro e W1010 ⟨rfl, HX1011⟩
      refine ⟨_, rfl, ?_⟩; intro a ha; replace HW := HW.callw HX1011; clear HX1011
      refine stepp ha 18 (.bool (!t1008)) (by kernel_rfl) (by kernel_rfl) ?_; clear ha a; intro a ha
      refine stepp ha 19 (.bool (!t1008)) (by kernel_rfl) (by kernel_rfl) ?_; clear ha a; intro a ha
      refine stepp ha 20 (.bool (!t1008)) (by kernel_rfl) (by kernel_rfl) ?_; clear ha a; intro a ha
      by_cases hp1012 : t1008 = true
      · skip
        replace h := ite_pos' h hp1012
        replace ha := ha.bool 20 (by kernel_rfl) (not_f (hp1012))
        refine stepp ha 21 (.pointer (some ⟨b992, 5, none⟩)) (by kernel_rfl) (by kernel_rfl) ?_; clear ha a; intro a ha
        refine stepl ha 22 (HW.ca (i := 0) (b := b992) (C := #[.int .u32 a0.f0, .int .u32 a0.f1, .int .i64 a0.f2, .int .i64 a0.f3, .int .i64 a0.f4, .int .i64 a0.f5]) (T := 27) (fr := (0, 0)) (by kernel_rfl)) 3 5 (.tmp 21) (.int .i64 a0.f5) rfl (by kernel_rfl) (by kernel_rfl) (by kernel_rfl) ?_; clear ha a; intro a ha
        obtain ⟨t1013, ht1014, h_⟩ := bind_some' h; clear h; have h := h_; clear h_
        refine stepc ha 23 (by kernel_rfl) (by kernel_rfl) (headgateref25_in.calls a0.f5 32767 t1013 _ ht1014) ?_; clear ha a; rintro e W1015 ⟨rfl, HX1016⟩
        refine ⟨_, rfl, ?_⟩; intro a ha; replace HW := HW.callw HX1016; clear HX1016
        refine stepp ha 24 (.bool (!t1013)) (by kernel_rfl) (by kernel_rfl) ?_; clear ha a; intro a ha
        refine stepp ha 25 (.bool (!t1013)) (by kernel_rfl) (by kernel_rfl) ?_; clear ha a; intro a ha
        refine endl ?_
        refine thenN (hK997 _ _ ?_); clear hK997
        by_cases hp1017 : t1013 = true
        · skip
          replace h := ite_pos' h hp1017
          refine condF ha (by kernel_rfl) (by kernel_rfl) (t := (!t1013)) (not_f (hp1017)) ?_
          refine wp_skip ?_
          refine thenN (hK995 _ _ ?_); clear hK995
          refine wp_seq_k (fun K1026 hK1027 => ?_)
          obtain ⟨t1028, ht1029, h_⟩ := bind_some' h; clear h; have h := h_; clear h_
          obtain ⟨t1032, ht1033, h_⟩ := bind_some' h; clear h; have h := h_; clear h_
          obtain ⟨hA1036, h_⟩ := asrt_some h; clear h; have h := h_; clear h_
          obtain ⟨t1037, ht1038, h_⟩ := bind_some' h; clear h; have h := h_; clear h_
          obtain ⟨hA1041, h_⟩ := asrt_some h; clear h; have h := h_; clear h_
          obtain ⟨t1042, ht1043, h_⟩ := bind_some' h; clear h; have h := h_; clear h_
          obtain ⟨hA1046, h_⟩ := asrt_some h; clear h; have h := h_; clear h_
          obtain ⟨t1047, ht1048, h_⟩ := bind_some' h; clear h; have h := h_; clear h_
          obtain ⟨hA1051, h_⟩ := asrt_some h; clear h; have h := h_; clear h_
          obtain ⟨t1052, ht1053, h_⟩ := bind_some' h; clear h; have h := h_; clear h_
          obtain ⟨hA1056, h_⟩ := asrt_some h; clear h; have h := h_; clear h_
          refine regionG 30 (by kernel_rfl) (by kernel_rfl) ha HW [.fix (.pointer (some ⟨b992, 0, none⟩)), .fix (.int .u32 a0.f0), .fix (.int .u64 (IntKind.wrap .u64 a0.f0)), .fix (.string t1028), .fix (.pointer (some ⟨b992, 1, none⟩)), .fix (.int .u32 a0.f1), .fix (.int .u64 (IntKind.wrap .u64 a0.f1)), .fix (.string t1032), .fix (.string (t1028 ++ t1032)), .fix (.pointer (some ⟨b992, 2, none⟩)), .fix (.int .i64 a0.f2), .fix (.int .u64 (IntKind.wrap .u64 a0.f2)), .fix (.string t1037), .fix (.string ((t1028 ++ t1032) ++ t1037)), .fix (.pointer (some ⟨b992, 3, none⟩)), .fix (.int .i64 a0.f3), .fix (.int .u64 (IntKind.wrap .u64 a0.f3)), .fix (.string t1042), .fix (.string (((t1028 ++ t1032) ++ t1037) ++ t1042)), .fix (.pointer (some ⟨b992, 4, none⟩)), .fix (.int .i64 a0.f4), .fix (.int .u64 (IntKind.wrap .u64 a0.f4)), .fix (.string t1047), .fix (.string ((((t1028 ++ t1032) ++ t1037) ++ t1042) ++ t1047)), .fix (.pointer (some ⟨b992, 5, none⟩)), .fix (.int .i64 a0.f5), .fix (.int .i64 (IntKind.wrap .i64 (2 * a0.f5))), .fix (.int .u64 (IntKind.wrap .u64 (IntKind.wrap .i64 (2 * a0.f5)))), .fix (.string t1052), .fix (.string (((((t1028 ++ t1032) ++ t1037) ++ t1042) ++ t1047) ++ t1052))] ?_ ?_
          · skip
            refine ⟨?_, ?_, ?_, ?_, ?_, ?_, ?_, ?_, ?_, ?_, ?_, ?_, ?_, ?_, ?_, ?_, ?_, ?_, ?_, ?_, ?_, ?_, ?_, ?_, ?_, ?_, ?_, ?_, ?_, ?_, trivial⟩
            · skip
              intro a wr hn hd HW hs; have ha := hasNil hn hd
              have ha := ha.add (seeE hs 1 (.pointer (some ⟨b992, 0, none⟩)) (by kernel_rfl) (by kernel_rfl))
              refine yStep ha 26 (by kernel_rfl) ?_; intro l_ ha HK
              refine stepp ha 26 (.pointer (some ⟨b992, 0, none⟩)) (by kernel_rfl) (by kernel_rfl) ?_; intro ax hax; exact HK _ _ _ hax rfl (Below.refl _ _)
            · skip
              intro a wr hn hd HW hs; have ha := hasNil hn hd
              have ha := ha.add (seeF hs 26 0 (.pointer (some ⟨b992, 0, none⟩)) (by kernel_rfl) (by kernel_rfl))
              refine yStep ha 27 (by kernel_rfl) ?_; intro l_ ha HK
              refine stepl ha 27 (HW.ca (i := 0) (b := b992) (C := #[.int .u32 a0.f0, .int .u32 a0.f1, .int .i64 a0.f2, .int .i64 a0.f3, .int .i64 a0.f4, .int .i64 a0.f5]) (T := 27) (fr := (0, 0)) (by kernel_rfl)) 22 0 (.tmp 26) (.int .u32 a0.f0) rfl (by kernel_rfl) (by kernel_rfl) (by kernel_rfl) ?_; intro ax hax; exact HK _ _ _ hax rfl (Below.refl _ _)
            · skip
              intro a wr hn hd HW hs; have ha := hasNil hn hd
              have ha := ha.add (seeF hs 27 1 (.int .u32 a0.f0) (by kernel_rfl) (by kernel_rfl))
              refine yStep ha 28 (by kernel_rfl) ?_; intro l_ ha HK
              refine stepp ha 28 (.int .u64 (IntKind.wrap .u64 a0.f0)) (by kernel_rfl) (by kernel_rfl) ?_; intro ax hax; exact HK _ _ _ hax rfl (Below.refl _ _)
            · skip
              intro a wr hn hd HW hs; have ha := hasNil hn hd
              have ha := ha.add (seeF hs 28 2 (.int .u64 (IntKind.wrap .u64 a0.f0)) (by kernel_rfl) (by kernel_rfl))
              refine yStep ha 29 (by kernel_rfl) ?_; intro l_ ha HK
              refine stepc ha 29 (by kernel_rfl) (by kernel_rfl) (headgateref01_PutLittle.calls K (IntKind.wrap .u64 a0.f0) 4 t1028 _ ht1029) ?_; rintro e W1030 ⟨rfl, HX1031⟩
              refine ⟨_, rfl, ?_⟩; intro ax hax; exact HK _ _ _ hax rfl HX1031.below
            · skip
              intro a wr hn hd HW hs; have ha := hasNil hn hd
              have ha := ha.add (seeE hs 1 (.pointer (some ⟨b992, 0, none⟩)) (by kernel_rfl) (by kernel_rfl))
              refine yStep ha 30 (by kernel_rfl) ?_; intro l_ ha HK
              refine stepp ha 30 (.pointer (some ⟨b992, 1, none⟩)) (by kernel_rfl) (by kernel_rfl) ?_; intro ax hax; exact HK _ _ _ hax rfl (Below.refl _ _)
            · skip
              intro a wr hn hd HW hs; have ha := hasNil hn hd
              have ha := ha.add (seeF hs 30 4 (.pointer (some ⟨b992, 1, none⟩)) (by kernel_rfl) (by kernel_rfl))
              refine yStep ha 31 (by kernel_rfl) ?_; intro l_ ha HK
              refine stepl ha 31 (HW.ca (i := 0) (b := b992) (C := #[.int .u32 a0.f0, .int .u32 a0.f1, .int .i64 a0.f2, .int .i64 a0.f3, .int .i64 a0.f4, .int .i64 a0.f5]) (T := 27) (fr := (0, 0)) (by kernel_rfl)) 22 1 (.tmp 30) (.int .u32 a0.f1) rfl (by kernel_rfl) (by kernel_rfl) (by kernel_rfl) ?_; intro ax hax; exact HK _ _ _ hax rfl (Below.refl _ _)
            · skip
              intro a wr hn hd HW hs; have ha := hasNil hn hd
              have ha := ha.add (seeF hs 31 5 (.int .u32 a0.f1) (by kernel_rfl) (by kernel_rfl))
              refine yStep ha 32 (by kernel_rfl) ?_; intro l_ ha HK
              refine stepp ha 32 (.int .u64 (IntKind.wrap .u64 a0.f1)) (by kernel_rfl) (by kernel_rfl) ?_; intro ax hax; exact HK _ _ _ hax rfl (Below.refl _ _)
            · skip
              intro a wr hn hd HW hs; have ha := hasNil hn hd
              have ha := ha.add (seeF hs 32 6 (.int .u64 (IntKind.wrap .u64 a0.f1)) (by kernel_rfl) (by kernel_rfl))
              refine yStep ha 33 (by kernel_rfl) ?_; intro l_ ha HK
              refine stepc ha 33 (by kernel_rfl) (by kernel_rfl) (headgateref01_PutLittle.calls K (IntKind.wrap .u64 a0.f1) 4 t1032 _ ht1033) ?_; rintro e W1034 ⟨rfl, HX1035⟩
              refine ⟨_, rfl, ?_⟩; intro ax hax; exact HK _ _ _ hax rfl HX1035.below
            · skip
              intro a wr hn hd HW hs; have ha := hasNil hn hd
              have ha := ha.add (seeF hs 29 3 (.string t1028) (by kernel_rfl) (by kernel_rfl))
              have ha := ha.add (seeF hs 33 7 (.string t1032) (by kernel_rfl) (by kernel_rfl))
              refine yStep ha 34 (by kernel_rfl) ?_; intro l_ ha HK
              refine stepsa ha 34 9 9 (.tmp 29) (.tmp 33) t1028 t1032 rfl (by kernel_rfl) (by kernel_rfl) (show (t1028).size + (t1032).size ≤ 9223372036854775807 from hA1036) (by kernel_rfl) ?_; intro ax hax; exact HK _ _ _ hax rfl (Below.refl _ _)
            · skip
              intro a wr hn hd HW hs; have ha := hasNil hn hd
              have ha := ha.add (seeE hs 1 (.pointer (some ⟨b992, 0, none⟩)) (by kernel_rfl) (by kernel_rfl))
              refine yStep ha 35 (by kernel_rfl) ?_; intro l_ ha HK
              refine stepp ha 35 (.pointer (some ⟨b992, 2, none⟩)) (by kernel_rfl) (by kernel_rfl) ?_; intro ax hax; exact HK _ _ _ hax rfl (Below.refl _ _)
            · skip
              intro a wr hn hd HW hs; have ha := hasNil hn hd
              have ha := ha.add (seeF hs 35 9 (.pointer (some ⟨b992, 2, none⟩)) (by kernel_rfl) (by kernel_rfl))
              refine yStep ha 36 (by kernel_rfl) ?_; intro l_ ha HK
              refine stepl ha 36 (HW.ca (i := 0) (b := b992) (C := #[.int .u32 a0.f0, .int .u32 a0.f1, .int .i64 a0.f2, .int .i64 a0.f3, .int .i64 a0.f4, .int .i64 a0.f5]) (T := 27) (fr := (0, 0)) (by kernel_rfl)) 3 2 (.tmp 35) (.int .i64 a0.f2) rfl (by kernel_rfl) (by kernel_rfl) (by kernel_rfl) ?_; intro ax hax; exact HK _ _ _ hax rfl (Below.refl _ _)
            · skip
              intro a wr hn hd HW hs; have ha := hasNil hn hd
              have ha := ha.add (seeF hs 36 10 (.int .i64 a0.f2) (by kernel_rfl) (by kernel_rfl))
              refine yStep ha 37 (by kernel_rfl) ?_; intro l_ ha HK
              refine stepp ha 37 (.int .u64 (IntKind.wrap .u64 a0.f2)) (by kernel_rfl) (by kernel_rfl) ?_; intro ax hax; exact HK _ _ _ hax rfl (Below.refl _ _)
            · skip
              intro a wr hn hd HW hs; have ha := hasNil hn hd
              have ha := ha.add (seeF hs 37 11 (.int .u64 (IntKind.wrap .u64 a0.f2)) (by kernel_rfl) (by kernel_rfl))
              refine yStep ha 38 (by kernel_rfl) ?_; intro l_ ha HK
              refine stepc ha 38 (by kernel_rfl) (by kernel_rfl) (headgateref01_PutLittle.calls K (IntKind.wrap .u64 a0.f2) 2 t1037 _ ht1038) ?_; rintro e W1039 ⟨rfl, HX1040⟩
              refine ⟨_, rfl, ?_⟩; intro ax hax; exact HK _ _ _ hax rfl HX1040.below
            · skip
              intro a wr hn hd HW hs; have ha := hasNil hn hd
              have ha := ha.add (seeF hs 34 8 (.string (t1028 ++ t1032)) (by kernel_rfl) (by kernel_rfl))
              have ha := ha.add (seeF hs 38 12 (.string t1037) (by kernel_rfl) (by kernel_rfl))
              refine yStep ha 39 (by kernel_rfl) ?_; intro l_ ha HK
              refine stepsa ha 39 9 9 (.tmp 34) (.tmp 38) (t1028 ++ t1032) t1037 rfl (by kernel_rfl) (by kernel_rfl) (show (t1028 ++ t1032).size + (t1037).size ≤ 9223372036854775807 from hA1041) (by kernel_rfl) ?_; intro ax hax; exact HK _ _ _ hax rfl (Below.refl _ _)
            · skip
              intro a wr hn hd HW hs; have ha := hasNil hn hd
              have ha := ha.add (seeE hs 1 (.pointer (some ⟨b992, 0, none⟩)) (by kernel_rfl) (by kernel_rfl))
              refine yStep ha 40 (by kernel_rfl) ?_; intro l_ ha HK
              refine stepp ha 40 (.pointer (some ⟨b992, 3, none⟩)) (by kernel_rfl) (by kernel_rfl) ?_; intro ax hax; exact HK _ _ _ hax rfl (Below.refl _ _)
            · skip
              intro a wr hn hd HW hs; have ha := hasNil hn hd
              have ha := ha.add (seeF hs 40 14 (.pointer (some ⟨b992, 3, none⟩)) (by kernel_rfl) (by kernel_rfl))
              refine yStep ha 41 (by kernel_rfl) ?_; intro l_ ha HK
              refine stepl ha 41 (HW.ca (i := 0) (b := b992) (C := #[.int .u32 a0.f0, .int .u32 a0.f1, .int .i64 a0.f2, .int .i64 a0.f3, .int .i64 a0.f4, .int .i64 a0.f5]) (T := 27) (fr := (0, 0)) (by kernel_rfl)) 3 3 (.tmp 40) (.int .i64 a0.f3) rfl (by kernel_rfl) (by kernel_rfl) (by kernel_rfl) ?_; intro ax hax; exact HK _ _ _ hax rfl (Below.refl _ _)
            · skip
              intro a wr hn hd HW hs; have ha := hasNil hn hd
              have ha := ha.add (seeF hs 41 15 (.int .i64 a0.f3) (by kernel_rfl) (by kernel_rfl))
              refine yStep ha 42 (by kernel_rfl) ?_; intro l_ ha HK
              refine stepp ha 42 (.int .u64 (IntKind.wrap .u64 a0.f3)) (by kernel_rfl) (by kernel_rfl) ?_; intro ax hax; exact HK _ _ _ hax rfl (Below.refl _ _)
            · skip
              intro a wr hn hd HW hs; have ha := hasNil hn hd
              have ha := ha.add (seeF hs 42 16 (.int .u64 (IntKind.wrap .u64 a0.f3)) (by kernel_rfl) (by kernel_rfl))
              refine yStep ha 43 (by kernel_rfl) ?_; intro l_ ha HK
              refine stepc ha 43 (by kernel_rfl) (by kernel_rfl) (headgateref01_PutLittle.calls K (IntKind.wrap .u64 a0.f3) 2 t1042 _ ht1043) ?_; rintro e W1044 ⟨rfl, HX1045⟩
              refine ⟨_, rfl, ?_⟩; intro ax hax; exact HK _ _ _ hax rfl HX1045.below
            · skip
              intro a wr hn hd HW hs; have ha := hasNil hn hd
              have ha := ha.add (seeF hs 39 13 (.string ((t1028 ++ t1032) ++ t1037)) (by kernel_rfl) (by kernel_rfl))
              have ha := ha.add (seeF hs 43 17 (.string t1042) (by kernel_rfl) (by kernel_rfl))
              refine yStep ha 44 (by kernel_rfl) ?_; intro l_ ha HK
              refine stepsa ha 44 9 9 (.tmp 39) (.tmp 43) ((t1028 ++ t1032) ++ t1037) t1042 rfl (by kernel_rfl) (by kernel_rfl) (show ((t1028 ++ t1032) ++ t1037).size + (t1042).size ≤ 9223372036854775807 from hA1046) (by kernel_rfl) ?_; intro ax hax; exact HK _ _ _ hax rfl (Below.refl _ _)
            · skip
              intro a wr hn hd HW hs; have ha := hasNil hn hd
              have ha := ha.add (seeE hs 1 (.pointer (some ⟨b992, 0, none⟩)) (by kernel_rfl) (by kernel_rfl))
              refine yStep ha 45 (by kernel_rfl) ?_; intro l_ ha HK
              refine stepp ha 45 (.pointer (some ⟨b992, 4, none⟩)) (by kernel_rfl) (by kernel_rfl) ?_; intro ax hax; exact HK _ _ _ hax rfl (Below.refl _ _)
            · skip
              intro a wr hn hd HW hs; have ha := hasNil hn hd
              have ha := ha.add (seeF hs 45 19 (.pointer (some ⟨b992, 4, none⟩)) (by kernel_rfl) (by kernel_rfl))
              refine yStep ha 46 (by kernel_rfl) ?_; intro l_ ha HK
              refine stepl ha 46 (HW.ca (i := 0) (b := b992) (C := #[.int .u32 a0.f0, .int .u32 a0.f1, .int .i64 a0.f2, .int .i64 a0.f3, .int .i64 a0.f4, .int .i64 a0.f5]) (T := 27) (fr := (0, 0)) (by kernel_rfl)) 3 4 (.tmp 45) (.int .i64 a0.f4) rfl (by kernel_rfl) (by kernel_rfl) (by kernel_rfl) ?_; intro ax hax; exact HK _ _ _ hax rfl (Below.refl _ _)
            · skip
              intro a wr hn hd HW hs; have ha := hasNil hn hd
              have ha := ha.add (seeF hs 46 20 (.int .i64 a0.f4) (by kernel_rfl) (by kernel_rfl))
              refine yStep ha 47 (by kernel_rfl) ?_; intro l_ ha HK
              refine stepp ha 47 (.int .u64 (IntKind.wrap .u64 a0.f4)) (by kernel_rfl) (by kernel_rfl) ?_; intro ax hax; exact HK _ _ _ hax rfl (Below.refl _ _)
            · skip
              intro a wr hn hd HW hs; have ha := hasNil hn hd
              have ha := ha.add (seeF hs 47 21 (.int .u64 (IntKind.wrap .u64 a0.f4)) (by kernel_rfl) (by kernel_rfl))
              refine yStep ha 48 (by kernel_rfl) ?_; intro l_ ha HK
              refine stepc ha 48 (by kernel_rfl) (by kernel_rfl) (headgateref01_PutLittle.calls K (IntKind.wrap .u64 a0.f4) 2 t1047 _ ht1048) ?_; rintro e W1049 ⟨rfl, HX1050⟩
              refine ⟨_, rfl, ?_⟩; intro ax hax; exact HK _ _ _ hax rfl HX1050.below
            · skip
              intro a wr hn hd HW hs; have ha := hasNil hn hd
              have ha := ha.add (seeF hs 44 18 (.string (((t1028 ++ t1032) ++ t1037) ++ t1042)) (by kernel_rfl) (by kernel_rfl))
              have ha := ha.add (seeF hs 48 22 (.string t1047) (by kernel_rfl) (by kernel_rfl))
              refine yStep ha 49 (by kernel_rfl) ?_; intro l_ ha HK
              refine stepsa ha 49 9 9 (.tmp 44) (.tmp 48) (((t1028 ++ t1032) ++ t1037) ++ t1042) t1047 rfl (by kernel_rfl) (by kernel_rfl) (show (((t1028 ++ t1032) ++ t1037) ++ t1042).size + (t1047).size ≤ 9223372036854775807 from hA1051) (by kernel_rfl) ?_; intro ax hax; exact HK _ _ _ hax rfl (Below.refl _ _)
            · skip
              intro a wr hn hd HW hs; have ha := hasNil hn hd
              have ha := ha.add (seeE hs 1 (.pointer (some ⟨b992, 0, none⟩)) (by kernel_rfl) (by kernel_rfl))
              refine yStep ha 50 (by kernel_rfl) ?_; intro l_ ha HK
              refine stepp ha 50 (.pointer (some ⟨b992, 5, none⟩)) (by kernel_rfl) (by kernel_rfl) ?_; intro ax hax; exact HK _ _ _ hax rfl (Below.refl _ _)
            · skip
              intro a wr hn hd HW hs; have ha := hasNil hn hd
              have ha := ha.add (seeF hs 50 24 (.pointer (some ⟨b992, 5, none⟩)) (by kernel_rfl) (by kernel_rfl))
              refine yStep ha 51 (by kernel_rfl) ?_; intro l_ ha HK
              refine stepl ha 51 (HW.ca (i := 0) (b := b992) (C := #[.int .u32 a0.f0, .int .u32 a0.f1, .int .i64 a0.f2, .int .i64 a0.f3, .int .i64 a0.f4, .int .i64 a0.f5]) (T := 27) (fr := (0, 0)) (by kernel_rfl)) 3 5 (.tmp 50) (.int .i64 a0.f5) rfl (by kernel_rfl) (by kernel_rfl) (by kernel_rfl) ?_; intro ax hax; exact HK _ _ _ hax rfl (Below.refl _ _)
            · skip
              intro a wr hn hd HW hs; have ha := hasNil hn hd
              have ha := ha.add (seeF hs 51 25 (.int .i64 a0.f5) (by kernel_rfl) (by kernel_rfl))
              refine yStep ha 52 (by kernel_rfl) ?_; intro l_ ha HK
              refine stepp ha 52 (.int .i64 (IntKind.wrap .i64 (2 * a0.f5))) (by kernel_rfl) (by kernel_rfl) ?_; intro ax hax; exact HK _ _ _ hax rfl (Below.refl _ _)
            · skip
              intro a wr hn hd HW hs; have ha := hasNil hn hd
              have ha := ha.add (seeF hs 52 26 (.int .i64 (IntKind.wrap .i64 (2 * a0.f5))) (by kernel_rfl) (by kernel_rfl))
              refine yStep ha 53 (by kernel_rfl) ?_; intro l_ ha HK
              refine stepp ha 53 (.int .u64 (IntKind.wrap .u64 (IntKind.wrap .i64 (2 * a0.f5)))) (by kernel_rfl) (by kernel_rfl) ?_; intro ax hax; exact HK _ _ _ hax rfl (Below.refl _ _)
            · skip
              intro a wr hn hd HW hs; have ha := hasNil hn hd
              have ha := ha.add (seeF hs 53 27 (.int .u64 (IntKind.wrap .u64 (IntKind.wrap .i64 (2 * a0.f5)))) (by kernel_rfl) (by kernel_rfl))
              refine yStep ha 54 (by kernel_rfl) ?_; intro l_ ha HK
              refine stepc ha 54 (by kernel_rfl) (by kernel_rfl) (headgateref01_PutLittle.calls K (IntKind.wrap .u64 (IntKind.wrap .i64 (2 * a0.f5))) 2 t1052 _ ht1053) ?_; rintro e W1054 ⟨rfl, HX1055⟩
              refine ⟨_, rfl, ?_⟩; intro ax hax; exact HK _ _ _ hax rfl HX1055.below
            · skip
              intro a wr hn hd HW hs; have ha := hasNil hn hd
              have ha := ha.add (seeF hs 49 23 (.string ((((t1028 ++ t1032) ++ t1037) ++ t1042) ++ t1047)) (by kernel_rfl) (by kernel_rfl))
              have ha := ha.add (seeF hs 54 28 (.string t1052) (by kernel_rfl) (by kernel_rfl))
              refine yStep ha 55 (by kernel_rfl) ?_; intro l_ ha HK
              refine stepsa ha 55 9 9 (.tmp 49) (.tmp 54) ((((t1028 ++ t1032) ++ t1037) ++ t1042) ++ t1047) t1052 rfl (by kernel_rfl) (by kernel_rfl) (show ((((t1028 ++ t1032) ++ t1037) ++ t1042) ++ t1047).size + (t1052).size ≤ 9223372036854775807 from hA1056) (by kernel_rfl) ?_; intro ax hax; exact HK _ _ _ hax rfl (Below.refl _ _)
          · skip
            intro a W1057 ha HW he hf
            replace ha := ha.add (gotF (m := 30) (j := 29) (d := 55) (v := .string (((((t1028 ++ t1032) ++ t1037) ++ t1042) ++ t1047) ++ t1052)) hf (by kernel_rfl) (by kernel_rfl) (by kernel_rfl))
            clear he hf
            refine stepp ha 2 (.string (((((t1028 ++ t1032) ++ t1037) ++ t1042) ++ t1047) ++ t1052)) (by kernel_rfl) (by kernel_rfl) ?_; clear ha a; intro a ha
            refine stepp ha 3 (.int .i64 0) (by kernel_rfl) (by kernel_rfl) ?_; clear ha a; intro a ha
            refine endl ?_
            refine thenN (hK1027 _ _ ?_); clear hK1027
            refine wp_ret ?_
            obtain rfl := Option.some.inj h
            exact finv ha _ _ rfl (.tmp (v := .string (((((t1028 ++ t1032) ++ t1037) ++ t1042) ++ t1047) ++ t1052)) (by kernel_rfl) (.tmp (v := .int .i64 0) (by kernel_rfl) .nil)) (.tuple #[.string (((((t1028 ++ t1032) ++ t1037) ++ t1042) ++ t1047) ++ t1052), .int .i64 0]) rfl ⟨rfl, HW.pick [] [] (by decide) (by decide) rfl (by kernel_rfl)⟩
        · skip
          replace h := ite_neg' h hp1017
          refine condT ha (by kernel_rfl) (by kernel_rfl) (t := (!t1013)) (not_t (bool_f hp1017)) ?_
          refine wp_seq_k (fun K1018 hK1019 => ?_)
          refine wp_region_lit ?_
          refine stepp ha 2 (.string (⟨#[]⟩ : ByteArray)) (by kernel_rfl) (by kernel_rfl) ?_; clear ha a; intro a ha
          refine stepp ha 3 (.int .i64 250) (by kernel_rfl) (by kernel_rfl) ?_; clear ha a; intro a ha
          refine endl ?_
          refine thenN (hK1019 _ _ ?_); clear hK1019
          refine wp_ret ?_
          refine thenR ?_
          obtain rfl := Option.some.inj h
          exact finv ha _ _ rfl (.tmp (v := .string (⟨#[]⟩ : ByteArray)) (by kernel_rfl) (.tmp (v := .int .i64 250) (by kernel_rfl) .nil)) (.tuple #[.string (⟨#[]⟩ : ByteArray), .int .i64 250]) rfl ⟨rfl, HW.pick [] [] (by decide) (by decide) rfl (by kernel_rfl)⟩
      · skip
        replace h := ite_neg' h hp1012
        replace ha := ha.bool 20 (by kernel_rfl) (not_t (bool_f hp1012))
        refine stepo ha 21 (by kernel_rfl) ?_; clear ha a; intro a ha
        refine stepo ha 22 (by kernel_rfl) ?_; clear ha a; intro a ha
        refine stepo ha 23 (by kernel_rfl) ?_; clear ha a; intro a ha
        refine stepo ha 24 (by kernel_rfl) ?_; clear ha a; intro a ha
        refine stepp ha 25 (.bool true) (by kernel_rfl) (by kernel_rfl) ?_; clear ha a; intro a ha
        refine endl ?_
        refine thenN (hK997 _ _ ?_); clear hK997
        refine condT ha (by kernel_rfl) (by kernel_rfl) (t := true) (rfl) ?_
        refine wp_seq_k (fun K1020 hK1021 => ?_)
        refine wp_region_lit ?_
        refine stepp ha 2 (.string (⟨#[]⟩ : ByteArray)) (by kernel_rfl) (by kernel_rfl) ?_; clear ha a; intro a ha
        refine stepp ha 3 (.int .i64 250) (by kernel_rfl) (by kernel_rfl) ?_; clear ha a; intro a ha
        refine endl ?_
        refine thenN (hK1021 _ _ ?_); clear hK1021
        refine wp_ret ?_
        refine thenR ?_
        obtain rfl := Option.some.inj h
        exact finv ha _ _ rfl (.tmp (v := .string (⟨#[]⟩ : ByteArray)) (by kernel_rfl) (.tmp (v := .int .i64 250) (by kernel_rfl) .nil)) (.tuple #[.string (⟨#[]⟩ : ByteArray), .int .i64 250]) rfl ⟨rfl, HW.pick [] [] (by decide) (by decide) rfl (by kernel_rfl)⟩
    · skip
      replace h := ite_neg' h hp1007
      replace ha := ha.bool 14 (by kernel_rfl) (not_t (bool_f hp1007))
      refine stepo ha 15 (by kernel_rfl) ?_; clear ha a; intro a ha
      refine stepo ha 16 (by kernel_rfl) ?_; clear ha a; intro a ha
      refine stepo ha 17 (by kernel_rfl) ?_; clear ha a; intro a ha
      refine stepo ha 18 (by kernel_rfl) ?_; clear ha a; intro a ha
      refine stepp ha 19 (.bool true) (by kernel_rfl) (by kernel_rfl) ?_; clear ha a; intro a ha
      refine stepp ha 20 (.bool true) (by kernel_rfl) (by kernel_rfl) ?_; clear ha a; intro a ha
      refine stepo ha 21 (by kernel_rfl) ?_; clear ha a; intro a ha
      refine stepo ha 22 (by kernel_rfl) ?_; clear ha a; intro a ha
      refine stepo ha 23 (by kernel_rfl) ?_; clear ha a; intro a ha
      refine stepo ha 24 (by kernel_rfl) ?_; clear ha a; intro a ha
      refine stepp ha 25 (.bool true) (by kernel_rfl) (by kernel_rfl) ?_; clear ha a; intro a ha
      refine endl ?_
      refine thenN (hK997 _ _ ?_); clear hK997
      refine condT ha (by kernel_rfl) (by kernel_rfl) (t := true) (rfl) ?_
      refine wp_seq_k (fun K1022 hK1023 => ?_)
      refine wp_region_lit ?_
      refine stepp ha 2 (.string (⟨#[]⟩ : ByteArray)) (by kernel_rfl) (by kernel_rfl) ?_; clear ha a; intro a ha
      refine stepp ha 3 (.int .i64 250) (by kernel_rfl) (by kernel_rfl) ?_; clear ha a; intro a ha
      refine endl ?_
      refine thenN (hK1023 _ _ ?_); clear hK1023
      refine wp_ret ?_
      refine thenR ?_
      obtain rfl := Option.some.inj h
      exact finv ha _ _ rfl (.tmp (v := .string (⟨#[]⟩ : ByteArray)) (by kernel_rfl) (.tmp (v := .int .i64 250) (by kernel_rfl) .nil)) (.tuple #[.string (⟨#[]⟩ : ByteArray), .int .i64 250]) rfl ⟨rfl, HW.pick [] [] (by decide) (by decide) rfl (by kernel_rfl)⟩
  · skip
    replace h := ite_neg' h hp1002
    replace ha := ha.bool 8 (by kernel_rfl) (not_t (bool_f hp1002))
    refine stepo ha 9 (by kernel_rfl) ?_; clear ha a; intro a ha
    refine stepo ha 10 (by kernel_rfl) ?_; clear ha a; intro a ha
    refine stepo ha 11 (by kernel_rfl) ?_; clear ha a; intro a ha
    refine stepo ha 12 (by kernel_rfl) ?_; clear ha a; intro a ha
    refine stepp ha 13 (.bool true) (by kernel_rfl) (by kernel_rfl) ?_; clear ha a; intro a ha
    refine stepp ha 14 (.bool true) (by kernel_rfl) (by kernel_rfl) ?_; clear ha a; intro a ha
    refine stepo ha 15 (by kernel_rfl) ?_; clear ha a; intro a ha
    refine stepo ha 16 (by kernel_rfl) ?_; clear ha a; intro a ha
    refine stepo ha 17 (by kernel_rfl) ?_; clear ha a; intro a ha
    refine stepo ha 18 (by kernel_rfl) ?_; clear ha a; intro a ha
    refine stepp ha 19 (.bool true) (by kernel_rfl) (by kernel_rfl) ?_; clear ha a; intro a ha
    refine stepp ha 20 (.bool true) (by kernel_rfl) (by kernel_rfl) ?_; clear ha a; intro a ha
    refine stepo ha 21 (by kernel_rfl) ?_; clear ha a; intro a ha
    refine stepo ha 22 (by kernel_rfl) ?_; clear ha a; intro a ha
    refine stepo ha 23 (by kernel_rfl) ?_; clear ha a; intro a ha
    refine stepo ha 24 (by kernel_rfl) ?_; clear ha a; intro a ha
    refine stepp ha 25 (.bool true) (by kernel_rfl) (by kernel_rfl) ?_; clear ha a; intro a ha
    refine endl ?_
    refine thenN (hK997 _ _ ?_); clear hK997
    refine condT ha (by kernel_rfl) (by kernel_rfl) (t := true) (rfl) ?_
    refine wp_seq_k (fun K1024 hK1025 => ?_)
    refine wp_region_lit ?_
    refine stepp ha 2 (.string (⟨#[]⟩ : ByteArray)) (by kernel_rfl) (by kernel_rfl) ?_; clear ha a; intro a ha
    refine stepp ha 3 (.int .i64 250) (by kernel_rfl) (by kernel_rfl) ?_; clear ha a; intro a ha
    refine endl ?_
    refine thenN (hK1025 _ _ ?_); clear hK1025
    refine wp_ret ?_
    refine thenR ?_
    obtain rfl := Option.some.inj h
    exact finv ha _ _ rfl (.tmp (v := .string (⟨#[]⟩ : ByteArray)) (by kernel_rfl) (.tmp (v := .int .i64 250) (by kernel_rfl) .nil)) (.tuple #[.string (⟨#[]⟩ : ByteArray), .int .i64 250]) rfl ⟨rfl, HW.pick [] [] (by decide) (by decide) rfl (by kernel_rfl)⟩
end Go.Proofs.YtceagilmillgfaaDoor.F
