/- headgate/headgatelaw18.ProutReads: plain functions, and that the calls come to what they say. No condition. -/
import Derived.Test.YtpjcipadjegmlaaDoorFT
import Derived.Test.YtpjcipadjegmlaaDoorF9
import Derived.Test.YtpjcipadjegmlaaDoorF13
import Derived.Test.YtpjcipadjegmlaaDoorF27
import Derived.Test.YtpjcipadjegmlaaDoorF48
namespace Go.Proofs.YtpjcipadjegmlaaDoor.F
open Go Go.RowKit Go.Proofs.YtpjcipadjegmlaaDoor.X
set_option linter.unusedVariables false
set_option linter.unusedSimpArgs false
/-! ### headgate/headgatelaw18.ProutReads: function 3 -/
def headgatelaw18_ProutReads.j1 (K : Nat) (a0 : T_api_Table) (t1354 : ByteArray) (x1480 : Bool) : Option Bool :=
  if x1480 = true then (if (t1354.size : Int) = 8 then ((headgatelaw18_ProutReads_1.f K t1354 4 4).bind fun t1486 => (if t1486 = 0 then ((headgatelaw18_wakes.f K).bind fun t1491 => (some t1491)) else (some false))) else (some false)) else (if (t1354.size : Int) = 24 then ((headgatelaw18_ProutReads_1.f K t1354 4 4).bind fun t1498 => (if t1498 = 16 then (asrt (21 < (t1354.size : Int)) ((cdb_Number.f a0.f1.f0).bind fun t1504 => (if (IntKind.wrap .i64 (bt t1354 21)) = t1504 then ((headgatelaw18_wakes.f K).bind fun t1509 => (some t1509)) else (some false)))) else (some false))) else (some false))
def headgatelaw18_ProutReads.b0 (K : Nat) (a0 : T_api_Table) (t1340 : ByteArray) (t1354 : ByteArray) (again1448 : Int → Option Bool) (x1449 : Int) : Option Bool :=
  if x1449 < (a0.f0.length : Int) then ((headgatelaw18_ProutReads_1.f K t1340 (IntKind.wrap .i64 (8 + (IntKind.wrap .i64 (8 * x1449)))) 8).bind fun t1462 => (asrt (0 ≤ x1449) (if t1462 = ((rdL T_api_Reg.z a0.f0 x1449).f1) then (again1448 (IntKind.wrap .i64 (x1449 + 1))) else (some false)))) else (if a0.f1.f0 < 1 then (headgatelaw18_ProutReads.j1 K a0 t1354 true) else (headgatelaw18_ProutReads.j1 K a0 t1354 (decide (a0.f1.f0 > 6))))
def headgatelaw18_ProutReads.l0 (K : Nat) (a0 : T_api_Table) (t1340 : ByteArray) (t1354 : ByteArray) : Nat → Int → Option Bool
  | 0, _ => none
  | k_ + 1, x1449 => headgatelaw18_ProutReads.b0 K a0 t1340 t1354 (headgatelaw18_ProutReads.l0 K a0 t1340 t1354 k_) x1449
def headgatelaw18_ProutReads.j0 (K : Nat) (a0 : T_api_Table) (x1321 : Bool) : Option Bool :=
  if x1321 = true then ((headgatelaw18_wakes.f K).bind fun t1326 => (some t1326)) else (asrt (a0.f0.length ≤ 5864062014805) ((prout_Keys.f K a0.f2 a0.f0).bind fun t1340 => ((prout_Holder.f K a0.f2 (⟨a0.f1.f0, a0.f1.f1⟩ : T_api_Hold) a0.f0).bind fun t1354 => (if (t1340.size : Int) = (IntKind.wrap .i64 (8 + (IntKind.wrap .i64 (8 * (a0.f0.length : Int))))) then ((headgatelaw18_ProutReads_1.f K t1340 0 4).bind fun t1366 => (if t1366 = (IntKind.wrap .u64 a0.f2) then ((headgatelaw18_ProutReads_1.f K t1340 4 4).bind fun t1371 => (if t1371 = (IntKind.wrap .u64 (IntKind.wrap .i64 (8 * (a0.f0.length : Int)))) then (if (t1354.size : Int) < 8 then (some false) else ((headgatelaw18_ProutReads_1.f K t1354 0 4).bind fun t1378 => (if t1378 = (IntKind.wrap .u64 a0.f2) then (headgatelaw18_ProutReads.l0 K a0 t1340 t1354 K 0) else (some false)))) else (some false))) else (some false))) else (some false)))))
def headgatelaw18_ProutReads.f (K : Nat) (a0 : T_api_Table) : Option Bool :=
  (headgatelaw10_Large.f K (⟨a0.f0, (⟨a0.f1.f0, a0.f1.f1⟩ : T_api_Hold), a0.f2, a0.f3⟩ : T_api_Table)).bind fun t1316 => (if t1316 = true then (headgatelaw18_ProutReads.j0 K a0 true) else (headgatelaw18_ProutReads.j0 K a0 (decide ((a0.f0.length : Int) > 16))))
set_option maxRecDepth 100000 in
set_option maxHeartbeats 4000000 in
theorem headgatelaw18_ProutReads.calls (K : Nat) (a0 : T_api_Table) (A0_0 : Option Addr) (c0_0 : Nat) (r : Bool) (w : World) (hG0 : CA w 0 0 (encs (encI .i64) G_cdb_numbers).toArray) (hr0_0 : Rd 2 w (.slice A0_0 a0.f0.length c0_0) a0.f0.length (encs T_api_Reg.enc a0.f0)) (h : headgatelaw18_ProutReads.f K a0 = some r) :
    Calls Tryd.prog 3 #[.agg #[.slice A0_0 a0.f0.length c0_0, .int .i64 a0.f1.f0, .string a0.f1.f1, .int .u32 a0.f2, .bool a0.f3]] w (fun e W' => e = .returned (.bool r) ∧ Wd w W' [] [] ) := by
  refine sxstart (n := 138) (l := [(0, .agg #[.slice A0_0 a0.f0.length c0_0, .int .i64 a0.f1.f0, .string a0.f1.f1, .int .u32 a0.f2, .bool a0.f3])]) Tryd.func3 rfl rfl (Nat.le_of_ble_eq_true KR) (subsA_cons rfl (subsA_nil _)) ?_
  intro a ha
  have HW := Wd.refl w
  unfold headgatelaw18_ProutReads.f at h
  refine wp_seq_k (fun K1308 hK1309 => ?_)
  refine wp_region_lit ?_
  refine stepnew ha HW 1 #[.slice A0_0 a0.f0.length c0_0, .int .i64 a0.f1.f0, .string a0.f1.f1, .int .u32 a0.f2, .bool a0.f3] 27 KR KR ?_; clear ha HW a; intro b1310 a W1311 HW ha
  refine stepp ha 2 (.bool false) KR KR ?_; clear ha a; intro a ha
  refine endl ?_
  refine thenN (hK1309 _ _ ?_); clear hK1309
  refine wp_seq_k (fun K1312 hK1313 => ?_)
  refine wp_seq_k (fun K1314 hK1315 => ?_)
  refine cutn (fun a W1322 => ∃ (x1321 : Bool), headgatelaw18_ProutReads.j0 K a0 x1321 = some r ∧ Has 138 [(1, .pointer (some ⟨b1310, 0, none⟩)), (14, .bool x1321)] a ∧ Wd w W1322 [(b1310, .cells #[.slice A0_0 a0.f0.length c0_0, .int .i64 a0.f1.f0, .string a0.f1.f1, .int .u32 a0.f2, .bool a0.f3] 27 (0, 0))] []) ?_ ?_
  · skip
    refine wp_region_lit ?_
    refine stepl ha 7 (HW.ca (i := 0) (b := b1310) (C := #[.slice A0_0 a0.f0.length c0_0, .int .i64 a0.f1.f0, .string a0.f1.f1, .int .u32 a0.f2, .bool a0.f3]) (T := 27) (fr := (0, 0)) KR) 27 0 (.tmp 1) (.agg #[.slice A0_0 a0.f0.length c0_0, .int .i64 a0.f1.f0, .string a0.f1.f1, .int .u32 a0.f2, .bool a0.f3]) rfl KR KR KR ?_; clear ha a; intro a ha
    obtain ⟨t1316, ht1317, h_⟩ := bind_some' h; clear h; have h := h_; clear h_
    refine stepc ha 8 KR KR (headgatelaw10_Large.calls K (⟨a0.f0, (⟨a0.f1.f0, a0.f1.f1⟩ : T_api_Hold), a0.f2, a0.f3⟩ : T_api_Table) A0_0 c0_0 t1316 _ ((HW.rd0 hr0_0)) ht1317) ?_; clear ha a; rintro e W1318 ⟨rfl, HX1319⟩
    refine ⟨_, rfl, ?_⟩; intro a ha; replace HW := HW.callw HX1319; clear HX1319
    refine stepp ha 9 (.bool t1316) KR KR ?_; clear ha a; intro a ha
    by_cases hp1320 : t1316 = true
    · skip
      replace h := ite_pos' h hp1320
      replace ha := ha.bool 9 KR (hp1320)
      refine stepo ha 10 KR ?_; clear ha a; intro a ha
      refine stepo ha 11 KR ?_; clear ha a; intro a ha
      refine stepo ha 12 KR ?_; clear ha a; intro a ha
      refine stepo ha 13 KR ?_; clear ha a; intro a ha
      refine stepp ha 14 (.bool true) KR KR ?_; clear ha a; intro a ha
      refine endl ?_
      exact thenN ⟨true, h, ha.sub (subs_cons KR (subs_cons KR (subs_nil _))), HW.pick [0] [] (by decide) (by decide) KR KR⟩
    · skip
      replace h := ite_neg' h hp1320
      replace ha := ha.bool 9 KR (bool_f hp1320)
      refine stepp ha 10 (.pointer (some ⟨b1310, 0, none⟩)) KR KR ?_; clear ha a; intro a ha
      refine stepl ha 11 (HW.ca (i := 0) (b := b1310) (C := #[.slice A0_0 a0.f0.length c0_0, .int .i64 a0.f1.f0, .string a0.f1.f1, .int .u32 a0.f2, .bool a0.f3]) (T := 27) (fr := (0, 0)) KR) 22 0 (.tmp 10) (.slice A0_0 a0.f0.length c0_0) rfl KR KR KR ?_; clear ha a; intro a ha
      refine stepp ha 12 (.int .i64 (a0.f0.length : Int)) KR KR ?_; clear ha a; intro a ha
      refine stepp ha 13 (.bool (decide ((a0.f0.length : Int) > 16))) KR KR ?_; clear ha a; intro a ha
      refine stepp ha 14 (.bool (decide ((a0.f0.length : Int) > 16))) KR KR ?_; clear ha a; intro a ha
      refine endl ?_
      exact thenN ⟨decide ((a0.f0.length : Int) > 16), h, ha.sub (subs_cons KR (subs_cons KR (subs_nil _))), HW.pick [0] [] (by decide) (by decide) KR KR⟩
  · skip
    intro a W1322 hJ
    obtain ⟨x1321, h, ha, HW⟩ := hJ
    replace h : headgatelaw18_ProutReads.j0 K a0 x1321 = some r := h
    unfold headgatelaw18_ProutReads.j0 at h
    refine hK1315 _ _ ?_; clear hK1315
    by_cases hp1323 : x1321 = true
    · skip
      replace h := ite_pos' h hp1323
      refine condT ha KR KR (t := x1321) (hp1323) ?_
      refine wp_seq_k (fun K1324 hK1325 => ?_)
      refine wp_region_lit ?_
      obtain ⟨t1326, ht1327, h_⟩ := bind_some' h; clear h; have h := h_; clear h_
      refine stepc ha 15 KR KR (headgatelaw18_wakes.calls K t1326 _ ht1327) ?_; clear ha a; rintro e W1328 ⟨rfl, HX1329⟩
      refine ⟨_, rfl, ?_⟩; intro a ha; replace HW := HW.callw HX1329; clear HX1329
      refine stepp ha 2 (.bool t1326) KR KR ?_; clear ha a; intro a ha
      refine endl ?_
      refine thenN (hK1325 _ _ ?_); clear hK1325
      refine wp_ret ?_
      refine thenR ?_
      obtain rfl := Option.some.inj h
      exact finv ha _ _ rfl (.tmp (v := .bool t1326) KR .nil) (.bool t1326) rfl ⟨rfl, HW.pick [] [] (by decide) (by decide) rfl KR⟩
    · skip
      replace h := ite_neg' h hp1323
      refine condF ha KR KR (t := x1321) (bool_f hp1323) ?_
      refine wp_skip ?_
      refine thenN (hK1313 _ _ ?_); clear hK1313
      refine wp_seq_k (fun K1330 hK1331 => ?_)
      obtain ⟨hA1336, h_⟩ := asrt_some h; clear h; have h := h_; clear h_
      obtain ⟨t1340, ht1341, h_⟩ := bind_some' h; clear h; have h := h_; clear h_
      refine regionG 7 KR KR ha HW [.fix (.pointer (some ⟨b1310, 3, none⟩)), .fix (.int .u32 a0.f2), .lit w 36 ([] : List T_api_Reg).length #[] [(b1310, .cells #[.slice A0_0 a0.f0.length c0_0, .int .i64 a0.f1.f0, .string a0.f1.f1, .int .u32 a0.f2, .bool a0.f3] 27 (0, 0))] [], .fix (.pointer (some ⟨b1310, 0, none⟩)), .fix (.slice A0_0 a0.f0.length c0_0), .rd 2 a0.f0.length (encs T_api_Reg.enc a0.f0), .fix (.string t1340)] ?_ ?_
      · skip
        refine ⟨?_, ?_, ?_, ?_, ?_, ?_, ?_, trivial⟩
        · skip
          intro a wr hn hd HW hs; have ha := hasNil hn hd
          have ha := ha.add (seeE hs 1 (.pointer (some ⟨b1310, 0, none⟩)) KR KR)
          refine yStep ha 16 KR ?_; intro l_ ha HK
          refine stepp ha 16 (.pointer (some ⟨b1310, 3, none⟩)) KR KR ?_; intro ax hax; exact HK _ _ _ hax rfl (Below.refl _ _)
        · skip
          intro a wr hn hd HW hs; have ha := hasNil hn hd
          have ha := ha.add (seeF hs 16 0 (.pointer (some ⟨b1310, 3, none⟩)) KR KR)
          refine yStep ha 17 KR ?_; intro l_ ha HK
          refine stepl ha 17 (HW.ca (i := 0) (b := b1310) (C := #[.slice A0_0 a0.f0.length c0_0, .int .i64 a0.f1.f0, .string a0.f1.f1, .int .u32 a0.f2, .bool a0.f3]) (T := 27) (fr := (0, 0)) KR) 25 3 (.tmp 16) (.int .u32 a0.f2) rfl KR KR KR ?_; intro ax hax; exact HK _ _ _ hax rfl (Below.refl _ _)
        · skip
          intro a wr hn hd HW hs; have ha := hasNil hn hd
          refine yStep ha 18 KR ?_; intro l_ ha HK
          refine stepbk ha (Wd.refl wr) 18 36 0 #[] KR KR ?_; intro b1332 ax W1333 HV hax
          exact HK _ _ _ hax ⟨b1332, rfl, HW.callw HV⟩ HV.below
        · skip
          intro a wr hn hd HW hs; have ha := hasNil hn hd
          have ha := ha.add (seeE hs 1 (.pointer (some ⟨b1310, 0, none⟩)) KR KR)
          refine yStep ha 19 KR ?_; intro l_ ha HK
          refine stepp ha 19 (.pointer (some ⟨b1310, 0, none⟩)) KR KR ?_; intro ax hax; exact HK _ _ _ hax rfl (Below.refl _ _)
        · skip
          intro a wr hn hd HW hs; have ha := hasNil hn hd
          have ha := ha.add (seeF hs 19 3 (.pointer (some ⟨b1310, 0, none⟩)) KR KR)
          refine yStep ha 20 KR ?_; intro l_ ha HK
          refine stepl ha 20 (HW.ca (i := 0) (b := b1310) (C := #[.slice A0_0 a0.f0.length c0_0, .int .i64 a0.f1.f0, .string a0.f1.f1, .int .u32 a0.f2, .bool a0.f3]) (T := 27) (fr := (0, 0)) KR) 22 0 (.tmp 19) (.slice A0_0 a0.f0.length c0_0) rfl KR KR KR ?_; intro ax hax; exact HK _ _ _ hax rfl (Below.refl _ _)
        · skip
          intro a wr hn hd HW hs; have ha := hasNil hn hd
          obtain ⟨b1332, he_, hR1335⟩ := seeL (enc := T_api_Reg.enc) hs 18 2 2 36 #[] ([] : List T_api_Reg) (w1 := w) (bs1 := [(b1310, .cells #[.slice A0_0 a0.f0.length c0_0, .int .i64 a0.f1.f0, .string a0.f1.f1, .int .u32 a0.f2, .bool a0.f3] 27 (0, 0))]) (os1 := []) KR KR (fun _ => rfl) rfl; have ha := ha.add he_
          have ha := ha.add (seeF hs 20 4 (.slice A0_0 a0.f0.length c0_0) KR KR)
          refine yStep ha 21 KR ?_; intro l_ ha HK
          refine stepapl ha 21 22 36 (.tmp 18) (.tmp 20) (.agg #[.string (⟨#[]⟩ : ByteArray), .int .u64 0]) 2 24 b1332 (.slice A0_0 a0.f0.length c0_0) a0.f0.length (encs T_api_Reg.enc a0.f0) rfl KR KR ((HW.rd0 hr0_0)) KR KR KR (by decide) (oneCells_encs (fun _ => rfl) _) (by have := hA1336; unfold maxLen; omega) (by have := hA1336; omega) KR ?_; intro A1337 c1338 ax wx HR HV hax
          exact HK _ _ _ hax HR HV
        · skip
          intro a wr hn hd HW hs; have ha := hasNil hn hd
          have ha := ha.add (seeF hs 17 1 (.int .u32 a0.f2) KR KR)
          obtain ⟨A1337, c1338, he_, hR1339⟩ := seeR hs 21 5 2 a0.f0.length (encs T_api_Reg.enc a0.f0) KR KR; have ha := ha.add he_
          refine yStep ha 22 KR ?_; intro l_ ha HK
          refine stepc ha 22 KR KR (prout_Keys.calls K a0.f2 a0.f0 A1337 c1338 t1340 _ hR1339 ht1341) ?_; rintro e W1342 ⟨rfl, HX1343⟩
          refine ⟨_, rfl, ?_⟩; intro ax hax; exact HK _ _ _ hax rfl HX1343.below
      · skip
        intro a W1344 ha HW he hf
        replace ha := ha.add (he 1 (.pointer (some ⟨b1310, 0, none⟩)) KR KR)
        replace ha := ha.add (gotF (m := 7) (j := 6) (d := 22) (v := .string t1340) hf KR KR KR)
        clear he hf
        refine stepp ha 3 (.string t1340) KR KR ?_; clear ha a; intro a ha
        refine endl ?_
        refine thenN (hK1331 _ _ ?_); clear hK1331
        refine wp_seq_k (fun K1345 hK1346 => ?_)
        obtain ⟨t1354, ht1355, h_⟩ := bind_some' h; clear h; have h := h_; clear h_
        refine regionG 9 KR KR ha HW [.fix (.pointer (some ⟨b1310, 3, none⟩)), .fix (.int .u32 a0.f2), .fix (.pointer (some ⟨b1310, 1, none⟩)), .fix (.agg #[.int .i64 a0.f1.f0, .string a0.f1.f1]), .lit w 36 ([] : List T_api_Reg).length #[] [(b1310, .cells #[.slice A0_0 a0.f0.length c0_0, .int .i64 a0.f1.f0, .string a0.f1.f1, .int .u32 a0.f2, .bool a0.f3] 27 (0, 0))] [], .fix (.pointer (some ⟨b1310, 0, none⟩)), .fix (.slice A0_0 a0.f0.length c0_0), .rd 2 a0.f0.length (encs T_api_Reg.enc a0.f0), .fix (.string t1354)] ?_ ?_
        · skip
          refine ⟨?_, ?_, ?_, ?_, ?_, ?_, ?_, ?_, ?_, trivial⟩
          · skip
            intro a wr hn hd HW hs; have ha := hasNil hn hd
            have ha := ha.add (seeE hs 1 (.pointer (some ⟨b1310, 0, none⟩)) KR KR)
            refine yStep ha 23 KR ?_; intro l_ ha HK
            refine stepp ha 23 (.pointer (some ⟨b1310, 3, none⟩)) KR KR ?_; intro ax hax; exact HK _ _ _ hax rfl (Below.refl _ _)
          · skip
            intro a wr hn hd HW hs; have ha := hasNil hn hd
            have ha := ha.add (seeF hs 23 0 (.pointer (some ⟨b1310, 3, none⟩)) KR KR)
            refine yStep ha 24 KR ?_; intro l_ ha HK
            refine stepl ha 24 (HW.ca (i := 0) (b := b1310) (C := #[.slice A0_0 a0.f0.length c0_0, .int .i64 a0.f1.f0, .string a0.f1.f1, .int .u32 a0.f2, .bool a0.f3]) (T := 27) (fr := (0, 0)) KR) 25 3 (.tmp 23) (.int .u32 a0.f2) rfl KR KR KR ?_; intro ax hax; exact HK _ _ _ hax rfl (Below.refl _ _)
          · skip
            intro a wr hn hd HW hs; have ha := hasNil hn hd
            have ha := ha.add (seeE hs 1 (.pointer (some ⟨b1310, 0, none⟩)) KR KR)
            refine yStep ha 25 KR ?_; intro l_ ha HK
            refine stepp ha 25 (.pointer (some ⟨b1310, 1, none⟩)) KR KR ?_; intro ax hax; exact HK _ _ _ hax rfl (Below.refl _ _)
          · skip
            intro a wr hn hd HW hs; have ha := hasNil hn hd
            have ha := ha.add (seeF hs 25 2 (.pointer (some ⟨b1310, 1, none⟩)) KR KR)
            refine yStep ha 26 KR ?_; intro l_ ha HK
            refine stepl ha 26 (HW.ca (i := 0) (b := b1310) (C := #[.slice A0_0 a0.f0.length c0_0, .int .i64 a0.f1.f0, .string a0.f1.f1, .int .u32 a0.f2, .bool a0.f3]) (T := 27) (fr := (0, 0)) KR) 24 1 (.tmp 25) (.agg #[.int .i64 a0.f1.f0, .string a0.f1.f1]) rfl KR KR KR ?_; intro ax hax; exact HK _ _ _ hax rfl (Below.refl _ _)
          · skip
            intro a wr hn hd HW hs; have ha := hasNil hn hd
            refine yStep ha 27 KR ?_; intro l_ ha HK
            refine stepbk ha (Wd.refl wr) 27 36 0 #[] KR KR ?_; intro b1347 ax W1348 HV hax
            exact HK _ _ _ hax ⟨b1347, rfl, HW.callw HV⟩ HV.below
          · skip
            intro a wr hn hd HW hs; have ha := hasNil hn hd
            have ha := ha.add (seeE hs 1 (.pointer (some ⟨b1310, 0, none⟩)) KR KR)
            refine yStep ha 28 KR ?_; intro l_ ha HK
            refine stepp ha 28 (.pointer (some ⟨b1310, 0, none⟩)) KR KR ?_; intro ax hax; exact HK _ _ _ hax rfl (Below.refl _ _)
          · skip
            intro a wr hn hd HW hs; have ha := hasNil hn hd
            have ha := ha.add (seeF hs 28 5 (.pointer (some ⟨b1310, 0, none⟩)) KR KR)
            refine yStep ha 29 KR ?_; intro l_ ha HK
            refine stepl ha 29 (HW.ca (i := 0) (b := b1310) (C := #[.slice A0_0 a0.f0.length c0_0, .int .i64 a0.f1.f0, .string a0.f1.f1, .int .u32 a0.f2, .bool a0.f3]) (T := 27) (fr := (0, 0)) KR) 22 0 (.tmp 28) (.slice A0_0 a0.f0.length c0_0) rfl KR KR KR ?_; intro ax hax; exact HK _ _ _ hax rfl (Below.refl _ _)
          · skip
            intro a wr hn hd HW hs; have ha := hasNil hn hd
            obtain ⟨b1347, he_, hR1350⟩ := seeL (enc := T_api_Reg.enc) hs 27 4 2 36 #[] ([] : List T_api_Reg) (w1 := w) (bs1 := [(b1310, .cells #[.slice A0_0 a0.f0.length c0_0, .int .i64 a0.f1.f0, .string a0.f1.f1, .int .u32 a0.f2, .bool a0.f3] 27 (0, 0))]) (os1 := []) KR KR (fun _ => rfl) rfl; have ha := ha.add he_
            have ha := ha.add (seeF hs 29 6 (.slice A0_0 a0.f0.length c0_0) KR KR)
            refine yStep ha 30 KR ?_; intro l_ ha HK
            refine stepapl ha 30 22 36 (.tmp 27) (.tmp 29) (.agg #[.string (⟨#[]⟩ : ByteArray), .int .u64 0]) 2 24 b1347 (.slice A0_0 a0.f0.length c0_0) a0.f0.length (encs T_api_Reg.enc a0.f0) rfl KR KR ((HW.rd0 hr0_0)) KR KR KR (by decide) (oneCells_encs (fun _ => rfl) _) (by have := hA1336; unfold maxLen; omega) (by have := hA1336; omega) KR ?_; intro A1351 c1352 ax wx HR HV hax
            exact HK _ _ _ hax HR HV
          · skip
            intro a wr hn hd HW hs; have ha := hasNil hn hd
            have ha := ha.add (seeF hs 24 1 (.int .u32 a0.f2) KR KR)
            have ha := ha.add (seeF hs 26 3 (.agg #[.int .i64 a0.f1.f0, .string a0.f1.f1]) KR KR)
            obtain ⟨A1351, c1352, he_, hR1353⟩ := seeR hs 30 7 2 a0.f0.length (encs T_api_Reg.enc a0.f0) KR KR; have ha := ha.add he_
            refine yStep ha 31 KR ?_; intro l_ ha HK
            refine stepc ha 31 KR KR (prout_Holder.calls K a0.f2 (⟨a0.f1.f0, a0.f1.f1⟩ : T_api_Hold) a0.f0 A1351 c1352 t1354 _ (HW.ca0 hG0) hR1353 ht1355) ?_; rintro e W1356 ⟨rfl, HX1357⟩
            refine ⟨_, rfl, ?_⟩; intro ax hax; exact HK _ _ _ hax rfl HX1357.below
        · skip
          intro a W1358 ha HW he hf
          replace ha := ha.add (he 1 (.pointer (some ⟨b1310, 0, none⟩)) KR KR)
          replace ha := ha.add (he 3 (.string t1340) KR KR)
          replace ha := ha.add (gotF (m := 9) (j := 8) (d := 31) (v := .string t1354) hf KR KR KR)
          clear he hf
          refine stepp ha 4 (.string t1354) KR KR ?_; clear ha a; intro a ha
          refine endl ?_
          refine thenN (hK1346 _ _ ?_); clear hK1346
          refine wp_seq_k (fun K1359 hK1360 => ?_)
          refine wp_region_lit ?_
          refine stepp ha 5 (.func (.func 13) #[] #[]) KR KR ?_; clear ha a; intro a ha
          refine endl ?_
          refine thenN (hK1360 _ _ ?_); clear hK1360
          refine wp_seq_k (fun K1361 hK1362 => ?_)
          refine wp_seq_k (fun K1363 hK1364 => ?_)
          by_cases hp1365 : (t1340.size : Int) = (IntKind.wrap .i64 (8 + (IntKind.wrap .i64 (8 * (a0.f0.length : Int)))))
          · skip
            replace h := ite_pos' h hp1365
            obtain ⟨t1366, ht1367, h_⟩ := bind_some' h; clear h; have h := h_; clear h_
            by_cases hp1370 : t1366 = (IntKind.wrap .u64 a0.f2)
            · skip
              replace h := ite_pos' h hp1370
              obtain ⟨t1371, ht1372, h_⟩ := bind_some' h; clear h; have h := h_; clear h_
              by_cases hp1375 : t1371 = (IntKind.wrap .u64 (IntKind.wrap .i64 (8 * (a0.f0.length : Int))))
              · skip
                replace h := ite_pos' h hp1375
                by_cases hp1376 : (t1354.size : Int) < 8
                · skip
                  replace h := ite_pos' h hp1376
                  refine regionG 42 KR KR ha HW [.fix (.string t1340), .fix (.int .i64 (t1340.size : Int)), .fix (.pointer (some ⟨b1310, 0, none⟩)), .fix (.slice A0_0 a0.f0.length c0_0), .fix (.int .i64 (a0.f0.length : Int)), .fix (.int .i64 (IntKind.wrap .i64 (8 * (a0.f0.length : Int)))), .fix (.int .i64 (IntKind.wrap .i64 (8 + (IntKind.wrap .i64 (8 * (a0.f0.length : Int)))))), .fix (.bool ((t1340.size : Int) != (IntKind.wrap .i64 (8 + (IntKind.wrap .i64 (8 * (a0.f0.length : Int))))))), .fix (.bool ((t1340.size : Int) != (IntKind.wrap .i64 (8 + (IntKind.wrap .i64 (8 * (a0.f0.length : Int))))))), .fix (.func (.func 13) #[] #[]), .fix (.string t1340), .fix (.int .u64 t1366), .fix (.pointer (some ⟨b1310, 3, none⟩)), .fix (.int .u32 a0.f2), .fix (.int .u64 (IntKind.wrap .u64 a0.f2)), .fix (.bool (t1366 != (IntKind.wrap .u64 a0.f2))), .fix (.bool (t1366 != (IntKind.wrap .u64 a0.f2))), .fix (.bool (t1366 != (IntKind.wrap .u64 a0.f2))), .fix (.func (.func 13) #[] #[]), .fix (.string t1340), .fix (.int .u64 t1371), .fix (.pointer (some ⟨b1310, 0, none⟩)), .fix (.slice A0_0 a0.f0.length c0_0), .fix (.int .i64 (a0.f0.length : Int)), .fix (.int .i64 (IntKind.wrap .i64 (8 * (a0.f0.length : Int)))), .fix (.int .u64 (IntKind.wrap .u64 (IntKind.wrap .i64 (8 * (a0.f0.length : Int))))), .fix (.bool (t1371 != (IntKind.wrap .u64 (IntKind.wrap .i64 (8 * (a0.f0.length : Int)))))), .fix (.bool (t1371 != (IntKind.wrap .u64 (IntKind.wrap .i64 (8 * (a0.f0.length : Int)))))), .fix (.bool (t1371 != (IntKind.wrap .u64 (IntKind.wrap .i64 (8 * (a0.f0.length : Int)))))), .fix (.string t1354), .fix (.int .i64 (t1354.size : Int)), .fix (.bool (decide ((t1354.size : Int) < 8))), .fix (.bool (decide ((t1354.size : Int) < 8))), .fix (.bool (decide ((t1354.size : Int) < 8))), .fix undef, .fix undef, .fix undef, .fix undef, .fix undef, .fix undef, .fix undef, .fix (.bool true)] ?_ ?_
                  · skip
                    refine ⟨?_, ?_, ?_, ?_, ?_, ?_, ?_, ?_, ?_, ?_, ?_, ?_, ?_, ?_, ?_, ?_, ?_, ?_, ?_, ?_, ?_, ?_, ?_, ?_, ?_, ?_, ?_, ?_, ?_, ?_, ?_, ?_, ?_, ?_, ?_, ?_, ?_, ?_, ?_, ?_, ?_, ?_, trivial⟩
                    · skip
                      intro a wr hn hd HW hs; have ha := hasNil hn hd
                      have ha := ha.add (seeE hs 3 (.string t1340) KR KR)
                      refine yStep ha 32 KR ?_; intro l_ ha HK
                      refine stepp ha 32 (.string t1340) KR KR ?_; intro ax hax; exact HK _ _ _ hax rfl (Below.refl _ _)
                    · skip
                      intro a wr hn hd HW hs; have ha := hasNil hn hd
                      have ha := ha.add (seeF hs 32 0 (.string t1340) KR KR)
                      refine yStep ha 33 KR ?_; intro l_ ha HK
                      refine stepp ha 33 (.int .i64 (t1340.size : Int)) KR KR ?_; intro ax hax; exact HK _ _ _ hax rfl (Below.refl _ _)
                    · skip
                      intro a wr hn hd HW hs; have ha := hasNil hn hd
                      have ha := ha.add (seeE hs 1 (.pointer (some ⟨b1310, 0, none⟩)) KR KR)
                      refine yStep ha 34 KR ?_; intro l_ ha HK
                      refine stepp ha 34 (.pointer (some ⟨b1310, 0, none⟩)) KR KR ?_; intro ax hax; exact HK _ _ _ hax rfl (Below.refl _ _)
                    · skip
                      intro a wr hn hd HW hs; have ha := hasNil hn hd
                      have ha := ha.add (seeF hs 34 2 (.pointer (some ⟨b1310, 0, none⟩)) KR KR)
                      refine yStep ha 35 KR ?_; intro l_ ha HK
                      refine stepl ha 35 (HW.ca (i := 0) (b := b1310) (C := #[.slice A0_0 a0.f0.length c0_0, .int .i64 a0.f1.f0, .string a0.f1.f1, .int .u32 a0.f2, .bool a0.f3]) (T := 27) (fr := (0, 0)) KR) 22 0 (.tmp 34) (.slice A0_0 a0.f0.length c0_0) rfl KR KR KR ?_; intro ax hax; exact HK _ _ _ hax rfl (Below.refl _ _)
                    · skip
                      intro a wr hn hd HW hs; have ha := hasNil hn hd
                      have ha := ha.add (seeF hs 35 3 (.slice A0_0 a0.f0.length c0_0) KR KR)
                      refine yStep ha 36 KR ?_; intro l_ ha HK
                      refine stepp ha 36 (.int .i64 (a0.f0.length : Int)) KR KR ?_; intro ax hax; exact HK _ _ _ hax rfl (Below.refl _ _)
                    · skip
                      intro a wr hn hd HW hs; have ha := hasNil hn hd
                      have ha := ha.add (seeF hs 36 4 (.int .i64 (a0.f0.length : Int)) KR KR)
                      refine yStep ha 37 KR ?_; intro l_ ha HK
                      refine stepp ha 37 (.int .i64 (IntKind.wrap .i64 (8 * (a0.f0.length : Int)))) KR KR ?_; intro ax hax; exact HK _ _ _ hax rfl (Below.refl _ _)
                    · skip
                      intro a wr hn hd HW hs; have ha := hasNil hn hd
                      have ha := ha.add (seeF hs 37 5 (.int .i64 (IntKind.wrap .i64 (8 * (a0.f0.length : Int)))) KR KR)
                      refine yStep ha 38 KR ?_; intro l_ ha HK
                      refine stepp ha 38 (.int .i64 (IntKind.wrap .i64 (8 + (IntKind.wrap .i64 (8 * (a0.f0.length : Int)))))) KR KR ?_; intro ax hax; exact HK _ _ _ hax rfl (Below.refl _ _)
                    · skip
                      intro a wr hn hd HW hs; have ha := hasNil hn hd
                      have ha := ha.add (seeF hs 33 1 (.int .i64 (t1340.size : Int)) KR KR)
                      have ha := ha.add (seeF hs 38 6 (.int .i64 (IntKind.wrap .i64 (8 + (IntKind.wrap .i64 (8 * (a0.f0.length : Int)))))) KR KR)
                      refine yStep ha 39 KR ?_; intro l_ ha HK
                      refine stepp ha 39 (.bool ((t1340.size : Int) != (IntKind.wrap .i64 (8 + (IntKind.wrap .i64 (8 * (a0.f0.length : Int))))))) KR KR ?_; intro ax hax; exact HK _ _ _ hax rfl (Below.refl _ _)
                    · skip
                      intro a wr hn hd HW hs; have ha := hasNil hn hd
                      have ha := ha.add (seeF hs 39 7 (.bool ((t1340.size : Int) != (IntKind.wrap .i64 (8 + (IntKind.wrap .i64 (8 * (a0.f0.length : Int))))))) KR KR)
                      refine yStep ha 40 KR ?_; intro l_ ha HK
                      refine stepp ha 40 (.bool ((t1340.size : Int) != (IntKind.wrap .i64 (8 + (IntKind.wrap .i64 (8 * (a0.f0.length : Int))))))) KR KR ?_; intro ax hax; exact HK _ _ _ hax rfl (Below.refl _ _)
                    · skip
                      intro a wr hn hd HW hs; have ha := hasNil hn hd
                      have ha := ha.add (seeE hs 5 (.func (.func 13) #[] #[]) KR KR)
                      have ha := ha.add (seeF hs 40 8 (.bool ((t1340.size : Int) != (IntKind.wrap .i64 (8 + (IntKind.wrap .i64 (8 * (a0.f0.length : Int))))))) KR KR)
                      have ha := ha.bool 40 KR (ineq_f hp1365)
                      refine yStep ha 41 KR ?_; intro l_ ha HK
                      refine stepp ha 41 (.func (.func 13) #[] #[]) KR KR ?_; intro ax hax; exact HK _ _ _ hax rfl (Below.refl _ _)
                    · skip
                      intro a wr hn hd HW hs; have ha := hasNil hn hd
                      have ha := ha.add (seeE hs 3 (.string t1340) KR KR)
                      have ha := ha.add (seeF hs 40 8 (.bool ((t1340.size : Int) != (IntKind.wrap .i64 (8 + (IntKind.wrap .i64 (8 * (a0.f0.length : Int))))))) KR KR)
                      have ha := ha.bool 40 KR (ineq_f hp1365)
                      refine yStep ha 42 KR ?_; intro l_ ha HK
                      refine stepp ha 42 (.string t1340) KR KR ?_; intro ax hax; exact HK _ _ _ hax rfl (Below.refl _ _)
                    · skip
                      intro a wr hn hd HW hs; have ha := hasNil hn hd
                      have ha := ha.add (seeF hs 41 9 (.func (.func 13) #[] #[]) KR KR)
                      have ha := ha.add (seeF hs 42 10 (.string t1340) KR KR)
                      have ha := ha.add (seeF hs 40 8 (.bool ((t1340.size : Int) != (IntKind.wrap .i64 (8 + (IntKind.wrap .i64 (8 * (a0.f0.length : Int))))))) KR KR)
                      have ha := ha.bool 40 KR (ineq_f hp1365)
                      refine yStep ha 43 KR ?_; intro l_ ha HK
                      refine stepc ha 43 KR KR (headgatelaw18_ProutReads_1.calls K t1340 0 4 t1366 _ ht1367) ?_; rintro e W1368 ⟨rfl, HX1369⟩
                      refine ⟨_, rfl, ?_⟩; intro ax hax; exact HK _ _ _ hax rfl HX1369.below
                    · skip
                      intro a wr hn hd HW hs; have ha := hasNil hn hd
                      have ha := ha.add (seeE hs 1 (.pointer (some ⟨b1310, 0, none⟩)) KR KR)
                      have ha := ha.add (seeF hs 40 8 (.bool ((t1340.size : Int) != (IntKind.wrap .i64 (8 + (IntKind.wrap .i64 (8 * (a0.f0.length : Int))))))) KR KR)
                      have ha := ha.bool 40 KR (ineq_f hp1365)
                      refine yStep ha 44 KR ?_; intro l_ ha HK
                      refine stepp ha 44 (.pointer (some ⟨b1310, 3, none⟩)) KR KR ?_; intro ax hax; exact HK _ _ _ hax rfl (Below.refl _ _)
                    · skip
                      intro a wr hn hd HW hs; have ha := hasNil hn hd
                      have ha := ha.add (seeF hs 44 12 (.pointer (some ⟨b1310, 3, none⟩)) KR KR)
                      have ha := ha.add (seeF hs 40 8 (.bool ((t1340.size : Int) != (IntKind.wrap .i64 (8 + (IntKind.wrap .i64 (8 * (a0.f0.length : Int))))))) KR KR)
                      have ha := ha.bool 40 KR (ineq_f hp1365)
                      refine yStep ha 45 KR ?_; intro l_ ha HK
                      refine stepl ha 45 (HW.ca (i := 0) (b := b1310) (C := #[.slice A0_0 a0.f0.length c0_0, .int .i64 a0.f1.f0, .string a0.f1.f1, .int .u32 a0.f2, .bool a0.f3]) (T := 27) (fr := (0, 0)) KR) 25 3 (.tmp 44) (.int .u32 a0.f2) rfl KR KR KR ?_; intro ax hax; exact HK _ _ _ hax rfl (Below.refl _ _)
                    · skip
                      intro a wr hn hd HW hs; have ha := hasNil hn hd
                      have ha := ha.add (seeF hs 45 13 (.int .u32 a0.f2) KR KR)
                      have ha := ha.add (seeF hs 40 8 (.bool ((t1340.size : Int) != (IntKind.wrap .i64 (8 + (IntKind.wrap .i64 (8 * (a0.f0.length : Int))))))) KR KR)
                      have ha := ha.bool 40 KR (ineq_f hp1365)
                      refine yStep ha 46 KR ?_; intro l_ ha HK
                      refine stepp ha 46 (.int .u64 (IntKind.wrap .u64 a0.f2)) KR KR ?_; intro ax hax; exact HK _ _ _ hax rfl (Below.refl _ _)
                    · skip
                      intro a wr hn hd HW hs; have ha := hasNil hn hd
                      have ha := ha.add (seeF hs 43 11 (.int .u64 t1366) KR KR)
                      have ha := ha.add (seeF hs 46 14 (.int .u64 (IntKind.wrap .u64 a0.f2)) KR KR)
                      have ha := ha.add (seeF hs 40 8 (.bool ((t1340.size : Int) != (IntKind.wrap .i64 (8 + (IntKind.wrap .i64 (8 * (a0.f0.length : Int))))))) KR KR)
                      have ha := ha.bool 40 KR (ineq_f hp1365)
                      refine yStep ha 47 KR ?_; intro l_ ha HK
                      refine stepp ha 47 (.bool (t1366 != (IntKind.wrap .u64 a0.f2))) KR KR ?_; intro ax hax; exact HK _ _ _ hax rfl (Below.refl _ _)
                    · skip
                      intro a wr hn hd HW hs; have ha := hasNil hn hd
                      have ha := ha.add (seeF hs 40 8 (.bool ((t1340.size : Int) != (IntKind.wrap .i64 (8 + (IntKind.wrap .i64 (8 * (a0.f0.length : Int))))))) KR KR)
                      have ha := ha.bool 40 KR (ineq_f hp1365)
                      have ha := ha.add (seeF hs 47 15 (.bool (t1366 != (IntKind.wrap .u64 a0.f2))) KR KR)
                      refine yStep ha 48 KR ?_; intro l_ ha HK
                      refine stepp ha 48 (.bool (t1366 != (IntKind.wrap .u64 a0.f2))) KR KR ?_; intro ax hax; exact HK _ _ _ hax rfl (Below.refl _ _)
                    · skip
                      intro a wr hn hd HW hs; have ha := hasNil hn hd
                      have ha := ha.add (seeF hs 48 16 (.bool (t1366 != (IntKind.wrap .u64 a0.f2))) KR KR)
                      refine yStep ha 49 KR ?_; intro l_ ha HK
                      refine stepp ha 49 (.bool (t1366 != (IntKind.wrap .u64 a0.f2))) KR KR ?_; intro ax hax; exact HK _ _ _ hax rfl (Below.refl _ _)
                    · skip
                      intro a wr hn hd HW hs; have ha := hasNil hn hd
                      have ha := ha.add (seeE hs 5 (.func (.func 13) #[] #[]) KR KR)
                      have ha := ha.add (seeF hs 49 17 (.bool (t1366 != (IntKind.wrap .u64 a0.f2))) KR KR)
                      have ha := ha.bool 49 KR (ineq_f hp1370)
                      refine yStep ha 50 KR ?_; intro l_ ha HK
                      refine stepp ha 50 (.func (.func 13) #[] #[]) KR KR ?_; intro ax hax; exact HK _ _ _ hax rfl (Below.refl _ _)
                    · skip
                      intro a wr hn hd HW hs; have ha := hasNil hn hd
                      have ha := ha.add (seeE hs 3 (.string t1340) KR KR)
                      have ha := ha.add (seeF hs 49 17 (.bool (t1366 != (IntKind.wrap .u64 a0.f2))) KR KR)
                      have ha := ha.bool 49 KR (ineq_f hp1370)
                      refine yStep ha 51 KR ?_; intro l_ ha HK
                      refine stepp ha 51 (.string t1340) KR KR ?_; intro ax hax; exact HK _ _ _ hax rfl (Below.refl _ _)
                    · skip
                      intro a wr hn hd HW hs; have ha := hasNil hn hd
                      have ha := ha.add (seeF hs 50 18 (.func (.func 13) #[] #[]) KR KR)
                      have ha := ha.add (seeF hs 51 19 (.string t1340) KR KR)
                      have ha := ha.add (seeF hs 49 17 (.bool (t1366 != (IntKind.wrap .u64 a0.f2))) KR KR)
                      have ha := ha.bool 49 KR (ineq_f hp1370)
                      refine yStep ha 52 KR ?_; intro l_ ha HK
                      refine stepc ha 52 KR KR (headgatelaw18_ProutReads_1.calls K t1340 4 4 t1371 _ ht1372) ?_; rintro e W1373 ⟨rfl, HX1374⟩
                      refine ⟨_, rfl, ?_⟩; intro ax hax; exact HK _ _ _ hax rfl HX1374.below
                    · skip
                      intro a wr hn hd HW hs; have ha := hasNil hn hd
                      have ha := ha.add (seeE hs 1 (.pointer (some ⟨b1310, 0, none⟩)) KR KR)
                      have ha := ha.add (seeF hs 49 17 (.bool (t1366 != (IntKind.wrap .u64 a0.f2))) KR KR)
                      have ha := ha.bool 49 KR (ineq_f hp1370)
                      refine yStep ha 53 KR ?_; intro l_ ha HK
                      refine stepp ha 53 (.pointer (some ⟨b1310, 0, none⟩)) KR KR ?_; intro ax hax; exact HK _ _ _ hax rfl (Below.refl _ _)
                    · skip
                      intro a wr hn hd HW hs; have ha := hasNil hn hd
                      have ha := ha.add (seeF hs 53 21 (.pointer (some ⟨b1310, 0, none⟩)) KR KR)
                      have ha := ha.add (seeF hs 49 17 (.bool (t1366 != (IntKind.wrap .u64 a0.f2))) KR KR)
                      have ha := ha.bool 49 KR (ineq_f hp1370)
                      refine yStep ha 54 KR ?_; intro l_ ha HK
                      refine stepl ha 54 (HW.ca (i := 0) (b := b1310) (C := #[.slice A0_0 a0.f0.length c0_0, .int .i64 a0.f1.f0, .string a0.f1.f1, .int .u32 a0.f2, .bool a0.f3]) (T := 27) (fr := (0, 0)) KR) 22 0 (.tmp 53) (.slice A0_0 a0.f0.length c0_0) rfl KR KR KR ?_; intro ax hax; exact HK _ _ _ hax rfl (Below.refl _ _)
                    · skip
                      intro a wr hn hd HW hs; have ha := hasNil hn hd
                      have ha := ha.add (seeF hs 54 22 (.slice A0_0 a0.f0.length c0_0) KR KR)
                      have ha := ha.add (seeF hs 49 17 (.bool (t1366 != (IntKind.wrap .u64 a0.f2))) KR KR)
                      have ha := ha.bool 49 KR (ineq_f hp1370)
                      refine yStep ha 55 KR ?_; intro l_ ha HK
                      refine stepp ha 55 (.int .i64 (a0.f0.length : Int)) KR KR ?_; intro ax hax; exact HK _ _ _ hax rfl (Below.refl _ _)
                    · skip
                      intro a wr hn hd HW hs; have ha := hasNil hn hd
                      have ha := ha.add (seeF hs 55 23 (.int .i64 (a0.f0.length : Int)) KR KR)
                      have ha := ha.add (seeF hs 49 17 (.bool (t1366 != (IntKind.wrap .u64 a0.f2))) KR KR)
                      have ha := ha.bool 49 KR (ineq_f hp1370)
                      refine yStep ha 56 KR ?_; intro l_ ha HK
                      refine stepp ha 56 (.int .i64 (IntKind.wrap .i64 (8 * (a0.f0.length : Int)))) KR KR ?_; intro ax hax; exact HK _ _ _ hax rfl (Below.refl _ _)
                    · skip
                      intro a wr hn hd HW hs; have ha := hasNil hn hd
                      have ha := ha.add (seeF hs 56 24 (.int .i64 (IntKind.wrap .i64 (8 * (a0.f0.length : Int)))) KR KR)
                      have ha := ha.add (seeF hs 49 17 (.bool (t1366 != (IntKind.wrap .u64 a0.f2))) KR KR)
                      have ha := ha.bool 49 KR (ineq_f hp1370)
                      refine yStep ha 57 KR ?_; intro l_ ha HK
                      refine stepp ha 57 (.int .u64 (IntKind.wrap .u64 (IntKind.wrap .i64 (8 * (a0.f0.length : Int))))) KR KR ?_; intro ax hax; exact HK _ _ _ hax rfl (Below.refl _ _)
                    · skip
                      intro a wr hn hd HW hs; have ha := hasNil hn hd
                      have ha := ha.add (seeF hs 52 20 (.int .u64 t1371) KR KR)
                      have ha := ha.add (seeF hs 57 25 (.int .u64 (IntKind.wrap .u64 (IntKind.wrap .i64 (8 * (a0.f0.length : Int))))) KR KR)
                      have ha := ha.add (seeF hs 49 17 (.bool (t1366 != (IntKind.wrap .u64 a0.f2))) KR KR)
                      have ha := ha.bool 49 KR (ineq_f hp1370)
                      refine yStep ha 58 KR ?_; intro l_ ha HK
                      refine stepp ha 58 (.bool (t1371 != (IntKind.wrap .u64 (IntKind.wrap .i64 (8 * (a0.f0.length : Int)))))) KR KR ?_; intro ax hax; exact HK _ _ _ hax rfl (Below.refl _ _)
                    · skip
                      intro a wr hn hd HW hs; have ha := hasNil hn hd
                      have ha := ha.add (seeF hs 49 17 (.bool (t1366 != (IntKind.wrap .u64 a0.f2))) KR KR)
                      have ha := ha.bool 49 KR (ineq_f hp1370)
                      have ha := ha.add (seeF hs 58 26 (.bool (t1371 != (IntKind.wrap .u64 (IntKind.wrap .i64 (8 * (a0.f0.length : Int)))))) KR KR)
                      refine yStep ha 59 KR ?_; intro l_ ha HK
                      refine stepp ha 59 (.bool (t1371 != (IntKind.wrap .u64 (IntKind.wrap .i64 (8 * (a0.f0.length : Int)))))) KR KR ?_; intro ax hax; exact HK _ _ _ hax rfl (Below.refl _ _)
                    · skip
                      intro a wr hn hd HW hs; have ha := hasNil hn hd
                      have ha := ha.add (seeF hs 59 27 (.bool (t1371 != (IntKind.wrap .u64 (IntKind.wrap .i64 (8 * (a0.f0.length : Int)))))) KR KR)
                      refine yStep ha 60 KR ?_; intro l_ ha HK
                      refine stepp ha 60 (.bool (t1371 != (IntKind.wrap .u64 (IntKind.wrap .i64 (8 * (a0.f0.length : Int)))))) KR KR ?_; intro ax hax; exact HK _ _ _ hax rfl (Below.refl _ _)
                    · skip
                      intro a wr hn hd HW hs; have ha := hasNil hn hd
                      have ha := ha.add (seeE hs 4 (.string t1354) KR KR)
                      have ha := ha.add (seeF hs 60 28 (.bool (t1371 != (IntKind.wrap .u64 (IntKind.wrap .i64 (8 * (a0.f0.length : Int)))))) KR KR)
                      have ha := ha.bool 60 KR (ineq_f hp1375)
                      refine yStep ha 61 KR ?_; intro l_ ha HK
                      refine stepp ha 61 (.string t1354) KR KR ?_; intro ax hax; exact HK _ _ _ hax rfl (Below.refl _ _)
                    · skip
                      intro a wr hn hd HW hs; have ha := hasNil hn hd
                      have ha := ha.add (seeF hs 61 29 (.string t1354) KR KR)
                      have ha := ha.add (seeF hs 60 28 (.bool (t1371 != (IntKind.wrap .u64 (IntKind.wrap .i64 (8 * (a0.f0.length : Int)))))) KR KR)
                      have ha := ha.bool 60 KR (ineq_f hp1375)
                      refine yStep ha 62 KR ?_; intro l_ ha HK
                      refine stepp ha 62 (.int .i64 (t1354.size : Int)) KR KR ?_; intro ax hax; exact HK _ _ _ hax rfl (Below.refl _ _)
                    · skip
                      intro a wr hn hd HW hs; have ha := hasNil hn hd
                      have ha := ha.add (seeF hs 62 30 (.int .i64 (t1354.size : Int)) KR KR)
                      have ha := ha.add (seeF hs 60 28 (.bool (t1371 != (IntKind.wrap .u64 (IntKind.wrap .i64 (8 * (a0.f0.length : Int)))))) KR KR)
                      have ha := ha.bool 60 KR (ineq_f hp1375)
                      refine yStep ha 63 KR ?_; intro l_ ha HK
                      refine stepp ha 63 (.bool (decide ((t1354.size : Int) < 8))) KR KR ?_; intro ax hax; exact HK _ _ _ hax rfl (Below.refl _ _)
                    · skip
                      intro a wr hn hd HW hs; have ha := hasNil hn hd
                      have ha := ha.add (seeF hs 60 28 (.bool (t1371 != (IntKind.wrap .u64 (IntKind.wrap .i64 (8 * (a0.f0.length : Int)))))) KR KR)
                      have ha := ha.bool 60 KR (ineq_f hp1375)
                      have ha := ha.add (seeF hs 63 31 (.bool (decide ((t1354.size : Int) < 8))) KR KR)
                      refine yStep ha 64 KR ?_; intro l_ ha HK
                      refine stepp ha 64 (.bool (decide ((t1354.size : Int) < 8))) KR KR ?_; intro ax hax; exact HK _ _ _ hax rfl (Below.refl _ _)
                    · skip
                      intro a wr hn hd HW hs; have ha := hasNil hn hd
                      have ha := ha.add (seeF hs 64 32 (.bool (decide ((t1354.size : Int) < 8))) KR KR)
                      refine yStep ha 65 KR ?_; intro l_ ha HK
                      refine stepp ha 65 (.bool (decide ((t1354.size : Int) < 8))) KR KR ?_; intro ax hax; exact HK _ _ _ hax rfl (Below.refl _ _)
                    · skip
                      intro a wr hn hd HW hs; have ha := hasNil hn hd
                      have ha := ha.add (seeE hs 5 (.func (.func 13) #[] #[]) KR KR)
                      have ha := ha.add (seeF hs 65 33 (.bool (decide ((t1354.size : Int) < 8))) KR KR)
                      have ha := ha.bool 65 KR (decide_eq_true hp1376)
                      exact yo ha KR rfl
                    · skip
                      intro a wr hn hd HW hs; have ha := hasNil hn hd
                      have ha := ha.add (seeE hs 4 (.string t1354) KR KR)
                      have ha := ha.add (seeF hs 65 33 (.bool (decide ((t1354.size : Int) < 8))) KR KR)
                      have ha := ha.bool 65 KR (decide_eq_true hp1376)
                      exact yo ha KR rfl
                    · skip
                      intro a wr hn hd HW hs; have ha := hasNil hn hd
                      have ha := ha.add (seeF hs 66 34 (undef) KR KR)
                      have ha := ha.add (seeF hs 67 35 (undef) KR KR)
                      have ha := ha.add (seeF hs 65 33 (.bool (decide ((t1354.size : Int) < 8))) KR KR)
                      have ha := ha.bool 65 KR (decide_eq_true hp1376)
                      exact yo ha KR rfl
                    · skip
                      intro a wr hn hd HW hs; have ha := hasNil hn hd
                      have ha := ha.add (seeE hs 1 (.pointer (some ⟨b1310, 0, none⟩)) KR KR)
                      have ha := ha.add (seeF hs 65 33 (.bool (decide ((t1354.size : Int) < 8))) KR KR)
                      have ha := ha.bool 65 KR (decide_eq_true hp1376)
                      exact yo ha KR rfl
                    · skip
                      intro a wr hn hd HW hs; have ha := hasNil hn hd
                      have ha := ha.add (seeF hs 69 37 (undef) KR KR)
                      have ha := ha.add (seeF hs 65 33 (.bool (decide ((t1354.size : Int) < 8))) KR KR)
                      have ha := ha.bool 65 KR (decide_eq_true hp1376)
                      exact yo ha KR rfl
                    · skip
                      intro a wr hn hd HW hs; have ha := hasNil hn hd
                      have ha := ha.add (seeF hs 70 38 (undef) KR KR)
                      have ha := ha.add (seeF hs 65 33 (.bool (decide ((t1354.size : Int) < 8))) KR KR)
                      have ha := ha.bool 65 KR (decide_eq_true hp1376)
                      exact yo ha KR rfl
                    · skip
                      intro a wr hn hd HW hs; have ha := hasNil hn hd
                      have ha := ha.add (seeF hs 68 36 (undef) KR KR)
                      have ha := ha.add (seeF hs 71 39 (undef) KR KR)
                      have ha := ha.add (seeF hs 65 33 (.bool (decide ((t1354.size : Int) < 8))) KR KR)
                      have ha := ha.bool 65 KR (decide_eq_true hp1376)
                      exact yo ha KR rfl
                    · skip
                      intro a wr hn hd HW hs; have ha := hasNil hn hd
                      have ha := ha.add (seeF hs 65 33 (.bool (decide ((t1354.size : Int) < 8))) KR KR)
                      have ha := ha.bool 65 KR (decide_eq_true hp1376)
                      have ha := ha.add (seeF hs 72 40 (undef) KR KR)
                      refine yStep ha 73 KR ?_; intro l_ ha HK
                      refine stepp ha 73 (.bool true) KR KR ?_; intro ax hax; exact HK _ _ _ hax rfl (Below.refl _ _)
                  · skip
                    intro a W1377 ha HW he hf
                    replace ha := ha.add (he 1 (.pointer (some ⟨b1310, 0, none⟩)) KR KR)
                    replace ha := ha.add (he 3 (.string t1340) KR KR)
                    replace ha := ha.add (he 4 (.string t1354) KR KR)
                    replace ha := ha.add (he 5 (.func (.func 13) #[] #[]) KR KR)
                    replace ha := ha.add (gotF (m := 42) (j := 41) (d := 73) (v := .bool true) hf KR KR KR)
                    clear he hf
                    refine endl ?_
                    refine thenN (hK1364 _ _ ?_); clear hK1364
                    refine condT ha KR KR (t := true) (rfl) ?_
                    refine wp_seq_k (fun K1386 hK1387 => ?_)
                    refine wp_region_lit ?_
                    refine stepp ha 2 (.bool false) KR KR ?_; clear ha a; intro a ha
                    refine endl ?_
                    refine thenN (hK1387 _ _ ?_); clear hK1387
                    refine wp_ret ?_
                    refine thenR ?_
                    obtain rfl := Option.some.inj h
                    exact finv ha _ _ rfl (.tmp (v := .bool false) KR .nil) (.bool false) rfl ⟨rfl, HW.pick [] [] (by decide) (by decide) rfl KR⟩
                · skip
                  replace h := ite_neg' h hp1376
                  obtain ⟨t1378, ht1379, h_⟩ := bind_some' h; clear h; have h := h_; clear h_
                  refine regionG 42 KR KR ha HW [.fix (.string t1340), .fix (.int .i64 (t1340.size : Int)), .fix (.pointer (some ⟨b1310, 0, none⟩)), .fix (.slice A0_0 a0.f0.length c0_0), .fix (.int .i64 (a0.f0.length : Int)), .fix (.int .i64 (IntKind.wrap .i64 (8 * (a0.f0.length : Int)))), .fix (.int .i64 (IntKind.wrap .i64 (8 + (IntKind.wrap .i64 (8 * (a0.f0.length : Int)))))), .fix (.bool ((t1340.size : Int) != (IntKind.wrap .i64 (8 + (IntKind.wrap .i64 (8 * (a0.f0.length : Int))))))), .fix (.bool ((t1340.size : Int) != (IntKind.wrap .i64 (8 + (IntKind.wrap .i64 (8 * (a0.f0.length : Int))))))), .fix (.func (.func 13) #[] #[]), .fix (.string t1340), .fix (.int .u64 t1366), .fix (.pointer (some ⟨b1310, 3, none⟩)), .fix (.int .u32 a0.f2), .fix (.int .u64 (IntKind.wrap .u64 a0.f2)), .fix (.bool (t1366 != (IntKind.wrap .u64 a0.f2))), .fix (.bool (t1366 != (IntKind.wrap .u64 a0.f2))), .fix (.bool (t1366 != (IntKind.wrap .u64 a0.f2))), .fix (.func (.func 13) #[] #[]), .fix (.string t1340), .fix (.int .u64 t1371), .fix (.pointer (some ⟨b1310, 0, none⟩)), .fix (.slice A0_0 a0.f0.length c0_0), .fix (.int .i64 (a0.f0.length : Int)), .fix (.int .i64 (IntKind.wrap .i64 (8 * (a0.f0.length : Int)))), .fix (.int .u64 (IntKind.wrap .u64 (IntKind.wrap .i64 (8 * (a0.f0.length : Int))))), .fix (.bool (t1371 != (IntKind.wrap .u64 (IntKind.wrap .i64 (8 * (a0.f0.length : Int)))))), .fix (.bool (t1371 != (IntKind.wrap .u64 (IntKind.wrap .i64 (8 * (a0.f0.length : Int)))))), .fix (.bool (t1371 != (IntKind.wrap .u64 (IntKind.wrap .i64 (8 * (a0.f0.length : Int)))))), .fix (.string t1354), .fix (.int .i64 (t1354.size : Int)), .fix (.bool (decide ((t1354.size : Int) < 8))), .fix (.bool (decide ((t1354.size : Int) < 8))), .fix (.bool (decide ((t1354.size : Int) < 8))), .fix (.func (.func 13) #[] #[]), .fix (.string t1354), .fix (.int .u64 t1378), .fix (.pointer (some ⟨b1310, 3, none⟩)), .fix (.int .u32 a0.f2), .fix (.int .u64 (IntKind.wrap .u64 a0.f2)), .fix (.bool (t1378 != (IntKind.wrap .u64 a0.f2))), .fix (.bool (t1378 != (IntKind.wrap .u64 a0.f2)))] ?_ ?_
                  · skip
                    refine ⟨?_, ?_, ?_, ?_, ?_, ?_, ?_, ?_, ?_, ?_, ?_, ?_, ?_, ?_, ?_, ?_, ?_, ?_, ?_, ?_, ?_, ?_, ?_, ?_, ?_, ?_, ?_, ?_, ?_, ?_, ?_, ?_, ?_, ?_, ?_, ?_, ?_, ?_, ?_, ?_, ?_, ?_, trivial⟩
                    · skip
                      intro a wr hn hd HW hs; have ha := hasNil hn hd
                      have ha := ha.add (seeE hs 3 (.string t1340) KR KR)
                      refine yStep ha 32 KR ?_; intro l_ ha HK
                      refine stepp ha 32 (.string t1340) KR KR ?_; intro ax hax; exact HK _ _ _ hax rfl (Below.refl _ _)
                    · skip
                      intro a wr hn hd HW hs; have ha := hasNil hn hd
                      have ha := ha.add (seeF hs 32 0 (.string t1340) KR KR)
                      refine yStep ha 33 KR ?_; intro l_ ha HK
                      refine stepp ha 33 (.int .i64 (t1340.size : Int)) KR KR ?_; intro ax hax; exact HK _ _ _ hax rfl (Below.refl _ _)
                    · skip
                      intro a wr hn hd HW hs; have ha := hasNil hn hd
                      have ha := ha.add (seeE hs 1 (.pointer (some ⟨b1310, 0, none⟩)) KR KR)
                      refine yStep ha 34 KR ?_; intro l_ ha HK
                      refine stepp ha 34 (.pointer (some ⟨b1310, 0, none⟩)) KR KR ?_; intro ax hax; exact HK _ _ _ hax rfl (Below.refl _ _)
                    · skip
                      intro a wr hn hd HW hs; have ha := hasNil hn hd
                      have ha := ha.add (seeF hs 34 2 (.pointer (some ⟨b1310, 0, none⟩)) KR KR)
                      refine yStep ha 35 KR ?_; intro l_ ha HK
                      refine stepl ha 35 (HW.ca (i := 0) (b := b1310) (C := #[.slice A0_0 a0.f0.length c0_0, .int .i64 a0.f1.f0, .string a0.f1.f1, .int .u32 a0.f2, .bool a0.f3]) (T := 27) (fr := (0, 0)) KR) 22 0 (.tmp 34) (.slice A0_0 a0.f0.length c0_0) rfl KR KR KR ?_; intro ax hax; exact HK _ _ _ hax rfl (Below.refl _ _)
                    · skip
                      intro a wr hn hd HW hs; have ha := hasNil hn hd
                      have ha := ha.add (seeF hs 35 3 (.slice A0_0 a0.f0.length c0_0) KR KR)
                      refine yStep ha 36 KR ?_; intro l_ ha HK
                      refine stepp ha 36 (.int .i64 (a0.f0.length : Int)) KR KR ?_; intro ax hax; exact HK _ _ _ hax rfl (Below.refl _ _)
                    · skip
                      intro a wr hn hd HW hs; have ha := hasNil hn hd
                      have ha := ha.add (seeF hs 36 4 (.int .i64 (a0.f0.length : Int)) KR KR)
                      refine yStep ha 37 KR ?_; intro l_ ha HK
                      refine stepp ha 37 (.int .i64 (IntKind.wrap .i64 (8 * (a0.f0.length : Int)))) KR KR ?_; intro ax hax; exact HK _ _ _ hax rfl (Below.refl _ _)
                    · skip
                      intro a wr hn hd HW hs; have ha := hasNil hn hd
                      have ha := ha.add (seeF hs 37 5 (.int .i64 (IntKind.wrap .i64 (8 * (a0.f0.length : Int)))) KR KR)
                      refine yStep ha 38 KR ?_; intro l_ ha HK
                      refine stepp ha 38 (.int .i64 (IntKind.wrap .i64 (8 + (IntKind.wrap .i64 (8 * (a0.f0.length : Int)))))) KR KR ?_; intro ax hax; exact HK _ _ _ hax rfl (Below.refl _ _)
                    · skip
                      intro a wr hn hd HW hs; have ha := hasNil hn hd
                      have ha := ha.add (seeF hs 33 1 (.int .i64 (t1340.size : Int)) KR KR)
                      have ha := ha.add (seeF hs 38 6 (.int .i64 (IntKind.wrap .i64 (8 + (IntKind.wrap .i64 (8 * (a0.f0.length : Int)))))) KR KR)
                      refine yStep ha 39 KR ?_; intro l_ ha HK
                      refine stepp ha 39 (.bool ((t1340.size : Int) != (IntKind.wrap .i64 (8 + (IntKind.wrap .i64 (8 * (a0.f0.length : Int))))))) KR KR ?_; intro ax hax; exact HK _ _ _ hax rfl (Below.refl _ _)
                    · skip
                      intro a wr hn hd HW hs; have ha := hasNil hn hd
                      have ha := ha.add (seeF hs 39 7 (.bool ((t1340.size : Int) != (IntKind.wrap .i64 (8 + (IntKind.wrap .i64 (8 * (a0.f0.length : Int))))))) KR KR)
                      refine yStep ha 40 KR ?_; intro l_ ha HK
                      refine stepp ha 40 (.bool ((t1340.size : Int) != (IntKind.wrap .i64 (8 + (IntKind.wrap .i64 (8 * (a0.f0.length : Int))))))) KR KR ?_; intro ax hax; exact HK _ _ _ hax rfl (Below.refl _ _)
                    · skip
                      intro a wr hn hd HW hs; have ha := hasNil hn hd
                      have ha := ha.add (seeE hs 5 (.func (.func 13) #[] #[]) KR KR)
                      have ha := ha.add (seeF hs 40 8 (.bool ((t1340.size : Int) != (IntKind.wrap .i64 (8 + (IntKind.wrap .i64 (8 * (a0.f0.length : Int))))))) KR KR)
                      have ha := ha.bool 40 KR (ineq_f hp1365)
                      refine yStep ha 41 KR ?_; intro l_ ha HK
                      refine stepp ha 41 (.func (.func 13) #[] #[]) KR KR ?_; intro ax hax; exact HK _ _ _ hax rfl (Below.refl _ _)
                    · skip
                      intro a wr hn hd HW hs; have ha := hasNil hn hd
                      have ha := ha.add (seeE hs 3 (.string t1340) KR KR)
                      have ha := ha.add (seeF hs 40 8 (.bool ((t1340.size : Int) != (IntKind.wrap .i64 (8 + (IntKind.wrap .i64 (8 * (a0.f0.length : Int))))))) KR KR)
                      have ha := ha.bool 40 KR (ineq_f hp1365)
                      refine yStep ha 42 KR ?_; intro l_ ha HK
                      refine stepp ha 42 (.string t1340) KR KR ?_; intro ax hax; exact HK _ _ _ hax rfl (Below.refl _ _)
                    · skip
                      intro a wr hn hd HW hs; have ha := hasNil hn hd
                      have ha := ha.add (seeF hs 41 9 (.func (.func 13) #[] #[]) KR KR)
                      have ha := ha.add (seeF hs 42 10 (.string t1340) KR KR)
                      have ha := ha.add (seeF hs 40 8 (.bool ((t1340.size : Int) != (IntKind.wrap .i64 (8 + (IntKind.wrap .i64 (8 * (a0.f0.length : Int))))))) KR KR)
                      have ha := ha.bool 40 KR (ineq_f hp1365)
                      refine yStep ha 43 KR ?_; intro l_ ha HK
                      refine stepc ha 43 KR KR (headgatelaw18_ProutReads_1.calls K t1340 0 4 t1366 _ ht1367) ?_; rintro e W1368 ⟨rfl, HX1369⟩
                      refine ⟨_, rfl, ?_⟩; intro ax hax; exact HK _ _ _ hax rfl HX1369.below
                    · skip
                      intro a wr hn hd HW hs; have ha := hasNil hn hd
                      have ha := ha.add (seeE hs 1 (.pointer (some ⟨b1310, 0, none⟩)) KR KR)
                      have ha := ha.add (seeF hs 40 8 (.bool ((t1340.size : Int) != (IntKind.wrap .i64 (8 + (IntKind.wrap .i64 (8 * (a0.f0.length : Int))))))) KR KR)
                      have ha := ha.bool 40 KR (ineq_f hp1365)
                      refine yStep ha 44 KR ?_; intro l_ ha HK
                      refine stepp ha 44 (.pointer (some ⟨b1310, 3, none⟩)) KR KR ?_; intro ax hax; exact HK _ _ _ hax rfl (Below.refl _ _)
                    · skip
                      intro a wr hn hd HW hs; have ha := hasNil hn hd
                      have ha := ha.add (seeF hs 44 12 (.pointer (some ⟨b1310, 3, none⟩)) KR KR)
                      have ha := ha.add (seeF hs 40 8 (.bool ((t1340.size : Int) != (IntKind.wrap .i64 (8 + (IntKind.wrap .i64 (8 * (a0.f0.length : Int))))))) KR KR)
                      have ha := ha.bool 40 KR (ineq_f hp1365)
                      refine yStep ha 45 KR ?_; intro l_ ha HK
                      refine stepl ha 45 (HW.ca (i := 0) (b := b1310) (C := #[.slice A0_0 a0.f0.length c0_0, .int .i64 a0.f1.f0, .string a0.f1.f1, .int .u32 a0.f2, .bool a0.f3]) (T := 27) (fr := (0, 0)) KR) 25 3 (.tmp 44) (.int .u32 a0.f2) rfl KR KR KR ?_; intro ax hax; exact HK _ _ _ hax rfl (Below.refl _ _)
                    · skip
                      intro a wr hn hd HW hs; have ha := hasNil hn hd
                      have ha := ha.add (seeF hs 45 13 (.int .u32 a0.f2) KR KR)
                      have ha := ha.add (seeF hs 40 8 (.bool ((t1340.size : Int) != (IntKind.wrap .i64 (8 + (IntKind.wrap .i64 (8 * (a0.f0.length : Int))))))) KR KR)
                      have ha := ha.bool 40 KR (ineq_f hp1365)
                      refine yStep ha 46 KR ?_; intro l_ ha HK
                      refine stepp ha 46 (.int .u64 (IntKind.wrap .u64 a0.f2)) KR KR ?_; intro ax hax; exact HK _ _ _ hax rfl (Below.refl _ _)
                    · skip
                      intro a wr hn hd HW hs; have ha := hasNil hn hd
                      have ha := ha.add (seeF hs 43 11 (.int .u64 t1366) KR KR)
                      have ha := ha.add (seeF hs 46 14 (.int .u64 (IntKind.wrap .u64 a0.f2)) KR KR)
                      have ha := ha.add (seeF hs 40 8 (.bool ((t1340.size : Int) != (IntKind.wrap .i64 (8 + (IntKind.wrap .i64 (8 * (a0.f0.length : Int))))))) KR KR)
                      have ha := ha.bool 40 KR (ineq_f hp1365)
                      refine yStep ha 47 KR ?_; intro l_ ha HK
                      refine stepp ha 47 (.bool (t1366 != (IntKind.wrap .u64 a0.f2))) KR KR ?_; intro ax hax; exact HK _ _ _ hax rfl (Below.refl _ _)
                    · skip
                      intro a wr hn hd HW hs; have ha := hasNil hn hd
                      have ha := ha.add (seeF hs 40 8 (.bool ((t1340.size : Int) != (IntKind.wrap .i64 (8 + (IntKind.wrap .i64 (8 * (a0.f0.length : Int))))))) KR KR)
                      have ha := ha.bool 40 KR (ineq_f hp1365)
                      have ha := ha.add (seeF hs 47 15 (.bool (t1366 != (IntKind.wrap .u64 a0.f2))) KR KR)
                      refine yStep ha 48 KR ?_; intro l_ ha HK
                      refine stepp ha 48 (.bool (t1366 != (IntKind.wrap .u64 a0.f2))) KR KR ?_; intro ax hax; exact HK _ _ _ hax rfl (Below.refl _ _)
                    · skip
                      intro a wr hn hd HW hs; have ha := hasNil hn hd
                      have ha := ha.add (seeF hs 48 16 (.bool (t1366 != (IntKind.wrap .u64 a0.f2))) KR KR)
                      refine yStep ha 49 KR ?_; intro l_ ha HK
                      refine stepp ha 49 (.bool (t1366 != (IntKind.wrap .u64 a0.f2))) KR KR ?_; intro ax hax; exact HK _ _ _ hax rfl (Below.refl _ _)
                    · skip
                      intro a wr hn hd HW hs; have ha := hasNil hn hd
                      have ha := ha.add (seeE hs 5 (.func (.func 13) #[] #[]) KR KR)
                      have ha := ha.add (seeF hs 49 17 (.bool (t1366 != (IntKind.wrap .u64 a0.f2))) KR KR)
                      have ha := ha.bool 49 KR (ineq_f hp1370)
                      refine yStep ha 50 KR ?_; intro l_ ha HK
                      refine stepp ha 50 (.func (.func 13) #[] #[]) KR KR ?_; intro ax hax; exact HK _ _ _ hax rfl (Below.refl _ _)
                    · skip
                      intro a wr hn hd HW hs; have ha := hasNil hn hd
                      have ha := ha.add (seeE hs 3 (.string t1340) KR KR)
                      have ha := ha.add (seeF hs 49 17 (.bool (t1366 != (IntKind.wrap .u64 a0.f2))) KR KR)
                      have ha := ha.bool 49 KR (ineq_f hp1370)
                      refine yStep ha 51 KR ?_; intro l_ ha HK
                      refine stepp ha 51 (.string t1340) KR KR ?_; intro ax hax; exact HK _ _ _ hax rfl (Below.refl _ _)
                    · skip
                      intro a wr hn hd HW hs; have ha := hasNil hn hd
                      have ha := ha.add (seeF hs 50 18 (.func (.func 13) #[] #[]) KR KR)
                      have ha := ha.add (seeF hs 51 19 (.string t1340) KR KR)
                      have ha := ha.add (seeF hs 49 17 (.bool (t1366 != (IntKind.wrap .u64 a0.f2))) KR KR)
                      have ha := ha.bool 49 KR (ineq_f hp1370)
                      refine yStep ha 52 KR ?_; intro l_ ha HK
                      refine stepc ha 52 KR KR (headgatelaw18_ProutReads_1.calls K t1340 4 4 t1371 _ ht1372) ?_; rintro e W1373 ⟨rfl, HX1374⟩
                      refine ⟨_, rfl, ?_⟩; intro ax hax; exact HK _ _ _ hax rfl HX1374.below
                    · skip
                      intro a wr hn hd HW hs; have ha := hasNil hn hd
                      have ha := ha.add (seeE hs 1 (.pointer (some ⟨b1310, 0, none⟩)) KR KR)
                      have ha := ha.add (seeF hs 49 17 (.bool (t1366 != (IntKind.wrap .u64 a0.f2))) KR KR)
                      have ha := ha.bool 49 KR (ineq_f hp1370)
                      refine yStep ha 53 KR ?_; intro l_ ha HK
                      refine stepp ha 53 (.pointer (some ⟨b1310, 0, none⟩)) KR KR ?_; intro ax hax; exact HK _ _ _ hax rfl (Below.refl _ _)
                    · skip
                      intro a wr hn hd HW hs; have ha := hasNil hn hd
                      have ha := ha.add (seeF hs 53 21 (.pointer (some ⟨b1310, 0, none⟩)) KR KR)
                      have ha := ha.add (seeF hs 49 17 (.bool (t1366 != (IntKind.wrap .u64 a0.f2))) KR KR)
                      have ha := ha.bool 49 KR (ineq_f hp1370)
                      refine yStep ha 54 KR ?_; intro l_ ha HK
                      refine stepl ha 54 (HW.ca (i := 0) (b := b1310) (C := #[.slice A0_0 a0.f0.length c0_0, .int .i64 a0.f1.f0, .string a0.f1.f1, .int .u32 a0.f2, .bool a0.f3]) (T := 27) (fr := (0, 0)) KR) 22 0 (.tmp 53) (.slice A0_0 a0.f0.length c0_0) rfl KR KR KR ?_; intro ax hax; exact HK _ _ _ hax rfl (Below.refl _ _)
                    · skip
                      intro a wr hn hd HW hs; have ha := hasNil hn hd
                      have ha := ha.add (seeF hs 54 22 (.slice A0_0 a0.f0.length c0_0) KR KR)
                      have ha := ha.add (seeF hs 49 17 (.bool (t1366 != (IntKind.wrap .u64 a0.f2))) KR KR)
                      have ha := ha.bool 49 KR (ineq_f hp1370)
                      refine yStep ha 55 KR ?_; intro l_ ha HK
                      refine stepp ha 55 (.int .i64 (a0.f0.length : Int)) KR KR ?_; intro ax hax; exact HK _ _ _ hax rfl (Below.refl _ _)
                    · skip
                      intro a wr hn hd HW hs; have ha := hasNil hn hd
                      have ha := ha.add (seeF hs 55 23 (.int .i64 (a0.f0.length : Int)) KR KR)
                      have ha := ha.add (seeF hs 49 17 (.bool (t1366 != (IntKind.wrap .u64 a0.f2))) KR KR)
                      have ha := ha.bool 49 KR (ineq_f hp1370)
                      refine yStep ha 56 KR ?_; intro l_ ha HK
                      refine stepp ha 56 (.int .i64 (IntKind.wrap .i64 (8 * (a0.f0.length : Int)))) KR KR ?_; intro ax hax; exact HK _ _ _ hax rfl (Below.refl _ _)
                    · skip
                      intro a wr hn hd HW hs; have ha := hasNil hn hd
                      have ha := ha.add (seeF hs 56 24 (.int .i64 (IntKind.wrap .i64 (8 * (a0.f0.length : Int)))) KR KR)
                      have ha := ha.add (seeF hs 49 17 (.bool (t1366 != (IntKind.wrap .u64 a0.f2))) KR KR)
                      have ha := ha.bool 49 KR (ineq_f hp1370)
                      refine yStep ha 57 KR ?_; intro l_ ha HK
                      refine stepp ha 57 (.int .u64 (IntKind.wrap .u64 (IntKind.wrap .i64 (8 * (a0.f0.length : Int))))) KR KR ?_; intro ax hax; exact HK _ _ _ hax rfl (Below.refl _ _)
                    · skip
                      intro a wr hn hd HW hs; have ha := hasNil hn hd
                      have ha := ha.add (seeF hs 52 20 (.int .u64 t1371) KR KR)
                      have ha := ha.add (seeF hs 57 25 (.int .u64 (IntKind.wrap .u64 (IntKind.wrap .i64 (8 * (a0.f0.length : Int))))) KR KR)
                      have ha := ha.add (seeF hs 49 17 (.bool (t1366 != (IntKind.wrap .u64 a0.f2))) KR KR)
                      have ha := ha.bool 49 KR (ineq_f hp1370)
                      refine yStep ha 58 KR ?_; intro l_ ha HK
                      refine stepp ha 58 (.bool (t1371 != (IntKind.wrap .u64 (IntKind.wrap .i64 (8 * (a0.f0.length : Int)))))) KR KR ?_; intro ax hax; exact HK _ _ _ hax rfl (Below.refl _ _)
                    · skip
                      intro a wr hn hd HW hs; have ha := hasNil hn hd
                      have ha := ha.add (seeF hs 49 17 (.bool (t1366 != (IntKind.wrap .u64 a0.f2))) KR KR)
                      have ha := ha.bool 49 KR (ineq_f hp1370)
                      have ha := ha.add (seeF hs 58 26 (.bool (t1371 != (IntKind.wrap .u64 (IntKind.wrap .i64 (8 * (a0.f0.length : Int)))))) KR KR)
                      refine yStep ha 59 KR ?_; intro l_ ha HK
                      refine stepp ha 59 (.bool (t1371 != (IntKind.wrap .u64 (IntKind.wrap .i64 (8 * (a0.f0.length : Int)))))) KR KR ?_; intro ax hax; exact HK _ _ _ hax rfl (Below.refl _ _)
                    · skip
                      intro a wr hn hd HW hs; have ha := hasNil hn hd
                      have ha := ha.add (seeF hs 59 27 (.bool (t1371 != (IntKind.wrap .u64 (IntKind.wrap .i64 (8 * (a0.f0.length : Int)))))) KR KR)
                      refine yStep ha 60 KR ?_; intro l_ ha HK
                      refine stepp ha 60 (.bool (t1371 != (IntKind.wrap .u64 (IntKind.wrap .i64 (8 * (a0.f0.length : Int)))))) KR KR ?_; intro ax hax; exact HK _ _ _ hax rfl (Below.refl _ _)
                    · skip
                      intro a wr hn hd HW hs; have ha := hasNil hn hd
                      have ha := ha.add (seeE hs 4 (.string t1354) KR KR)
                      have ha := ha.add (seeF hs 60 28 (.bool (t1371 != (IntKind.wrap .u64 (IntKind.wrap .i64 (8 * (a0.f0.length : Int)))))) KR KR)
                      have ha := ha.bool 60 KR (ineq_f hp1375)
                      refine yStep ha 61 KR ?_; intro l_ ha HK
                      refine stepp ha 61 (.string t1354) KR KR ?_; intro ax hax; exact HK _ _ _ hax rfl (Below.refl _ _)
                    · skip
                      intro a wr hn hd HW hs; have ha := hasNil hn hd
                      have ha := ha.add (seeF hs 61 29 (.string t1354) KR KR)
                      have ha := ha.add (seeF hs 60 28 (.bool (t1371 != (IntKind.wrap .u64 (IntKind.wrap .i64 (8 * (a0.f0.length : Int)))))) KR KR)
                      have ha := ha.bool 60 KR (ineq_f hp1375)
                      refine yStep ha 62 KR ?_; intro l_ ha HK
                      refine stepp ha 62 (.int .i64 (t1354.size : Int)) KR KR ?_; intro ax hax; exact HK _ _ _ hax rfl (Below.refl _ _)
                    · skip
                      intro a wr hn hd HW hs; have ha := hasNil hn hd
                      have ha := ha.add (seeF hs 62 30 (.int .i64 (t1354.size : Int)) KR KR)
                      have ha := ha.add (seeF hs 60 28 (.bool (t1371 != (IntKind.wrap .u64 (IntKind.wrap .i64 (8 * (a0.f0.length : Int)))))) KR KR)
                      have ha := ha.bool 60 KR (ineq_f hp1375)
                      refine yStep ha 63 KR ?_; intro l_ ha HK
                      refine stepp ha 63 (.bool (decide ((t1354.size : Int) < 8))) KR KR ?_; intro ax hax; exact HK _ _ _ hax rfl (Below.refl _ _)
                    · skip
                      intro a wr hn hd HW hs; have ha := hasNil hn hd
                      have ha := ha.add (seeF hs 60 28 (.bool (t1371 != (IntKind.wrap .u64 (IntKind.wrap .i64 (8 * (a0.f0.length : Int)))))) KR KR)
                      have ha := ha.bool 60 KR (ineq_f hp1375)
                      have ha := ha.add (seeF hs 63 31 (.bool (decide ((t1354.size : Int) < 8))) KR KR)
                      refine yStep ha 64 KR ?_; intro l_ ha HK
                      refine stepp ha 64 (.bool (decide ((t1354.size : Int) < 8))) KR KR ?_; intro ax hax; exact HK _ _ _ hax rfl (Below.refl _ _)
                    · skip
                      intro a wr hn hd HW hs; have ha := hasNil hn hd
                      have ha := ha.add (seeF hs 64 32 (.bool (decide ((t1354.size : Int) < 8))) KR KR)
                      refine yStep ha 65 KR ?_; intro l_ ha HK
                      refine stepp ha 65 (.bool (decide ((t1354.size : Int) < 8))) KR KR ?_; intro ax hax; exact HK _ _ _ hax rfl (Below.refl _ _)
                    · skip
                      intro a wr hn hd HW hs; have ha := hasNil hn hd
                      have ha := ha.add (seeE hs 5 (.func (.func 13) #[] #[]) KR KR)
                      have ha := ha.add (seeF hs 65 33 (.bool (decide ((t1354.size : Int) < 8))) KR KR)
                      have ha := ha.bool 65 KR (decide_eq_false hp1376)
                      refine yStep ha 66 KR ?_; intro l_ ha HK
                      refine stepp ha 66 (.func (.func 13) #[] #[]) KR KR ?_; intro ax hax; exact HK _ _ _ hax rfl (Below.refl _ _)
                    · skip
                      intro a wr hn hd HW hs; have ha := hasNil hn hd
                      have ha := ha.add (seeE hs 4 (.string t1354) KR KR)
                      have ha := ha.add (seeF hs 65 33 (.bool (decide ((t1354.size : Int) < 8))) KR KR)
                      have ha := ha.bool 65 KR (decide_eq_false hp1376)
                      refine yStep ha 67 KR ?_; intro l_ ha HK
                      refine stepp ha 67 (.string t1354) KR KR ?_; intro ax hax; exact HK _ _ _ hax rfl (Below.refl _ _)
                    · skip
                      intro a wr hn hd HW hs; have ha := hasNil hn hd
                      have ha := ha.add (seeF hs 66 34 (.func (.func 13) #[] #[]) KR KR)
                      have ha := ha.add (seeF hs 67 35 (.string t1354) KR KR)
                      have ha := ha.add (seeF hs 65 33 (.bool (decide ((t1354.size : Int) < 8))) KR KR)
                      have ha := ha.bool 65 KR (decide_eq_false hp1376)
                      refine yStep ha 68 KR ?_; intro l_ ha HK
                      refine stepc ha 68 KR KR (headgatelaw18_ProutReads_1.calls K t1354 0 4 t1378 _ ht1379) ?_; rintro e W1380 ⟨rfl, HX1381⟩
                      refine ⟨_, rfl, ?_⟩; intro ax hax; exact HK _ _ _ hax rfl HX1381.below
                    · skip
                      intro a wr hn hd HW hs; have ha := hasNil hn hd
                      have ha := ha.add (seeE hs 1 (.pointer (some ⟨b1310, 0, none⟩)) KR KR)
                      have ha := ha.add (seeF hs 65 33 (.bool (decide ((t1354.size : Int) < 8))) KR KR)
                      have ha := ha.bool 65 KR (decide_eq_false hp1376)
                      refine yStep ha 69 KR ?_; intro l_ ha HK
                      refine stepp ha 69 (.pointer (some ⟨b1310, 3, none⟩)) KR KR ?_; intro ax hax; exact HK _ _ _ hax rfl (Below.refl _ _)
                    · skip
                      intro a wr hn hd HW hs; have ha := hasNil hn hd
                      have ha := ha.add (seeF hs 69 37 (.pointer (some ⟨b1310, 3, none⟩)) KR KR)
                      have ha := ha.add (seeF hs 65 33 (.bool (decide ((t1354.size : Int) < 8))) KR KR)
                      have ha := ha.bool 65 KR (decide_eq_false hp1376)
                      refine yStep ha 70 KR ?_; intro l_ ha HK
                      refine stepl ha 70 (HW.ca (i := 0) (b := b1310) (C := #[.slice A0_0 a0.f0.length c0_0, .int .i64 a0.f1.f0, .string a0.f1.f1, .int .u32 a0.f2, .bool a0.f3]) (T := 27) (fr := (0, 0)) KR) 25 3 (.tmp 69) (.int .u32 a0.f2) rfl KR KR KR ?_; intro ax hax; exact HK _ _ _ hax rfl (Below.refl _ _)
                    · skip
                      intro a wr hn hd HW hs; have ha := hasNil hn hd
                      have ha := ha.add (seeF hs 70 38 (.int .u32 a0.f2) KR KR)
                      have ha := ha.add (seeF hs 65 33 (.bool (decide ((t1354.size : Int) < 8))) KR KR)
                      have ha := ha.bool 65 KR (decide_eq_false hp1376)
                      refine yStep ha 71 KR ?_; intro l_ ha HK
                      refine stepp ha 71 (.int .u64 (IntKind.wrap .u64 a0.f2)) KR KR ?_; intro ax hax; exact HK _ _ _ hax rfl (Below.refl _ _)
                    · skip
                      intro a wr hn hd HW hs; have ha := hasNil hn hd
                      have ha := ha.add (seeF hs 68 36 (.int .u64 t1378) KR KR)
                      have ha := ha.add (seeF hs 71 39 (.int .u64 (IntKind.wrap .u64 a0.f2)) KR KR)
                      have ha := ha.add (seeF hs 65 33 (.bool (decide ((t1354.size : Int) < 8))) KR KR)
                      have ha := ha.bool 65 KR (decide_eq_false hp1376)
                      refine yStep ha 72 KR ?_; intro l_ ha HK
                      refine stepp ha 72 (.bool (t1378 != (IntKind.wrap .u64 a0.f2))) KR KR ?_; intro ax hax; exact HK _ _ _ hax rfl (Below.refl _ _)
                    · skip
                      intro a wr hn hd HW hs; have ha := hasNil hn hd
                      have ha := ha.add (seeF hs 65 33 (.bool (decide ((t1354.size : Int) < 8))) KR KR)
                      have ha := ha.bool 65 KR (decide_eq_false hp1376)
                      have ha := ha.add (seeF hs 72 40 (.bool (t1378 != (IntKind.wrap .u64 a0.f2))) KR KR)
                      refine yStep ha 73 KR ?_; intro l_ ha HK
                      refine stepp ha 73 (.bool (t1378 != (IntKind.wrap .u64 a0.f2))) KR KR ?_; intro ax hax; exact HK _ _ _ hax rfl (Below.refl _ _)
                  · skip
                    intro a W1382 ha HW he hf
                    replace ha := ha.add (he 1 (.pointer (some ⟨b1310, 0, none⟩)) KR KR)
                    replace ha := ha.add (he 3 (.string t1340) KR KR)
                    replace ha := ha.add (he 4 (.string t1354) KR KR)
                    replace ha := ha.add (he 5 (.func (.func 13) #[] #[]) KR KR)
                    replace ha := ha.add (gotF (m := 42) (j := 41) (d := 73) (v := .bool (t1378 != (IntKind.wrap .u64 a0.f2))) hf KR KR KR)
                    clear he hf
                    refine endl ?_
                    refine thenN (hK1364 _ _ ?_); clear hK1364
                    by_cases hp1388 : t1378 = (IntKind.wrap .u64 a0.f2)
                    · skip
                      replace h := ite_pos' h hp1388
                      refine condF ha KR KR (t := (t1378 != (IntKind.wrap .u64 a0.f2))) (ineq_f hp1388) ?_
                      refine wp_skip ?_
                      refine thenN (hK1362 _ _ ?_); clear hK1362
                      refine wp_seq_k (fun K1397 hK1398 => ?_)
                      refine wp_seq_k (fun K1399 hK1400 => ?_)
                      refine wp_region_lit ?_
                      refine stepp ha 6 (.int .i64 0) KR KR ?_; clear ha a; intro a ha
                      refine endl ?_
                      refine thenN (hK1400 _ _ ?_); clear hK1400
                      refine wp_block ?_
                      refine loopk (fun k => fun a W1450 => ∃ (x1449 : Int), headgatelaw18_ProutReads.l0 K a0 t1340 t1354 k x1449 = some r ∧ Has 138 [(1, .pointer (some ⟨b1310, 0, none⟩)), (3, .string t1340), (4, .string t1354), (5, .func (.func 13) #[] #[]), (6, .int .i64 x1449)] a ∧ Wd w W1450 [(b1310, .cells #[.slice A0_0 a0.f0.length c0_0, .int .i64 a0.f1.f0, .string a0.f1.f1, .int .u32 a0.f2, .bool a0.f3] 27 (0, 0))] []) K ?_ ?_
                      · skip
                        exact ⟨0, h, ha.sub (subs_cons KR (subs_cons KR (subs_cons KR (subs_cons KR (subs_cons KR (subs_nil _)))))), HW.pick [0] [] (by decide) (by decide) KR KR⟩
                      · skip
                        intro k a W1450 hI
                        obtain ⟨x1449, h, ha, HW⟩ := hI
                        cases k with
                        | zero => exact (none_some (show none = some r from h)).elim
                        | succ k1451 =>
                          replace h : headgatelaw18_ProutReads.b0 K a0 t1340 t1354 (headgatelaw18_ProutReads.l0 K a0 t1340 t1354 k1451) x1449 = some r := h
                          obtain ⟨again1448, hag1452⟩ : ∃ g_, g_ = headgatelaw18_ProutReads.l0 K a0 t1340 t1354 k1451 := ⟨_, rfl⟩
                          rw [← hag1452] at h
                          unfold headgatelaw18_ProutReads.b0 at h
                          refine wp_seq_k (fun K1453 hK1454 => ?_)
                          refine wp_seq_k (fun K1455 hK1456 => ?_)
                          refine wp_region_lit ?_
                          refine stepp ha 74 (.int .i64 x1449) KR KR ?_; clear ha a; intro a ha
                          refine stepp ha 75 (.pointer (some ⟨b1310, 0, none⟩)) KR KR ?_; clear ha a; intro a ha
                          refine stepl ha 76 (HW.ca (i := 0) (b := b1310) (C := #[.slice A0_0 a0.f0.length c0_0, .int .i64 a0.f1.f0, .string a0.f1.f1, .int .u32 a0.f2, .bool a0.f3]) (T := 27) (fr := (0, 0)) KR) 22 0 (.tmp 75) (.slice A0_0 a0.f0.length c0_0) rfl KR KR KR ?_; clear ha a; intro a ha
                          refine stepp ha 77 (.int .i64 (a0.f0.length : Int)) KR KR ?_; clear ha a; intro a ha
                          refine stepp ha 78 (.bool (decide (x1449 < (a0.f0.length : Int)))) KR KR ?_; clear ha a; intro a ha
                          refine endl ?_
                          refine thenN (hK1456 _ _ ?_); clear hK1456
                          by_cases hp1457 : x1449 < (a0.f0.length : Int)
                          · skip
                            replace h := ite_pos' h hp1457
                            refine condT ha KR KR (t := decide (x1449 < (a0.f0.length : Int))) (decide_eq_true hp1457) ?_
                            refine wp_skip ?_
                            refine thenN (hK1454 _ _ ?_); clear hK1454
                            refine wp_seq_k (fun K1458 hK1459 => ?_)
                            refine wp_block ?_
                            refine wp_seq_k (fun K1460 hK1461 => ?_)
                            obtain ⟨t1462, ht1463, h_⟩ := bind_some' h; clear h; have h := h_; clear h_
                            obtain ⟨hA1466, h_⟩ := asrt_some h; clear h; have h := h_; clear h_
                            obtain ⟨b1468, off1469, hA1470⟩ := Rd.addr ((HW.rd0 hr0_0)) hA1466 (show (x1449 : Int) < ((a0.f0).length : Int) from hp1457)
                            refine regionG 13 KR KR ha HW [.fix (.func (.func 13) #[] #[]), .fix (.string t1340), .fix (.int .i64 x1449), .fix (.int .i64 (IntKind.wrap .i64 (8 * x1449))), .fix (.int .i64 (IntKind.wrap .i64 (8 + (IntKind.wrap .i64 (8 * x1449))))), .fix (.int .u64 t1462), .fix (.pointer (some ⟨b1310, 0, none⟩)), .fix (.slice A0_0 a0.f0.length c0_0), .fix (.int .i64 x1449), .fix (.pointer (some ⟨b1468, off1469 + (x1449 : Int).toNat * 2, none⟩)), .fix (.pointer (some ⟨b1468, off1469 + (x1449 : Int).toNat * 2 + 1, none⟩)), .fix (.int .u64 ((rdL T_api_Reg.z a0.f0 x1449).f1)), .fix (.bool (t1462 != ((rdL T_api_Reg.z a0.f0 x1449).f1)))] ?_ ?_
                            · skip
                              refine ⟨?_, ?_, ?_, ?_, ?_, ?_, ?_, ?_, ?_, ?_, ?_, ?_, ?_, trivial⟩
                              · skip
                                intro a wr hn hd HW hs; have ha := hasNil hn hd
                                have ha := ha.add (seeE hs 5 (.func (.func 13) #[] #[]) KR KR)
                                refine yStep ha 81 KR ?_; intro l_ ha HK
                                refine stepp ha 81 (.func (.func 13) #[] #[]) KR KR ?_; intro ax hax; exact HK _ _ _ hax rfl (Below.refl _ _)
                              · skip
                                intro a wr hn hd HW hs; have ha := hasNil hn hd
                                have ha := ha.add (seeE hs 3 (.string t1340) KR KR)
                                refine yStep ha 82 KR ?_; intro l_ ha HK
                                refine stepp ha 82 (.string t1340) KR KR ?_; intro ax hax; exact HK _ _ _ hax rfl (Below.refl _ _)
                              · skip
                                intro a wr hn hd HW hs; have ha := hasNil hn hd
                                have ha := ha.add (seeE hs 6 (.int .i64 x1449) KR KR)
                                refine yStep ha 83 KR ?_; intro l_ ha HK
                                refine stepp ha 83 (.int .i64 x1449) KR KR ?_; intro ax hax; exact HK _ _ _ hax rfl (Below.refl _ _)
                              · skip
                                intro a wr hn hd HW hs; have ha := hasNil hn hd
                                have ha := ha.add (seeF hs 83 2 (.int .i64 x1449) KR KR)
                                refine yStep ha 84 KR ?_; intro l_ ha HK
                                refine stepp ha 84 (.int .i64 (IntKind.wrap .i64 (8 * x1449))) KR KR ?_; intro ax hax; exact HK _ _ _ hax rfl (Below.refl _ _)
                              · skip
                                intro a wr hn hd HW hs; have ha := hasNil hn hd
                                have ha := ha.add (seeF hs 84 3 (.int .i64 (IntKind.wrap .i64 (8 * x1449))) KR KR)
                                refine yStep ha 85 KR ?_; intro l_ ha HK
                                refine stepp ha 85 (.int .i64 (IntKind.wrap .i64 (8 + (IntKind.wrap .i64 (8 * x1449))))) KR KR ?_; intro ax hax; exact HK _ _ _ hax rfl (Below.refl _ _)
                              · skip
                                intro a wr hn hd HW hs; have ha := hasNil hn hd
                                have ha := ha.add (seeF hs 81 0 (.func (.func 13) #[] #[]) KR KR)
                                have ha := ha.add (seeF hs 82 1 (.string t1340) KR KR)
                                have ha := ha.add (seeF hs 85 4 (.int .i64 (IntKind.wrap .i64 (8 + (IntKind.wrap .i64 (8 * x1449))))) KR KR)
                                refine yStep ha 86 KR ?_; intro l_ ha HK
                                refine stepc ha 86 KR KR (headgatelaw18_ProutReads_1.calls K t1340 (IntKind.wrap .i64 (8 + (IntKind.wrap .i64 (8 * x1449)))) 8 t1462 _ ht1463) ?_; rintro e W1464 ⟨rfl, HX1465⟩
                                refine ⟨_, rfl, ?_⟩; intro ax hax; exact HK _ _ _ hax rfl HX1465.below
                              · skip
                                intro a wr hn hd HW hs; have ha := hasNil hn hd
                                have ha := ha.add (seeE hs 1 (.pointer (some ⟨b1310, 0, none⟩)) KR KR)
                                refine yStep ha 87 KR ?_; intro l_ ha HK
                                refine stepp ha 87 (.pointer (some ⟨b1310, 0, none⟩)) KR KR ?_; intro ax hax; exact HK _ _ _ hax rfl (Below.refl _ _)
                              · skip
                                intro a wr hn hd HW hs; have ha := hasNil hn hd
                                have ha := ha.add (seeF hs 87 6 (.pointer (some ⟨b1310, 0, none⟩)) KR KR)
                                refine yStep ha 88 KR ?_; intro l_ ha HK
                                refine stepl ha 88 (HW.ca (i := 0) (b := b1310) (C := #[.slice A0_0 a0.f0.length c0_0, .int .i64 a0.f1.f0, .string a0.f1.f1, .int .u32 a0.f2, .bool a0.f3]) (T := 27) (fr := (0, 0)) KR) 22 0 (.tmp 87) (.slice A0_0 a0.f0.length c0_0) rfl KR KR KR ?_; intro ax hax; exact HK _ _ _ hax rfl (Below.refl _ _)
                              · skip
                                intro a wr hn hd HW hs; have ha := hasNil hn hd
                                have ha := ha.add (seeE hs 6 (.int .i64 x1449) KR KR)
                                refine yStep ha 89 KR ?_; intro l_ ha HK
                                refine stepp ha 89 (.int .i64 x1449) KR KR ?_; intro ax hax; exact HK _ _ _ hax rfl (Below.refl _ _)
                              · skip
                                intro a wr hn hd HW hs; have ha := hasNil hn hd
                                have ha := ha.add (seeF hs 88 7 (.slice A0_0 a0.f0.length c0_0) KR KR)
                                have ha := ha.add (seeF hs 89 8 (.int .i64 x1449) KR KR)
                                replace ha := ha.turn 88 (u := .slice A0_0 a0.f0.length c0_0) (v := .slice (some ⟨b1468, off1469, none⟩) a0.f0.length c0_0) KR (by rw [hA1470])
                                refine yStep ha 90 KR ?_; intro l_ ha HK
                                refine stepif ha 90 (sz := 2) (len := a0.f0.length) (b := b1468) (off := off1469) (c := c0_0) 22 36 (.tmp 88) (.tmp 89) .i64 x1449 rfl KR KR KR KR hA1466 (show (x1449 : Int) < ((a0.f0).length : Int) from hp1457) KR ?_; intro ax hax; exact HK _ _ _ hax rfl (Below.refl _ _)
                              · skip
                                intro a wr hn hd HW hs; have ha := hasNil hn hd
                                have ha := ha.add (seeF hs 90 9 (.pointer (some ⟨b1468, off1469 + (x1449 : Int).toNat * 2, none⟩)) KR KR)
                                refine yStep ha 91 KR ?_; intro l_ ha HK
                                refine stepp ha 91 (.pointer (some ⟨b1468, off1469 + (x1449 : Int).toNat * 2 + 1, none⟩)) KR KR ?_; intro ax hax; exact HK _ _ _ hax rfl (Below.refl _ _)
                              · skip
                                intro a wr hn hd HW hs; have ha := hasNil hn hd
                                have ha := ha.add (seeF hs 91 10 (.pointer (some ⟨b1468, off1469 + (x1449 : Int).toNat * 2 + 1, none⟩)) KR KR)
                                refine yStep ha 92 KR ?_; intro l_ ha HK
                                refine stepl ha 92 (Rd.ca T_api_Reg.enc T_api_Reg.z (fun _ => rfl) (by have h_ := ((HW.rd0 hr0_0)); rw [hA1470] at h_; exact h_) hA1466 (show (x1449 : Int) < ((a0.f0).length : Int) from hp1457)) 32 1 (.tmp 91) (.int .u64 ((rdL T_api_Reg.z a0.f0 x1449).f1)) rfl KR KR KR ?_; intro ax hax; exact HK _ _ _ hax rfl (Below.refl _ _)
                              · skip
                                intro a wr hn hd HW hs; have ha := hasNil hn hd
                                have ha := ha.add (seeF hs 86 5 (.int .u64 t1462) KR KR)
                                have ha := ha.add (seeF hs 92 11 (.int .u64 ((rdL T_api_Reg.z a0.f0 x1449).f1)) KR KR)
                                refine yStep ha 93 KR ?_; intro l_ ha HK
                                refine stepp ha 93 (.bool (t1462 != ((rdL T_api_Reg.z a0.f0 x1449).f1))) KR KR ?_; intro ax hax; exact HK _ _ _ hax rfl (Below.refl _ _)
                            · skip
                              intro a W1471 ha HW he hf
                              replace ha := ha.add (he 1 (.pointer (some ⟨b1310, 0, none⟩)) KR KR)
                              replace ha := ha.add (he 3 (.string t1340) KR KR)
                              replace ha := ha.add (he 4 (.string t1354) KR KR)
                              replace ha := ha.add (he 5 (.func (.func 13) #[] #[]) KR KR)
                              replace ha := ha.add (he 6 (.int .i64 x1449) KR KR)
                              replace ha := ha.add (gotF (m := 13) (j := 12) (d := 93) (v := .bool (t1462 != ((rdL T_api_Reg.z a0.f0 x1449).f1))) hf KR KR KR)
                              clear he hf
                              refine endl ?_
                              refine thenN (hK1461 _ _ ?_); clear hK1461
                              by_cases hp1472 : t1462 = ((rdL T_api_Reg.z a0.f0 x1449).f1)
                              · skip
                                replace h := ite_pos' h hp1472
                                refine condF ha KR KR (t := (t1462 != ((rdL T_api_Reg.z a0.f0 x1449).f1))) (ineq_f hp1472) ?_
                                refine wp_skip ?_
                                refine blkN ?_
                                refine thenN (hK1459 _ _ ?_); clear hK1459
                                refine wp_region_lit ?_
                                refine stepp ha 79 (.int .i64 x1449) KR KR ?_; clear ha a; intro a ha
                                refine stepp ha 80 (.int .i64 (IntKind.wrap .i64 (x1449 + 1))) KR KR ?_; clear ha a; intro a ha
                                refine stepp ha 6 (.int .i64 (IntKind.wrap .i64 (x1449 + 1))) KR KR ?_; clear ha a; intro a ha
                                refine endl ?_
                                exact thenN ⟨k1451, Nat.lt_succ_self k1451, IntKind.wrap .i64 (x1449 + 1), (by rw [← hag1452]; exact h), ha.sub (subs_cons KR (subs_cons KR (subs_cons KR (subs_cons KR (subs_cons KR (subs_nil _)))))), HW.pick [0] [] (by decide) (by decide) KR KR⟩
                              · skip
                                replace h := ite_neg' h hp1472
                                refine condT ha KR KR (t := (t1462 != ((rdL T_api_Reg.z a0.f0 x1449).f1))) (ineq_t hp1472) ?_
                                refine wp_seq_k (fun K1473 hK1474 => ?_)
                                refine wp_region_lit ?_
                                refine stepp ha 2 (.bool false) KR KR ?_; clear ha a; intro a ha
                                refine endl ?_
                                refine thenN (hK1474 _ _ ?_); clear hK1474
                                refine wp_ret ?_
                                refine blkR ?_
                                refine thenR ?_
                                refine thenR ?_
                                refine blkR ?_
                                refine thenR ?_
                                obtain rfl := Option.some.inj h
                                exact finv ha _ _ rfl (.tmp (v := .bool false) KR .nil) (.bool false) rfl ⟨rfl, HW.pick [] [] (by decide) (by decide) rfl KR⟩
                          · skip
                            replace h := ite_neg' h hp1457
                            refine condF ha KR KR (t := decide (x1449 < (a0.f0.length : Int))) (decide_eq_false hp1457) ?_
                            refine wp_exit ?_
                            refine thenE ?_
                            refine thenE ?_
                            refine inBlk ?_
                            refine thenN (hK1398 _ _ ?_); clear hK1398
                            refine wp_seq_k (fun K1475 hK1476 => ?_)
                            refine wp_seq_k (fun K1477 hK1478 => ?_)
                            refine cutn (fun a W1481 => ∃ (x1480 : Bool), headgatelaw18_ProutReads.j1 K a0 t1354 x1480 = some r ∧ Has 138 [(1, .pointer (some ⟨b1310, 0, none⟩)), (4, .string t1354), (5, .func (.func 13) #[] #[]), (103, .bool x1480)] a ∧ Wd w W1481 [(b1310, .cells #[.slice A0_0 a0.f0.length c0_0, .int .i64 a0.f1.f0, .string a0.f1.f1, .int .u32 a0.f2, .bool a0.f3] 27 (0, 0))] []) ?_ ?_
                            · skip
                              refine wp_region_lit ?_
                              refine stepp ha 94 (.pointer (some ⟨b1310, 1, none⟩)) KR KR ?_; clear ha a; intro a ha
                              refine stepp ha 95 (.pointer (some ⟨b1310, 1, none⟩)) KR KR ?_; clear ha a; intro a ha
                              refine stepl ha 96 (HW.ca (i := 0) (b := b1310) (C := #[.slice A0_0 a0.f0.length c0_0, .int .i64 a0.f1.f0, .string a0.f1.f1, .int .u32 a0.f2, .bool a0.f3]) (T := 27) (fr := (0, 0)) KR) 3 1 (.tmp 95) (.int .i64 a0.f1.f0) rfl KR KR KR ?_; clear ha a; intro a ha
                              refine stepp ha 97 (.bool (decide (a0.f1.f0 < 1))) KR KR ?_; clear ha a; intro a ha
                              refine stepp ha 98 (.bool (decide (a0.f1.f0 < 1))) KR KR ?_; clear ha a; intro a ha
                              by_cases hp1479 : a0.f1.f0 < 1
                              · skip
                                replace h := ite_pos' h hp1479
                                replace ha := ha.bool 98 KR (decide_eq_true hp1479)
                                refine stepo ha 99 KR ?_; clear ha a; intro a ha
                                refine stepo ha 100 KR ?_; clear ha a; intro a ha
                                refine stepo ha 101 KR ?_; clear ha a; intro a ha
                                refine stepo ha 102 KR ?_; clear ha a; intro a ha
                                refine stepp ha 103 (.bool true) KR KR ?_; clear ha a; intro a ha
                                refine endl ?_
                                exact thenN ⟨true, h, ha.sub (subs_cons KR (subs_cons KR (subs_cons KR (subs_cons KR (subs_nil _))))), HW.pick [0] [] (by decide) (by decide) KR KR⟩
                              · skip
                                replace h := ite_neg' h hp1479
                                replace ha := ha.bool 98 KR (decide_eq_false hp1479)
                                refine stepp ha 99 (.pointer (some ⟨b1310, 1, none⟩)) KR KR ?_; clear ha a; intro a ha
                                refine stepp ha 100 (.pointer (some ⟨b1310, 1, none⟩)) KR KR ?_; clear ha a; intro a ha
                                refine stepl ha 101 (HW.ca (i := 0) (b := b1310) (C := #[.slice A0_0 a0.f0.length c0_0, .int .i64 a0.f1.f0, .string a0.f1.f1, .int .u32 a0.f2, .bool a0.f3]) (T := 27) (fr := (0, 0)) KR) 3 1 (.tmp 100) (.int .i64 a0.f1.f0) rfl KR KR KR ?_; clear ha a; intro a ha
                                refine stepp ha 102 (.bool (decide (a0.f1.f0 > 6))) KR KR ?_; clear ha a; intro a ha
                                refine stepp ha 103 (.bool (decide (a0.f1.f0 > 6))) KR KR ?_; clear ha a; intro a ha
                                refine endl ?_
                                exact thenN ⟨decide (a0.f1.f0 > 6), h, ha.sub (subs_cons KR (subs_cons KR (subs_cons KR (subs_cons KR (subs_nil _))))), HW.pick [0] [] (by decide) (by decide) KR KR⟩
                            · skip
                              intro a W1481 hJ
                              obtain ⟨x1480, h, ha, HW⟩ := hJ
                              replace h : headgatelaw18_ProutReads.j1 K a0 t1354 x1480 = some r := h
                              unfold headgatelaw18_ProutReads.j1 at h
                              refine hK1478 _ _ ?_; clear hK1478
                              by_cases hp1482 : x1480 = true
                              · skip
                                replace h := ite_pos' h hp1482
                                refine condT ha KR KR (t := x1480) (hp1482) ?_
                                refine wp_seq_k (fun K1483 hK1484 => ?_)
                                refine wp_region_lit ?_
                                refine stepp ha 104 (.string t1354) KR KR ?_; clear ha a; intro a ha
                                refine stepp ha 105 (.int .i64 (t1354.size : Int)) KR KR ?_; clear ha a; intro a ha
                                refine stepp ha 106 (.bool ((t1354.size : Int) == 8)) KR KR ?_; clear ha a; intro a ha
                                refine stepp ha 107 (.bool ((t1354.size : Int) == 8)) KR KR ?_; clear ha a; intro a ha
                                by_cases hp1485 : (t1354.size : Int) = 8
                                · skip
                                  replace h := ite_pos' h hp1485
                                  replace ha := ha.bool 107 KR (ieq_t hp1485)
                                  refine stepp ha 108 (.func (.func 13) #[] #[]) KR KR ?_; clear ha a; intro a ha
                                  refine stepp ha 109 (.string t1354) KR KR ?_; clear ha a; intro a ha
                                  obtain ⟨t1486, ht1487, h_⟩ := bind_some' h; clear h; have h := h_; clear h_
                                  refine stepc ha 110 KR KR (headgatelaw18_ProutReads_1.calls K t1354 4 4 t1486 _ ht1487) ?_; clear ha a; rintro e W1488 ⟨rfl, HX1489⟩
                                  refine ⟨_, rfl, ?_⟩; intro a ha; replace HW := HW.callw HX1489; clear HX1489
                                  refine stepp ha 111 (.bool (t1486 == 0)) KR KR ?_; clear ha a; intro a ha
                                  refine stepp ha 112 (.bool (t1486 == 0)) KR KR ?_; clear ha a; intro a ha
                                  refine stepp ha 113 (.bool (t1486 == 0)) KR KR ?_; clear ha a; intro a ha
                                  by_cases hp1490 : t1486 = 0
                                  · skip
                                    replace h := ite_pos' h hp1490
                                    replace ha := ha.bool 113 KR (ieq_t hp1490)
                                    obtain ⟨t1491, ht1492, h_⟩ := bind_some' h; clear h; have h := h_; clear h_
                                    refine stepc ha 114 KR KR (headgatelaw18_wakes.calls K t1491 _ ht1492) ?_; clear ha a; rintro e W1493 ⟨rfl, HX1494⟩
                                    refine ⟨_, rfl, ?_⟩; intro a ha; replace HW := HW.callw HX1494; clear HX1494
                                    refine stepp ha 115 (.bool t1491) KR KR ?_; clear ha a; intro a ha
                                    refine stepp ha 2 (.bool t1491) KR KR ?_; clear ha a; intro a ha
                                    refine endl ?_
                                    refine thenN (hK1484 _ _ ?_); clear hK1484
                                    refine wp_ret ?_
                                    refine thenR ?_
                                    obtain rfl := Option.some.inj h
                                    exact finv ha _ _ rfl (.tmp (v := .bool t1491) KR .nil) (.bool t1491) rfl ⟨rfl, HW.pick [] [] (by decide) (by decide) rfl KR⟩
                                  · skip
                                    replace h := ite_neg' h hp1490
                                    replace ha := ha.bool 113 KR (ieq_f hp1490)
                                    refine stepo ha 114 KR ?_; clear ha a; intro a ha
                                    refine stepp ha 115 (.bool false) KR KR ?_; clear ha a; intro a ha
                                    refine stepp ha 2 (.bool false) KR KR ?_; clear ha a; intro a ha
                                    refine endl ?_
                                    refine thenN (hK1484 _ _ ?_); clear hK1484
                                    refine wp_ret ?_
                                    refine thenR ?_
                                    obtain rfl := Option.some.inj h
                                    exact finv ha _ _ rfl (.tmp (v := .bool false) KR .nil) (.bool false) rfl ⟨rfl, HW.pick [] [] (by decide) (by decide) rfl KR⟩
                                · skip
                                  replace h := ite_neg' h hp1485
                                  replace ha := ha.bool 107 KR (ieq_f hp1485)
                                  refine stepo ha 108 KR ?_; clear ha a; intro a ha
                                  refine stepo ha 109 KR ?_; clear ha a; intro a ha
                                  refine stepo ha 110 KR ?_; clear ha a; intro a ha
                                  refine stepo ha 111 KR ?_; clear ha a; intro a ha
                                  refine stepp ha 112 (.bool false) KR KR ?_; clear ha a; intro a ha
                                  refine stepp ha 113 (.bool false) KR KR ?_; clear ha a; intro a ha
                                  refine stepo ha 114 KR ?_; clear ha a; intro a ha
                                  refine stepp ha 115 (.bool false) KR KR ?_; clear ha a; intro a ha
                                  refine stepp ha 2 (.bool false) KR KR ?_; clear ha a; intro a ha
                                  refine endl ?_
                                  refine thenN (hK1484 _ _ ?_); clear hK1484
                                  refine wp_ret ?_
                                  refine thenR ?_
                                  obtain rfl := Option.some.inj h
                                  exact finv ha _ _ rfl (.tmp (v := .bool false) KR .nil) (.bool false) rfl ⟨rfl, HW.pick [] [] (by decide) (by decide) rfl KR⟩
                              · skip
                                replace h := ite_neg' h hp1482
                                refine condF ha KR KR (t := x1480) (bool_f hp1482) ?_
                                refine wp_skip ?_
                                refine thenN (hK1476 _ _ ?_); clear hK1476
                                refine wp_seq_k (fun K1495 hK1496 => ?_)
                                by_cases hp1497 : (t1354.size : Int) = 24
                                · skip
                                  replace h := ite_pos' h hp1497
                                  obtain ⟨t1498, ht1499, h_⟩ := bind_some' h; clear h; have h := h_; clear h_
                                  by_cases hp1502 : t1498 = 16
                                  · skip
                                    replace h := ite_pos' h hp1502
                                    obtain ⟨hA1503, h_⟩ := asrt_some h; clear h; have h := h_; clear h_
                                    obtain ⟨t1504, ht1505, h_⟩ := bind_some' h; clear h; have h := h_; clear h_
                                    by_cases hp1508 : (IntKind.wrap .i64 (bt t1354 21)) = t1504
                                    · skip
                                      replace h := ite_pos' h hp1508
                                      obtain ⟨t1509, ht1510, h_⟩ := bind_some' h; clear h; have h := h_; clear h_
                                      refine regionG 22 KR KR ha HW [.fix (.string t1354), .fix (.int .i64 (t1354.size : Int)), .fix (.bool ((t1354.size : Int) == 24)), .fix (.bool ((t1354.size : Int) == 24)), .fix (.func (.func 13) #[] #[]), .fix (.string t1354), .fix (.int .u64 t1498), .fix (.bool (t1498 == 16)), .fix (.bool (t1498 == 16)), .fix (.bool (t1498 == 16)), .fix (.string t1354), .fix (.int .u8 (bt t1354 21)), .fix (.int .i64 (IntKind.wrap .i64 (bt t1354 21))), .fix (.pointer (some ⟨b1310, 1, none⟩)), .fix (.pointer (some ⟨b1310, 1, none⟩)), .fix (.int .i64 a0.f1.f0), .fix (.int .i64 t1504), .fix (.bool ((IntKind.wrap .i64 (bt t1354 21)) == t1504)), .fix (.bool ((IntKind.wrap .i64 (bt t1354 21)) == t1504)), .fix (.bool ((IntKind.wrap .i64 (bt t1354 21)) == t1504)), .fix (.bool t1509), .fix (.bool t1509)] ?_ ?_
                                      · skip
                                        refine ⟨?_, ?_, ?_, ?_, ?_, ?_, ?_, ?_, ?_, ?_, ?_, ?_, ?_, ?_, ?_, ?_, ?_, ?_, ?_, ?_, ?_, ?_, trivial⟩
                                        · skip
                                          intro a wr hn hd HW hs; have ha := hasNil hn hd
                                          have ha := ha.add (seeE hs 4 (.string t1354) KR KR)
                                          refine yStep ha 116 KR ?_; intro l_ ha HK
                                          refine stepp ha 116 (.string t1354) KR KR ?_; intro ax hax; exact HK _ _ _ hax rfl (Below.refl _ _)
                                        · skip
                                          intro a wr hn hd HW hs; have ha := hasNil hn hd
                                          have ha := ha.add (seeF hs 116 0 (.string t1354) KR KR)
                                          refine yStep ha 117 KR ?_; intro l_ ha HK
                                          refine stepp ha 117 (.int .i64 (t1354.size : Int)) KR KR ?_; intro ax hax; exact HK _ _ _ hax rfl (Below.refl _ _)
                                        · skip
                                          intro a wr hn hd HW hs; have ha := hasNil hn hd
                                          have ha := ha.add (seeF hs 117 1 (.int .i64 (t1354.size : Int)) KR KR)
                                          refine yStep ha 118 KR ?_; intro l_ ha HK
                                          refine stepp ha 118 (.bool ((t1354.size : Int) == 24)) KR KR ?_; intro ax hax; exact HK _ _ _ hax rfl (Below.refl _ _)
                                        · skip
                                          intro a wr hn hd HW hs; have ha := hasNil hn hd
                                          have ha := ha.add (seeF hs 118 2 (.bool ((t1354.size : Int) == 24)) KR KR)
                                          refine yStep ha 119 KR ?_; intro l_ ha HK
                                          refine stepp ha 119 (.bool ((t1354.size : Int) == 24)) KR KR ?_; intro ax hax; exact HK _ _ _ hax rfl (Below.refl _ _)
                                        · skip
                                          intro a wr hn hd HW hs; have ha := hasNil hn hd
                                          have ha := ha.add (seeE hs 5 (.func (.func 13) #[] #[]) KR KR)
                                          have ha := ha.add (seeF hs 119 3 (.bool ((t1354.size : Int) == 24)) KR KR)
                                          have ha := ha.bool 119 KR (ieq_t hp1497)
                                          refine yStep ha 120 KR ?_; intro l_ ha HK
                                          refine stepp ha 120 (.func (.func 13) #[] #[]) KR KR ?_; intro ax hax; exact HK _ _ _ hax rfl (Below.refl _ _)
                                        · skip
                                          intro a wr hn hd HW hs; have ha := hasNil hn hd
                                          have ha := ha.add (seeE hs 4 (.string t1354) KR KR)
                                          have ha := ha.add (seeF hs 119 3 (.bool ((t1354.size : Int) == 24)) KR KR)
                                          have ha := ha.bool 119 KR (ieq_t hp1497)
                                          refine yStep ha 121 KR ?_; intro l_ ha HK
                                          refine stepp ha 121 (.string t1354) KR KR ?_; intro ax hax; exact HK _ _ _ hax rfl (Below.refl _ _)
                                        · skip
                                          intro a wr hn hd HW hs; have ha := hasNil hn hd
                                          have ha := ha.add (seeF hs 120 4 (.func (.func 13) #[] #[]) KR KR)
                                          have ha := ha.add (seeF hs 121 5 (.string t1354) KR KR)
                                          have ha := ha.add (seeF hs 119 3 (.bool ((t1354.size : Int) == 24)) KR KR)
                                          have ha := ha.bool 119 KR (ieq_t hp1497)
                                          refine yStep ha 122 KR ?_; intro l_ ha HK
                                          refine stepc ha 122 KR KR (headgatelaw18_ProutReads_1.calls K t1354 4 4 t1498 _ ht1499) ?_; rintro e W1500 ⟨rfl, HX1501⟩
                                          refine ⟨_, rfl, ?_⟩; intro ax hax; exact HK _ _ _ hax rfl HX1501.below
                                        · skip
                                          intro a wr hn hd HW hs; have ha := hasNil hn hd
                                          have ha := ha.add (seeF hs 122 6 (.int .u64 t1498) KR KR)
                                          have ha := ha.add (seeF hs 119 3 (.bool ((t1354.size : Int) == 24)) KR KR)
                                          have ha := ha.bool 119 KR (ieq_t hp1497)
                                          refine yStep ha 123 KR ?_; intro l_ ha HK
                                          refine stepp ha 123 (.bool (t1498 == 16)) KR KR ?_; intro ax hax; exact HK _ _ _ hax rfl (Below.refl _ _)
                                        · skip
                                          intro a wr hn hd HW hs; have ha := hasNil hn hd
                                          have ha := ha.add (seeF hs 119 3 (.bool ((t1354.size : Int) == 24)) KR KR)
                                          have ha := ha.bool 119 KR (ieq_t hp1497)
                                          have ha := ha.add (seeF hs 123 7 (.bool (t1498 == 16)) KR KR)
                                          refine yStep ha 124 KR ?_; intro l_ ha HK
                                          refine stepp ha 124 (.bool (t1498 == 16)) KR KR ?_; intro ax hax; exact HK _ _ _ hax rfl (Below.refl _ _)
                                        · skip
                                          intro a wr hn hd HW hs; have ha := hasNil hn hd
                                          have ha := ha.add (seeF hs 124 8 (.bool (t1498 == 16)) KR KR)
                                          refine yStep ha 125 KR ?_; intro l_ ha HK
                                          refine stepp ha 125 (.bool (t1498 == 16)) KR KR ?_; intro ax hax; exact HK _ _ _ hax rfl (Below.refl _ _)
                                        · skip
                                          intro a wr hn hd HW hs; have ha := hasNil hn hd
                                          have ha := ha.add (seeE hs 4 (.string t1354) KR KR)
                                          have ha := ha.add (seeF hs 125 9 (.bool (t1498 == 16)) KR KR)
                                          have ha := ha.bool 125 KR (ieq_t hp1502)
                                          refine yStep ha 126 KR ?_; intro l_ ha HK
                                          refine stepp ha 126 (.string t1354) KR KR ?_; intro ax hax; exact HK _ _ _ hax rfl (Below.refl _ _)
                                        · skip
                                          intro a wr hn hd HW hs; have ha := hasNil hn hd
                                          have ha := ha.add (seeF hs 126 10 (.string t1354) KR KR)
                                          have ha := ha.add (seeF hs 125 9 (.bool (t1498 == 16)) KR KR)
                                          have ha := ha.bool 125 KR (ieq_t hp1502)
                                          refine yStep ha 127 KR ?_; intro l_ ha HK
                                          refine stepsi ha 127 9 (.tmp 126) (.const (.int .i64 21)) t1354 .i64 21 rfl KR KR KR (by decide) (show (21 : Int) < ((t1354).size : Int) from hA1503) KR ?_; intro ax hax; exact HK _ _ _ hax rfl (Below.refl _ _)
                                        · skip
                                          intro a wr hn hd HW hs; have ha := hasNil hn hd
                                          have ha := ha.add (seeF hs 127 11 (.int .u8 (bt t1354 21)) KR KR)
                                          have ha := ha.add (seeF hs 125 9 (.bool (t1498 == 16)) KR KR)
                                          have ha := ha.bool 125 KR (ieq_t hp1502)
                                          refine yStep ha 128 KR ?_; intro l_ ha HK
                                          refine stepp ha 128 (.int .i64 (IntKind.wrap .i64 (bt t1354 21))) KR KR ?_; intro ax hax; exact HK _ _ _ hax rfl (Below.refl _ _)
                                        · skip
                                          intro a wr hn hd HW hs; have ha := hasNil hn hd
                                          have ha := ha.add (seeE hs 1 (.pointer (some ⟨b1310, 0, none⟩)) KR KR)
                                          have ha := ha.add (seeF hs 125 9 (.bool (t1498 == 16)) KR KR)
                                          have ha := ha.bool 125 KR (ieq_t hp1502)
                                          refine yStep ha 129 KR ?_; intro l_ ha HK
                                          refine stepp ha 129 (.pointer (some ⟨b1310, 1, none⟩)) KR KR ?_; intro ax hax; exact HK _ _ _ hax rfl (Below.refl _ _)
                                        · skip
                                          intro a wr hn hd HW hs; have ha := hasNil hn hd
                                          have ha := ha.add (seeF hs 129 13 (.pointer (some ⟨b1310, 1, none⟩)) KR KR)
                                          have ha := ha.add (seeF hs 125 9 (.bool (t1498 == 16)) KR KR)
                                          have ha := ha.bool 125 KR (ieq_t hp1502)
                                          refine yStep ha 130 KR ?_; intro l_ ha HK
                                          refine stepp ha 130 (.pointer (some ⟨b1310, 1, none⟩)) KR KR ?_; intro ax hax; exact HK _ _ _ hax rfl (Below.refl _ _)
                                        · skip
                                          intro a wr hn hd HW hs; have ha := hasNil hn hd
                                          have ha := ha.add (seeF hs 130 14 (.pointer (some ⟨b1310, 1, none⟩)) KR KR)
                                          have ha := ha.add (seeF hs 125 9 (.bool (t1498 == 16)) KR KR)
                                          have ha := ha.bool 125 KR (ieq_t hp1502)
                                          refine yStep ha 131 KR ?_; intro l_ ha HK
                                          refine stepl ha 131 (HW.ca (i := 0) (b := b1310) (C := #[.slice A0_0 a0.f0.length c0_0, .int .i64 a0.f1.f0, .string a0.f1.f1, .int .u32 a0.f2, .bool a0.f3]) (T := 27) (fr := (0, 0)) KR) 3 1 (.tmp 130) (.int .i64 a0.f1.f0) rfl KR KR KR ?_; intro ax hax; exact HK _ _ _ hax rfl (Below.refl _ _)
                                        · skip
                                          intro a wr hn hd HW hs; have ha := hasNil hn hd
                                          have ha := ha.add (seeF hs 131 15 (.int .i64 a0.f1.f0) KR KR)
                                          have ha := ha.add (seeF hs 125 9 (.bool (t1498 == 16)) KR KR)
                                          have ha := ha.bool 125 KR (ieq_t hp1502)
                                          refine yStep ha 132 KR ?_; intro l_ ha HK
                                          refine stepc ha 132 KR KR (cdb_Number.calls a0.f1.f0 t1504 _ (HW.ca0 hG0) ht1505) ?_; rintro e W1506 ⟨rfl, HX1507⟩
                                          refine ⟨_, rfl, ?_⟩; intro ax hax; exact HK _ _ _ hax rfl HX1507.below
                                        · skip
                                          intro a wr hn hd HW hs; have ha := hasNil hn hd
                                          have ha := ha.add (seeF hs 128 12 (.int .i64 (IntKind.wrap .i64 (bt t1354 21))) KR KR)
                                          have ha := ha.add (seeF hs 132 16 (.int .i64 t1504) KR KR)
                                          have ha := ha.add (seeF hs 125 9 (.bool (t1498 == 16)) KR KR)
                                          have ha := ha.bool 125 KR (ieq_t hp1502)
                                          refine yStep ha 133 KR ?_; intro l_ ha HK
                                          refine stepp ha 133 (.bool ((IntKind.wrap .i64 (bt t1354 21)) == t1504)) KR KR ?_; intro ax hax; exact HK _ _ _ hax rfl (Below.refl _ _)
                                        · skip
                                          intro a wr hn hd HW hs; have ha := hasNil hn hd
                                          have ha := ha.add (seeF hs 125 9 (.bool (t1498 == 16)) KR KR)
                                          have ha := ha.bool 125 KR (ieq_t hp1502)
                                          have ha := ha.add (seeF hs 133 17 (.bool ((IntKind.wrap .i64 (bt t1354 21)) == t1504)) KR KR)
                                          refine yStep ha 134 KR ?_; intro l_ ha HK
                                          refine stepp ha 134 (.bool ((IntKind.wrap .i64 (bt t1354 21)) == t1504)) KR KR ?_; intro ax hax; exact HK _ _ _ hax rfl (Below.refl _ _)
                                        · skip
                                          intro a wr hn hd HW hs; have ha := hasNil hn hd
                                          have ha := ha.add (seeF hs 134 18 (.bool ((IntKind.wrap .i64 (bt t1354 21)) == t1504)) KR KR)
                                          refine yStep ha 135 KR ?_; intro l_ ha HK
                                          refine stepp ha 135 (.bool ((IntKind.wrap .i64 (bt t1354 21)) == t1504)) KR KR ?_; intro ax hax; exact HK _ _ _ hax rfl (Below.refl _ _)
                                        · skip
                                          intro a wr hn hd HW hs; have ha := hasNil hn hd
                                          have ha := ha.add (seeF hs 135 19 (.bool ((IntKind.wrap .i64 (bt t1354 21)) == t1504)) KR KR)
                                          have ha := ha.bool 135 KR (ieq_t hp1508)
                                          refine yStep ha 136 KR ?_; intro l_ ha HK
                                          refine stepc ha 136 KR KR (headgatelaw18_wakes.calls K t1509 _ ht1510) ?_; rintro e W1511 ⟨rfl, HX1512⟩
                                          refine ⟨_, rfl, ?_⟩; intro ax hax; exact HK _ _ _ hax rfl HX1512.below
                                        · skip
                                          intro a wr hn hd HW hs; have ha := hasNil hn hd
                                          have ha := ha.add (seeF hs 135 19 (.bool ((IntKind.wrap .i64 (bt t1354 21)) == t1504)) KR KR)
                                          have ha := ha.bool 135 KR (ieq_t hp1508)
                                          have ha := ha.add (seeF hs 136 20 (.bool t1509) KR KR)
                                          refine yStep ha 137 KR ?_; intro l_ ha HK
                                          refine stepp ha 137 (.bool t1509) KR KR ?_; intro ax hax; exact HK _ _ _ hax rfl (Below.refl _ _)
                                      · skip
                                        intro a W1513 ha HW he hf
                                        replace ha := ha.add (gotF (m := 22) (j := 21) (d := 137) (v := .bool t1509) hf KR KR KR)
                                        clear he hf
                                        refine stepp ha 2 (.bool t1509) KR KR ?_; clear ha a; intro a ha
                                        refine endl ?_
                                        refine thenN (hK1496 _ _ ?_); clear hK1496
                                        refine wp_ret ?_
                                        obtain rfl := Option.some.inj h
                                        exact finv ha _ _ rfl (.tmp (v := .bool t1509) KR .nil) (.bool t1509) rfl ⟨rfl, HW.pick [] [] (by decide) (by decide) rfl KR⟩
                                    · skip
                                      replace h := ite_neg' h hp1508
                                      refine regionG 22 KR KR ha HW [.fix (.string t1354), .fix (.int .i64 (t1354.size : Int)), .fix (.bool ((t1354.size : Int) == 24)), .fix (.bool ((t1354.size : Int) == 24)), .fix (.func (.func 13) #[] #[]), .fix (.string t1354), .fix (.int .u64 t1498), .fix (.bool (t1498 == 16)), .fix (.bool (t1498 == 16)), .fix (.bool (t1498 == 16)), .fix (.string t1354), .fix (.int .u8 (bt t1354 21)), .fix (.int .i64 (IntKind.wrap .i64 (bt t1354 21))), .fix (.pointer (some ⟨b1310, 1, none⟩)), .fix (.pointer (some ⟨b1310, 1, none⟩)), .fix (.int .i64 a0.f1.f0), .fix (.int .i64 t1504), .fix (.bool ((IntKind.wrap .i64 (bt t1354 21)) == t1504)), .fix (.bool ((IntKind.wrap .i64 (bt t1354 21)) == t1504)), .fix (.bool ((IntKind.wrap .i64 (bt t1354 21)) == t1504)), .fix undef, .fix (.bool false)] ?_ ?_
                                      · skip
                                        refine ⟨?_, ?_, ?_, ?_, ?_, ?_, ?_, ?_, ?_, ?_, ?_, ?_, ?_, ?_, ?_, ?_, ?_, ?_, ?_, ?_, ?_, ?_, trivial⟩
                                        · skip
                                          intro a wr hn hd HW hs; have ha := hasNil hn hd
                                          have ha := ha.add (seeE hs 4 (.string t1354) KR KR)
                                          refine yStep ha 116 KR ?_; intro l_ ha HK
                                          refine stepp ha 116 (.string t1354) KR KR ?_; intro ax hax; exact HK _ _ _ hax rfl (Below.refl _ _)
                                        · skip
                                          intro a wr hn hd HW hs; have ha := hasNil hn hd
                                          have ha := ha.add (seeF hs 116 0 (.string t1354) KR KR)
                                          refine yStep ha 117 KR ?_; intro l_ ha HK
                                          refine stepp ha 117 (.int .i64 (t1354.size : Int)) KR KR ?_; intro ax hax; exact HK _ _ _ hax rfl (Below.refl _ _)
                                        · skip
                                          intro a wr hn hd HW hs; have ha := hasNil hn hd
                                          have ha := ha.add (seeF hs 117 1 (.int .i64 (t1354.size : Int)) KR KR)
                                          refine yStep ha 118 KR ?_; intro l_ ha HK
                                          refine stepp ha 118 (.bool ((t1354.size : Int) == 24)) KR KR ?_; intro ax hax; exact HK _ _ _ hax rfl (Below.refl _ _)
                                        · skip
                                          intro a wr hn hd HW hs; have ha := hasNil hn hd
                                          have ha := ha.add (seeF hs 118 2 (.bool ((t1354.size : Int) == 24)) KR KR)
                                          refine yStep ha 119 KR ?_; intro l_ ha HK
                                          refine stepp ha 119 (.bool ((t1354.size : Int) == 24)) KR KR ?_; intro ax hax; exact HK _ _ _ hax rfl (Below.refl _ _)
                                        · skip
                                          intro a wr hn hd HW hs; have ha := hasNil hn hd
                                          have ha := ha.add (seeE hs 5 (.func (.func 13) #[] #[]) KR KR)
                                          have ha := ha.add (seeF hs 119 3 (.bool ((t1354.size : Int) == 24)) KR KR)
                                          have ha := ha.bool 119 KR (ieq_t hp1497)
                                          refine yStep ha 120 KR ?_; intro l_ ha HK
                                          refine stepp ha 120 (.func (.func 13) #[] #[]) KR KR ?_; intro ax hax; exact HK _ _ _ hax rfl (Below.refl _ _)
                                        · skip
                                          intro a wr hn hd HW hs; have ha := hasNil hn hd
                                          have ha := ha.add (seeE hs 4 (.string t1354) KR KR)
                                          have ha := ha.add (seeF hs 119 3 (.bool ((t1354.size : Int) == 24)) KR KR)
                                          have ha := ha.bool 119 KR (ieq_t hp1497)
                                          refine yStep ha 121 KR ?_; intro l_ ha HK
                                          refine stepp ha 121 (.string t1354) KR KR ?_; intro ax hax; exact HK _ _ _ hax rfl (Below.refl _ _)
                                        · skip
                                          intro a wr hn hd HW hs; have ha := hasNil hn hd
                                          have ha := ha.add (seeF hs 120 4 (.func (.func 13) #[] #[]) KR KR)
                                          have ha := ha.add (seeF hs 121 5 (.string t1354) KR KR)
                                          have ha := ha.add (seeF hs 119 3 (.bool ((t1354.size : Int) == 24)) KR KR)
                                          have ha := ha.bool 119 KR (ieq_t hp1497)
                                          refine yStep ha 122 KR ?_; intro l_ ha HK
                                          refine stepc ha 122 KR KR (headgatelaw18_ProutReads_1.calls K t1354 4 4 t1498 _ ht1499) ?_; rintro e W1500 ⟨rfl, HX1501⟩
                                          refine ⟨_, rfl, ?_⟩; intro ax hax; exact HK _ _ _ hax rfl HX1501.below
                                        · skip
                                          intro a wr hn hd HW hs; have ha := hasNil hn hd
                                          have ha := ha.add (seeF hs 122 6 (.int .u64 t1498) KR KR)
                                          have ha := ha.add (seeF hs 119 3 (.bool ((t1354.size : Int) == 24)) KR KR)
                                          have ha := ha.bool 119 KR (ieq_t hp1497)
                                          refine yStep ha 123 KR ?_; intro l_ ha HK
                                          refine stepp ha 123 (.bool (t1498 == 16)) KR KR ?_; intro ax hax; exact HK _ _ _ hax rfl (Below.refl _ _)
                                        · skip
                                          intro a wr hn hd HW hs; have ha := hasNil hn hd
                                          have ha := ha.add (seeF hs 119 3 (.bool ((t1354.size : Int) == 24)) KR KR)
                                          have ha := ha.bool 119 KR (ieq_t hp1497)
                                          have ha := ha.add (seeF hs 123 7 (.bool (t1498 == 16)) KR KR)
                                          refine yStep ha 124 KR ?_; intro l_ ha HK
                                          refine stepp ha 124 (.bool (t1498 == 16)) KR KR ?_; intro ax hax; exact HK _ _ _ hax rfl (Below.refl _ _)
                                        · skip
                                          intro a wr hn hd HW hs; have ha := hasNil hn hd
                                          have ha := ha.add (seeF hs 124 8 (.bool (t1498 == 16)) KR KR)
                                          refine yStep ha 125 KR ?_; intro l_ ha HK
                                          refine stepp ha 125 (.bool (t1498 == 16)) KR KR ?_; intro ax hax; exact HK _ _ _ hax rfl (Below.refl _ _)
                                        · skip
                                          intro a wr hn hd HW hs; have ha := hasNil hn hd
                                          have ha := ha.add (seeE hs 4 (.string t1354) KR KR)
                                          have ha := ha.add (seeF hs 125 9 (.bool (t1498 == 16)) KR KR)
                                          have ha := ha.bool 125 KR (ieq_t hp1502)
                                          refine yStep ha 126 KR ?_; intro l_ ha HK
                                          refine stepp ha 126 (.string t1354) KR KR ?_; intro ax hax; exact HK _ _ _ hax rfl (Below.refl _ _)
                                        · skip
                                          intro a wr hn hd HW hs; have ha := hasNil hn hd
                                          have ha := ha.add (seeF hs 126 10 (.string t1354) KR KR)
                                          have ha := ha.add (seeF hs 125 9 (.bool (t1498 == 16)) KR KR)
                                          have ha := ha.bool 125 KR (ieq_t hp1502)
                                          refine yStep ha 127 KR ?_; intro l_ ha HK
                                          refine stepsi ha 127 9 (.tmp 126) (.const (.int .i64 21)) t1354 .i64 21 rfl KR KR KR (by decide) (show (21 : Int) < ((t1354).size : Int) from hA1503) KR ?_; intro ax hax; exact HK _ _ _ hax rfl (Below.refl _ _)
                                        · skip
                                          intro a wr hn hd HW hs; have ha := hasNil hn hd
                                          have ha := ha.add (seeF hs 127 11 (.int .u8 (bt t1354 21)) KR KR)
                                          have ha := ha.add (seeF hs 125 9 (.bool (t1498 == 16)) KR KR)
                                          have ha := ha.bool 125 KR (ieq_t hp1502)
                                          refine yStep ha 128 KR ?_; intro l_ ha HK
                                          refine stepp ha 128 (.int .i64 (IntKind.wrap .i64 (bt t1354 21))) KR KR ?_; intro ax hax; exact HK _ _ _ hax rfl (Below.refl _ _)
                                        · skip
                                          intro a wr hn hd HW hs; have ha := hasNil hn hd
                                          have ha := ha.add (seeE hs 1 (.pointer (some ⟨b1310, 0, none⟩)) KR KR)
                                          have ha := ha.add (seeF hs 125 9 (.bool (t1498 == 16)) KR KR)
                                          have ha := ha.bool 125 KR (ieq_t hp1502)
                                          refine yStep ha 129 KR ?_; intro l_ ha HK
                                          refine stepp ha 129 (.pointer (some ⟨b1310, 1, none⟩)) KR KR ?_; intro ax hax; exact HK _ _ _ hax rfl (Below.refl _ _)
                                        · skip
                                          intro a wr hn hd HW hs; have ha := hasNil hn hd
                                          have ha := ha.add (seeF hs 129 13 (.pointer (some ⟨b1310, 1, none⟩)) KR KR)
                                          have ha := ha.add (seeF hs 125 9 (.bool (t1498 == 16)) KR KR)
                                          have ha := ha.bool 125 KR (ieq_t hp1502)
                                          refine yStep ha 130 KR ?_; intro l_ ha HK
                                          refine stepp ha 130 (.pointer (some ⟨b1310, 1, none⟩)) KR KR ?_; intro ax hax; exact HK _ _ _ hax rfl (Below.refl _ _)
                                        · skip
                                          intro a wr hn hd HW hs; have ha := hasNil hn hd
                                          have ha := ha.add (seeF hs 130 14 (.pointer (some ⟨b1310, 1, none⟩)) KR KR)
                                          have ha := ha.add (seeF hs 125 9 (.bool (t1498 == 16)) KR KR)
                                          have ha := ha.bool 125 KR (ieq_t hp1502)
                                          refine yStep ha 131 KR ?_; intro l_ ha HK
                                          refine stepl ha 131 (HW.ca (i := 0) (b := b1310) (C := #[.slice A0_0 a0.f0.length c0_0, .int .i64 a0.f1.f0, .string a0.f1.f1, .int .u32 a0.f2, .bool a0.f3]) (T := 27) (fr := (0, 0)) KR) 3 1 (.tmp 130) (.int .i64 a0.f1.f0) rfl KR KR KR ?_; intro ax hax; exact HK _ _ _ hax rfl (Below.refl _ _)
                                        · skip
                                          intro a wr hn hd HW hs; have ha := hasNil hn hd
                                          have ha := ha.add (seeF hs 131 15 (.int .i64 a0.f1.f0) KR KR)
                                          have ha := ha.add (seeF hs 125 9 (.bool (t1498 == 16)) KR KR)
                                          have ha := ha.bool 125 KR (ieq_t hp1502)
                                          refine yStep ha 132 KR ?_; intro l_ ha HK
                                          refine stepc ha 132 KR KR (cdb_Number.calls a0.f1.f0 t1504 _ (HW.ca0 hG0) ht1505) ?_; rintro e W1506 ⟨rfl, HX1507⟩
                                          refine ⟨_, rfl, ?_⟩; intro ax hax; exact HK _ _ _ hax rfl HX1507.below
                                        · skip
                                          intro a wr hn hd HW hs; have ha := hasNil hn hd
                                          have ha := ha.add (seeF hs 128 12 (.int .i64 (IntKind.wrap .i64 (bt t1354 21))) KR KR)
                                          have ha := ha.add (seeF hs 132 16 (.int .i64 t1504) KR KR)
                                          have ha := ha.add (seeF hs 125 9 (.bool (t1498 == 16)) KR KR)
                                          have ha := ha.bool 125 KR (ieq_t hp1502)
                                          refine yStep ha 133 KR ?_; intro l_ ha HK
                                          refine stepp ha 133 (.bool ((IntKind.wrap .i64 (bt t1354 21)) == t1504)) KR KR ?_; intro ax hax; exact HK _ _ _ hax rfl (Below.refl _ _)
                                        · skip
                                          intro a wr hn hd HW hs; have ha := hasNil hn hd
                                          have ha := ha.add (seeF hs 125 9 (.bool (t1498 == 16)) KR KR)
                                          have ha := ha.bool 125 KR (ieq_t hp1502)
                                          have ha := ha.add (seeF hs 133 17 (.bool ((IntKind.wrap .i64 (bt t1354 21)) == t1504)) KR KR)
                                          refine yStep ha 134 KR ?_; intro l_ ha HK
                                          refine stepp ha 134 (.bool ((IntKind.wrap .i64 (bt t1354 21)) == t1504)) KR KR ?_; intro ax hax; exact HK _ _ _ hax rfl (Below.refl _ _)
                                        · skip
                                          intro a wr hn hd HW hs; have ha := hasNil hn hd
                                          have ha := ha.add (seeF hs 134 18 (.bool ((IntKind.wrap .i64 (bt t1354 21)) == t1504)) KR KR)
                                          refine yStep ha 135 KR ?_; intro l_ ha HK
                                          refine stepp ha 135 (.bool ((IntKind.wrap .i64 (bt t1354 21)) == t1504)) KR KR ?_; intro ax hax; exact HK _ _ _ hax rfl (Below.refl _ _)
                                        · skip
                                          intro a wr hn hd HW hs; have ha := hasNil hn hd
                                          have ha := ha.add (seeF hs 135 19 (.bool ((IntKind.wrap .i64 (bt t1354 21)) == t1504)) KR KR)
                                          have ha := ha.bool 135 KR (ieq_f hp1508)
                                          exact yo ha KR rfl
                                        · skip
                                          intro a wr hn hd HW hs; have ha := hasNil hn hd
                                          have ha := ha.add (seeF hs 135 19 (.bool ((IntKind.wrap .i64 (bt t1354 21)) == t1504)) KR KR)
                                          have ha := ha.bool 135 KR (ieq_f hp1508)
                                          have ha := ha.add (seeF hs 136 20 (undef) KR KR)
                                          refine yStep ha 137 KR ?_; intro l_ ha HK
                                          refine stepp ha 137 (.bool false) KR KR ?_; intro ax hax; exact HK _ _ _ hax rfl (Below.refl _ _)
                                      · skip
                                        intro a W1514 ha HW he hf
                                        replace ha := ha.add (gotF (m := 22) (j := 21) (d := 137) (v := .bool false) hf KR KR KR)
                                        clear he hf
                                        refine stepp ha 2 (.bool false) KR KR ?_; clear ha a; intro a ha
                                        refine endl ?_
                                        refine thenN (hK1496 _ _ ?_); clear hK1496
                                        refine wp_ret ?_
                                        obtain rfl := Option.some.inj h
                                        exact finv ha _ _ rfl (.tmp (v := .bool false) KR .nil) (.bool false) rfl ⟨rfl, HW.pick [] [] (by decide) (by decide) rfl KR⟩
                                  · skip
                                    replace h := ite_neg' h hp1502
                                    refine regionG 22 KR KR ha HW [.fix (.string t1354), .fix (.int .i64 (t1354.size : Int)), .fix (.bool ((t1354.size : Int) == 24)), .fix (.bool ((t1354.size : Int) == 24)), .fix (.func (.func 13) #[] #[]), .fix (.string t1354), .fix (.int .u64 t1498), .fix (.bool (t1498 == 16)), .fix (.bool (t1498 == 16)), .fix (.bool (t1498 == 16)), .fix undef, .fix undef, .fix undef, .fix undef, .fix undef, .fix undef, .fix undef, .fix undef, .fix (.bool false), .fix (.bool false), .fix undef, .fix (.bool false)] ?_ ?_
                                    · skip
                                      refine ⟨?_, ?_, ?_, ?_, ?_, ?_, ?_, ?_, ?_, ?_, ?_, ?_, ?_, ?_, ?_, ?_, ?_, ?_, ?_, ?_, ?_, ?_, trivial⟩
                                      · skip
                                        intro a wr hn hd HW hs; have ha := hasNil hn hd
                                        have ha := ha.add (seeE hs 4 (.string t1354) KR KR)
                                        refine yStep ha 116 KR ?_; intro l_ ha HK
                                        refine stepp ha 116 (.string t1354) KR KR ?_; intro ax hax; exact HK _ _ _ hax rfl (Below.refl _ _)
                                      · skip
                                        intro a wr hn hd HW hs; have ha := hasNil hn hd
                                        have ha := ha.add (seeF hs 116 0 (.string t1354) KR KR)
                                        refine yStep ha 117 KR ?_; intro l_ ha HK
                                        refine stepp ha 117 (.int .i64 (t1354.size : Int)) KR KR ?_; intro ax hax; exact HK _ _ _ hax rfl (Below.refl _ _)
                                      · skip
                                        intro a wr hn hd HW hs; have ha := hasNil hn hd
                                        have ha := ha.add (seeF hs 117 1 (.int .i64 (t1354.size : Int)) KR KR)
                                        refine yStep ha 118 KR ?_; intro l_ ha HK
                                        refine stepp ha 118 (.bool ((t1354.size : Int) == 24)) KR KR ?_; intro ax hax; exact HK _ _ _ hax rfl (Below.refl _ _)
                                      · skip
                                        intro a wr hn hd HW hs; have ha := hasNil hn hd
                                        have ha := ha.add (seeF hs 118 2 (.bool ((t1354.size : Int) == 24)) KR KR)
                                        refine yStep ha 119 KR ?_; intro l_ ha HK
                                        refine stepp ha 119 (.bool ((t1354.size : Int) == 24)) KR KR ?_; intro ax hax; exact HK _ _ _ hax rfl (Below.refl _ _)
                                      · skip
                                        intro a wr hn hd HW hs; have ha := hasNil hn hd
                                        have ha := ha.add (seeE hs 5 (.func (.func 13) #[] #[]) KR KR)
                                        have ha := ha.add (seeF hs 119 3 (.bool ((t1354.size : Int) == 24)) KR KR)
                                        have ha := ha.bool 119 KR (ieq_t hp1497)
                                        refine yStep ha 120 KR ?_; intro l_ ha HK
                                        refine stepp ha 120 (.func (.func 13) #[] #[]) KR KR ?_; intro ax hax; exact HK _ _ _ hax rfl (Below.refl _ _)
                                      · skip
                                        intro a wr hn hd HW hs; have ha := hasNil hn hd
                                        have ha := ha.add (seeE hs 4 (.string t1354) KR KR)
                                        have ha := ha.add (seeF hs 119 3 (.bool ((t1354.size : Int) == 24)) KR KR)
                                        have ha := ha.bool 119 KR (ieq_t hp1497)
                                        refine yStep ha 121 KR ?_; intro l_ ha HK
                                        refine stepp ha 121 (.string t1354) KR KR ?_; intro ax hax; exact HK _ _ _ hax rfl (Below.refl _ _)
                                      · skip
                                        intro a wr hn hd HW hs; have ha := hasNil hn hd
                                        have ha := ha.add (seeF hs 120 4 (.func (.func 13) #[] #[]) KR KR)
                                        have ha := ha.add (seeF hs 121 5 (.string t1354) KR KR)
                                        have ha := ha.add (seeF hs 119 3 (.bool ((t1354.size : Int) == 24)) KR KR)
                                        have ha := ha.bool 119 KR (ieq_t hp1497)
                                        refine yStep ha 122 KR ?_; intro l_ ha HK
                                        refine stepc ha 122 KR KR (headgatelaw18_ProutReads_1.calls K t1354 4 4 t1498 _ ht1499) ?_; rintro e W1500 ⟨rfl, HX1501⟩
                                        refine ⟨_, rfl, ?_⟩; intro ax hax; exact HK _ _ _ hax rfl HX1501.below
                                      · skip
                                        intro a wr hn hd HW hs; have ha := hasNil hn hd
                                        have ha := ha.add (seeF hs 122 6 (.int .u64 t1498) KR KR)
                                        have ha := ha.add (seeF hs 119 3 (.bool ((t1354.size : Int) == 24)) KR KR)
                                        have ha := ha.bool 119 KR (ieq_t hp1497)
                                        refine yStep ha 123 KR ?_; intro l_ ha HK
                                        refine stepp ha 123 (.bool (t1498 == 16)) KR KR ?_; intro ax hax; exact HK _ _ _ hax rfl (Below.refl _ _)
                                      · skip
                                        intro a wr hn hd HW hs; have ha := hasNil hn hd
                                        have ha := ha.add (seeF hs 119 3 (.bool ((t1354.size : Int) == 24)) KR KR)
                                        have ha := ha.bool 119 KR (ieq_t hp1497)
                                        have ha := ha.add (seeF hs 123 7 (.bool (t1498 == 16)) KR KR)
                                        refine yStep ha 124 KR ?_; intro l_ ha HK
                                        refine stepp ha 124 (.bool (t1498 == 16)) KR KR ?_; intro ax hax; exact HK _ _ _ hax rfl (Below.refl _ _)
                                      · skip
                                        intro a wr hn hd HW hs; have ha := hasNil hn hd
                                        have ha := ha.add (seeF hs 124 8 (.bool (t1498 == 16)) KR KR)
                                        refine yStep ha 125 KR ?_; intro l_ ha HK
                                        refine stepp ha 125 (.bool (t1498 == 16)) KR KR ?_; intro ax hax; exact HK _ _ _ hax rfl (Below.refl _ _)
                                      · skip
                                        intro a wr hn hd HW hs; have ha := hasNil hn hd
                                        have ha := ha.add (seeE hs 4 (.string t1354) KR KR)
                                        have ha := ha.add (seeF hs 125 9 (.bool (t1498 == 16)) KR KR)
                                        have ha := ha.bool 125 KR (ieq_f hp1502)
                                        exact yo ha KR rfl
                                      · skip
                                        intro a wr hn hd HW hs; have ha := hasNil hn hd
                                        have ha := ha.add (seeF hs 126 10 (undef) KR KR)
                                        have ha := ha.add (seeF hs 125 9 (.bool (t1498 == 16)) KR KR)
                                        have ha := ha.bool 125 KR (ieq_f hp1502)
                                        exact yo ha KR rfl
                                      · skip
                                        intro a wr hn hd HW hs; have ha := hasNil hn hd
                                        have ha := ha.add (seeF hs 127 11 (undef) KR KR)
                                        have ha := ha.add (seeF hs 125 9 (.bool (t1498 == 16)) KR KR)
                                        have ha := ha.bool 125 KR (ieq_f hp1502)
                                        exact yo ha KR rfl
                                      · skip
                                        intro a wr hn hd HW hs; have ha := hasNil hn hd
                                        have ha := ha.add (seeE hs 1 (.pointer (some ⟨b1310, 0, none⟩)) KR KR)
                                        have ha := ha.add (seeF hs 125 9 (.bool (t1498 == 16)) KR KR)
                                        have ha := ha.bool 125 KR (ieq_f hp1502)
                                        exact yo ha KR rfl
                                      · skip
                                        intro a wr hn hd HW hs; have ha := hasNil hn hd
                                        have ha := ha.add (seeF hs 129 13 (undef) KR KR)
                                        have ha := ha.add (seeF hs 125 9 (.bool (t1498 == 16)) KR KR)
                                        have ha := ha.bool 125 KR (ieq_f hp1502)
                                        exact yo ha KR rfl
                                      · skip
                                        intro a wr hn hd HW hs; have ha := hasNil hn hd
                                        have ha := ha.add (seeF hs 130 14 (undef) KR KR)
                                        have ha := ha.add (seeF hs 125 9 (.bool (t1498 == 16)) KR KR)
                                        have ha := ha.bool 125 KR (ieq_f hp1502)
                                        exact yo ha KR rfl
                                      · skip
                                        intro a wr hn hd HW hs; have ha := hasNil hn hd
                                        have ha := ha.add (seeF hs 131 15 (undef) KR KR)
                                        have ha := ha.add (seeF hs 125 9 (.bool (t1498 == 16)) KR KR)
                                        have ha := ha.bool 125 KR (ieq_f hp1502)
                                        exact yo ha KR rfl
                                      · skip
                                        intro a wr hn hd HW hs; have ha := hasNil hn hd
                                        have ha := ha.add (seeF hs 128 12 (undef) KR KR)
                                        have ha := ha.add (seeF hs 132 16 (undef) KR KR)
                                        have ha := ha.add (seeF hs 125 9 (.bool (t1498 == 16)) KR KR)
                                        have ha := ha.bool 125 KR (ieq_f hp1502)
                                        exact yo ha KR rfl
                                      · skip
                                        intro a wr hn hd HW hs; have ha := hasNil hn hd
                                        have ha := ha.add (seeF hs 125 9 (.bool (t1498 == 16)) KR KR)
                                        have ha := ha.bool 125 KR (ieq_f hp1502)
                                        have ha := ha.add (seeF hs 133 17 (undef) KR KR)
                                        refine yStep ha 134 KR ?_; intro l_ ha HK
                                        refine stepp ha 134 (.bool false) KR KR ?_; intro ax hax; exact HK _ _ _ hax rfl (Below.refl _ _)
                                      · skip
                                        intro a wr hn hd HW hs; have ha := hasNil hn hd
                                        have ha := ha.add (seeF hs 134 18 (.bool false) KR KR)
                                        refine yStep ha 135 KR ?_; intro l_ ha HK
                                        refine stepp ha 135 (.bool false) KR KR ?_; intro ax hax; exact HK _ _ _ hax rfl (Below.refl _ _)
                                      · skip
                                        intro a wr hn hd HW hs; have ha := hasNil hn hd
                                        have ha := ha.add (seeF hs 135 19 (.bool false) KR KR)
                                        exact yo ha KR rfl
                                      · skip
                                        intro a wr hn hd HW hs; have ha := hasNil hn hd
                                        have ha := ha.add (seeF hs 135 19 (.bool false) KR KR)
                                        have ha := ha.add (seeF hs 136 20 (undef) KR KR)
                                        refine yStep ha 137 KR ?_; intro l_ ha HK
                                        refine stepp ha 137 (.bool false) KR KR ?_; intro ax hax; exact HK _ _ _ hax rfl (Below.refl _ _)
                                    · skip
                                      intro a W1515 ha HW he hf
                                      replace ha := ha.add (gotF (m := 22) (j := 21) (d := 137) (v := .bool false) hf KR KR KR)
                                      clear he hf
                                      refine stepp ha 2 (.bool false) KR KR ?_; clear ha a; intro a ha
                                      refine endl ?_
                                      refine thenN (hK1496 _ _ ?_); clear hK1496
                                      refine wp_ret ?_
                                      obtain rfl := Option.some.inj h
                                      exact finv ha _ _ rfl (.tmp (v := .bool false) KR .nil) (.bool false) rfl ⟨rfl, HW.pick [] [] (by decide) (by decide) rfl KR⟩
                                · skip
                                  replace h := ite_neg' h hp1497
                                  refine regionG 22 KR KR ha HW [.fix (.string t1354), .fix (.int .i64 (t1354.size : Int)), .fix (.bool ((t1354.size : Int) == 24)), .fix (.bool ((t1354.size : Int) == 24)), .fix undef, .fix undef, .fix undef, .fix undef, .fix (.bool false), .fix (.bool false), .fix undef, .fix undef, .fix undef, .fix undef, .fix undef, .fix undef, .fix undef, .fix undef, .fix (.bool false), .fix (.bool false), .fix undef, .fix (.bool false)] ?_ ?_
                                  · skip
                                    refine ⟨?_, ?_, ?_, ?_, ?_, ?_, ?_, ?_, ?_, ?_, ?_, ?_, ?_, ?_, ?_, ?_, ?_, ?_, ?_, ?_, ?_, ?_, trivial⟩
                                    · skip
                                      intro a wr hn hd HW hs; have ha := hasNil hn hd
                                      have ha := ha.add (seeE hs 4 (.string t1354) KR KR)
                                      refine yStep ha 116 KR ?_; intro l_ ha HK
                                      refine stepp ha 116 (.string t1354) KR KR ?_; intro ax hax; exact HK _ _ _ hax rfl (Below.refl _ _)
                                    · skip
                                      intro a wr hn hd HW hs; have ha := hasNil hn hd
                                      have ha := ha.add (seeF hs 116 0 (.string t1354) KR KR)
                                      refine yStep ha 117 KR ?_; intro l_ ha HK
                                      refine stepp ha 117 (.int .i64 (t1354.size : Int)) KR KR ?_; intro ax hax; exact HK _ _ _ hax rfl (Below.refl _ _)
                                    · skip
                                      intro a wr hn hd HW hs; have ha := hasNil hn hd
                                      have ha := ha.add (seeF hs 117 1 (.int .i64 (t1354.size : Int)) KR KR)
                                      refine yStep ha 118 KR ?_; intro l_ ha HK
                                      refine stepp ha 118 (.bool ((t1354.size : Int) == 24)) KR KR ?_; intro ax hax; exact HK _ _ _ hax rfl (Below.refl _ _)
                                    · skip
                                      intro a wr hn hd HW hs; have ha := hasNil hn hd
                                      have ha := ha.add (seeF hs 118 2 (.bool ((t1354.size : Int) == 24)) KR KR)
                                      refine yStep ha 119 KR ?_; intro l_ ha HK
                                      refine stepp ha 119 (.bool ((t1354.size : Int) == 24)) KR KR ?_; intro ax hax; exact HK _ _ _ hax rfl (Below.refl _ _)
                                    · skip
                                      intro a wr hn hd HW hs; have ha := hasNil hn hd
                                      have ha := ha.add (seeE hs 5 (.func (.func 13) #[] #[]) KR KR)
                                      have ha := ha.add (seeF hs 119 3 (.bool ((t1354.size : Int) == 24)) KR KR)
                                      have ha := ha.bool 119 KR (ieq_f hp1497)
                                      exact yo ha KR rfl
                                    · skip
                                      intro a wr hn hd HW hs; have ha := hasNil hn hd
                                      have ha := ha.add (seeE hs 4 (.string t1354) KR KR)
                                      have ha := ha.add (seeF hs 119 3 (.bool ((t1354.size : Int) == 24)) KR KR)
                                      have ha := ha.bool 119 KR (ieq_f hp1497)
                                      exact yo ha KR rfl
                                    · skip
                                      intro a wr hn hd HW hs; have ha := hasNil hn hd
                                      have ha := ha.add (seeF hs 120 4 (undef) KR KR)
                                      have ha := ha.add (seeF hs 121 5 (undef) KR KR)
                                      have ha := ha.add (seeF hs 119 3 (.bool ((t1354.size : Int) == 24)) KR KR)
                                      have ha := ha.bool 119 KR (ieq_f hp1497)
                                      exact yo ha KR rfl
                                    · skip
                                      intro a wr hn hd HW hs; have ha := hasNil hn hd
                                      have ha := ha.add (seeF hs 122 6 (undef) KR KR)
                                      have ha := ha.add (seeF hs 119 3 (.bool ((t1354.size : Int) == 24)) KR KR)
                                      have ha := ha.bool 119 KR (ieq_f hp1497)
                                      exact yo ha KR rfl
                                    · skip
                                      intro a wr hn hd HW hs; have ha := hasNil hn hd
                                      have ha := ha.add (seeF hs 119 3 (.bool ((t1354.size : Int) == 24)) KR KR)
                                      have ha := ha.bool 119 KR (ieq_f hp1497)
                                      have ha := ha.add (seeF hs 123 7 (undef) KR KR)
                                      refine yStep ha 124 KR ?_; intro l_ ha HK
                                      refine stepp ha 124 (.bool false) KR KR ?_; intro ax hax; exact HK _ _ _ hax rfl (Below.refl _ _)
                                    · skip
                                      intro a wr hn hd HW hs; have ha := hasNil hn hd
                                      have ha := ha.add (seeF hs 124 8 (.bool false) KR KR)
                                      refine yStep ha 125 KR ?_; intro l_ ha HK
                                      refine stepp ha 125 (.bool false) KR KR ?_; intro ax hax; exact HK _ _ _ hax rfl (Below.refl _ _)
                                    · skip
                                      intro a wr hn hd HW hs; have ha := hasNil hn hd
                                      have ha := ha.add (seeE hs 4 (.string t1354) KR KR)
                                      have ha := ha.add (seeF hs 125 9 (.bool false) KR KR)
                                      exact yo ha KR rfl
                                    · skip
                                      intro a wr hn hd HW hs; have ha := hasNil hn hd
                                      have ha := ha.add (seeF hs 126 10 (undef) KR KR)
                                      have ha := ha.add (seeF hs 125 9 (.bool false) KR KR)
                                      exact yo ha KR rfl
                                    · skip
                                      intro a wr hn hd HW hs; have ha := hasNil hn hd
                                      have ha := ha.add (seeF hs 127 11 (undef) KR KR)
                                      have ha := ha.add (seeF hs 125 9 (.bool false) KR KR)
                                      exact yo ha KR rfl
                                    · skip
                                      intro a wr hn hd HW hs; have ha := hasNil hn hd
                                      have ha := ha.add (seeE hs 1 (.pointer (some ⟨b1310, 0, none⟩)) KR KR)
                                      have ha := ha.add (seeF hs 125 9 (.bool false) KR KR)
                                      exact yo ha KR rfl
                                    · skip
                                      intro a wr hn hd HW hs; have ha := hasNil hn hd
                                      have ha := ha.add (seeF hs 129 13 (undef) KR KR)
                                      have ha := ha.add (seeF hs 125 9 (.bool false) KR KR)
                                      exact yo ha KR rfl
                                    · skip
                                      intro a wr hn hd HW hs; have ha := hasNil hn hd
                                      have ha := ha.add (seeF hs 130 14 (undef) KR KR)
                                      have ha := ha.add (seeF hs 125 9 (.bool false) KR KR)
                                      exact yo ha KR rfl
                                    · skip
                                      intro a wr hn hd HW hs; have ha := hasNil hn hd
                                      have ha := ha.add (seeF hs 131 15 (undef) KR KR)
                                      have ha := ha.add (seeF hs 125 9 (.bool false) KR KR)
                                      exact yo ha KR rfl
                                    · skip
                                      intro a wr hn hd HW hs; have ha := hasNil hn hd
                                      have ha := ha.add (seeF hs 128 12 (undef) KR KR)
                                      have ha := ha.add (seeF hs 132 16 (undef) KR KR)
                                      have ha := ha.add (seeF hs 125 9 (.bool false) KR KR)
                                      exact yo ha KR rfl
                                    · skip
                                      intro a wr hn hd HW hs; have ha := hasNil hn hd
                                      have ha := ha.add (seeF hs 125 9 (.bool false) KR KR)
                                      have ha := ha.add (seeF hs 133 17 (undef) KR KR)
                                      refine yStep ha 134 KR ?_; intro l_ ha HK
                                      refine stepp ha 134 (.bool false) KR KR ?_; intro ax hax; exact HK _ _ _ hax rfl (Below.refl _ _)
                                    · skip
                                      intro a wr hn hd HW hs; have ha := hasNil hn hd
                                      have ha := ha.add (seeF hs 134 18 (.bool false) KR KR)
                                      refine yStep ha 135 KR ?_; intro l_ ha HK
                                      refine stepp ha 135 (.bool false) KR KR ?_; intro ax hax; exact HK _ _ _ hax rfl (Below.refl _ _)
                                    · skip
                                      intro a wr hn hd HW hs; have ha := hasNil hn hd
                                      have ha := ha.add (seeF hs 135 19 (.bool false) KR KR)
                                      exact yo ha KR rfl
                                    · skip
                                      intro a wr hn hd HW hs; have ha := hasNil hn hd
                                      have ha := ha.add (seeF hs 135 19 (.bool false) KR KR)
                                      have ha := ha.add (seeF hs 136 20 (undef) KR KR)
                                      refine yStep ha 137 KR ?_; intro l_ ha HK
                                      refine stepp ha 137 (.bool false) KR KR ?_; intro ax hax; exact HK _ _ _ hax rfl (Below.refl _ _)
                                  · skip
                                    intro a W1516 ha HW he hf
                                    replace ha := ha.add (gotF (m := 22) (j := 21) (d := 137) (v := .bool false) hf KR KR KR)
                                    clear he hf
                                    refine stepp ha 2 (.bool false) KR KR ?_; clear ha a; intro a ha
                                    refine endl ?_
                                    refine thenN (hK1496 _ _ ?_); clear hK1496
                                    refine wp_ret ?_
                                    obtain rfl := Option.some.inj h
                                    exact finv ha _ _ rfl (.tmp (v := .bool false) KR .nil) (.bool false) rfl ⟨rfl, HW.pick [] [] (by decide) (by decide) rfl KR⟩
                    · skip
                      replace h := ite_neg' h hp1388
                      refine condT ha KR KR (t := (t1378 != (IntKind.wrap .u64 a0.f2))) (ineq_t hp1388) ?_
                      refine wp_seq_k (fun K1389 hK1390 => ?_)
                      refine wp_region_lit ?_
                      refine stepp ha 2 (.bool false) KR KR ?_; clear ha a; intro a ha
                      refine endl ?_
                      refine thenN (hK1390 _ _ ?_); clear hK1390
                      refine wp_ret ?_
                      refine thenR ?_
                      obtain rfl := Option.some.inj h
                      exact finv ha _ _ rfl (.tmp (v := .bool false) KR .nil) (.bool false) rfl ⟨rfl, HW.pick [] [] (by decide) (by decide) rfl KR⟩
              · skip
                replace h := ite_neg' h hp1375
                refine regionG 42 KR KR ha HW [.fix (.string t1340), .fix (.int .i64 (t1340.size : Int)), .fix (.pointer (some ⟨b1310, 0, none⟩)), .fix (.slice A0_0 a0.f0.length c0_0), .fix (.int .i64 (a0.f0.length : Int)), .fix (.int .i64 (IntKind.wrap .i64 (8 * (a0.f0.length : Int)))), .fix (.int .i64 (IntKind.wrap .i64 (8 + (IntKind.wrap .i64 (8 * (a0.f0.length : Int)))))), .fix (.bool ((t1340.size : Int) != (IntKind.wrap .i64 (8 + (IntKind.wrap .i64 (8 * (a0.f0.length : Int))))))), .fix (.bool ((t1340.size : Int) != (IntKind.wrap .i64 (8 + (IntKind.wrap .i64 (8 * (a0.f0.length : Int))))))), .fix (.func (.func 13) #[] #[]), .fix (.string t1340), .fix (.int .u64 t1366), .fix (.pointer (some ⟨b1310, 3, none⟩)), .fix (.int .u32 a0.f2), .fix (.int .u64 (IntKind.wrap .u64 a0.f2)), .fix (.bool (t1366 != (IntKind.wrap .u64 a0.f2))), .fix (.bool (t1366 != (IntKind.wrap .u64 a0.f2))), .fix (.bool (t1366 != (IntKind.wrap .u64 a0.f2))), .fix (.func (.func 13) #[] #[]), .fix (.string t1340), .fix (.int .u64 t1371), .fix (.pointer (some ⟨b1310, 0, none⟩)), .fix (.slice A0_0 a0.f0.length c0_0), .fix (.int .i64 (a0.f0.length : Int)), .fix (.int .i64 (IntKind.wrap .i64 (8 * (a0.f0.length : Int)))), .fix (.int .u64 (IntKind.wrap .u64 (IntKind.wrap .i64 (8 * (a0.f0.length : Int))))), .fix (.bool (t1371 != (IntKind.wrap .u64 (IntKind.wrap .i64 (8 * (a0.f0.length : Int)))))), .fix (.bool (t1371 != (IntKind.wrap .u64 (IntKind.wrap .i64 (8 * (a0.f0.length : Int)))))), .fix (.bool (t1371 != (IntKind.wrap .u64 (IntKind.wrap .i64 (8 * (a0.f0.length : Int)))))), .fix undef, .fix undef, .fix undef, .fix (.bool true), .fix (.bool true), .fix undef, .fix undef, .fix undef, .fix undef, .fix undef, .fix undef, .fix undef, .fix (.bool true)] ?_ ?_
                · skip
                  refine ⟨?_, ?_, ?_, ?_, ?_, ?_, ?_, ?_, ?_, ?_, ?_, ?_, ?_, ?_, ?_, ?_, ?_, ?_, ?_, ?_, ?_, ?_, ?_, ?_, ?_, ?_, ?_, ?_, ?_, ?_, ?_, ?_, ?_, ?_, ?_, ?_, ?_, ?_, ?_, ?_, ?_, ?_, trivial⟩
                  · skip
                    intro a wr hn hd HW hs; have ha := hasNil hn hd
                    have ha := ha.add (seeE hs 3 (.string t1340) KR KR)
                    refine yStep ha 32 KR ?_; intro l_ ha HK
                    refine stepp ha 32 (.string t1340) KR KR ?_; intro ax hax; exact HK _ _ _ hax rfl (Below.refl _ _)
                  · skip
                    intro a wr hn hd HW hs; have ha := hasNil hn hd
                    have ha := ha.add (seeF hs 32 0 (.string t1340) KR KR)
                    refine yStep ha 33 KR ?_; intro l_ ha HK
                    refine stepp ha 33 (.int .i64 (t1340.size : Int)) KR KR ?_; intro ax hax; exact HK _ _ _ hax rfl (Below.refl _ _)
                  · skip
                    intro a wr hn hd HW hs; have ha := hasNil hn hd
                    have ha := ha.add (seeE hs 1 (.pointer (some ⟨b1310, 0, none⟩)) KR KR)
                    refine yStep ha 34 KR ?_; intro l_ ha HK
                    refine stepp ha 34 (.pointer (some ⟨b1310, 0, none⟩)) KR KR ?_; intro ax hax; exact HK _ _ _ hax rfl (Below.refl _ _)
                  · skip
                    intro a wr hn hd HW hs; have ha := hasNil hn hd
                    have ha := ha.add (seeF hs 34 2 (.pointer (some ⟨b1310, 0, none⟩)) KR KR)
                    refine yStep ha 35 KR ?_; intro l_ ha HK
                    refine stepl ha 35 (HW.ca (i := 0) (b := b1310) (C := #[.slice A0_0 a0.f0.length c0_0, .int .i64 a0.f1.f0, .string a0.f1.f1, .int .u32 a0.f2, .bool a0.f3]) (T := 27) (fr := (0, 0)) KR) 22 0 (.tmp 34) (.slice A0_0 a0.f0.length c0_0) rfl KR KR KR ?_; intro ax hax; exact HK _ _ _ hax rfl (Below.refl _ _)
                  · skip
                    intro a wr hn hd HW hs; have ha := hasNil hn hd
                    have ha := ha.add (seeF hs 35 3 (.slice A0_0 a0.f0.length c0_0) KR KR)
                    refine yStep ha 36 KR ?_; intro l_ ha HK
                    refine stepp ha 36 (.int .i64 (a0.f0.length : Int)) KR KR ?_; intro ax hax; exact HK _ _ _ hax rfl (Below.refl _ _)
                  · skip
                    intro a wr hn hd HW hs; have ha := hasNil hn hd
                    have ha := ha.add (seeF hs 36 4 (.int .i64 (a0.f0.length : Int)) KR KR)
                    refine yStep ha 37 KR ?_; intro l_ ha HK
                    refine stepp ha 37 (.int .i64 (IntKind.wrap .i64 (8 * (a0.f0.length : Int)))) KR KR ?_; intro ax hax; exact HK _ _ _ hax rfl (Below.refl _ _)
                  · skip
                    intro a wr hn hd HW hs; have ha := hasNil hn hd
                    have ha := ha.add (seeF hs 37 5 (.int .i64 (IntKind.wrap .i64 (8 * (a0.f0.length : Int)))) KR KR)
                    refine yStep ha 38 KR ?_; intro l_ ha HK
                    refine stepp ha 38 (.int .i64 (IntKind.wrap .i64 (8 + (IntKind.wrap .i64 (8 * (a0.f0.length : Int)))))) KR KR ?_; intro ax hax; exact HK _ _ _ hax rfl (Below.refl _ _)
                  · skip
                    intro a wr hn hd HW hs; have ha := hasNil hn hd
                    have ha := ha.add (seeF hs 33 1 (.int .i64 (t1340.size : Int)) KR KR)
                    have ha := ha.add (seeF hs 38 6 (.int .i64 (IntKind.wrap .i64 (8 + (IntKind.wrap .i64 (8 * (a0.f0.length : Int)))))) KR KR)
                    refine yStep ha 39 KR ?_; intro l_ ha HK
                    refine stepp ha 39 (.bool ((t1340.size : Int) != (IntKind.wrap .i64 (8 + (IntKind.wrap .i64 (8 * (a0.f0.length : Int))))))) KR KR ?_; intro ax hax; exact HK _ _ _ hax rfl (Below.refl _ _)
                  · skip
                    intro a wr hn hd HW hs; have ha := hasNil hn hd
                    have ha := ha.add (seeF hs 39 7 (.bool ((t1340.size : Int) != (IntKind.wrap .i64 (8 + (IntKind.wrap .i64 (8 * (a0.f0.length : Int))))))) KR KR)
                    refine yStep ha 40 KR ?_; intro l_ ha HK
                    refine stepp ha 40 (.bool ((t1340.size : Int) != (IntKind.wrap .i64 (8 + (IntKind.wrap .i64 (8 * (a0.f0.length : Int))))))) KR KR ?_; intro ax hax; exact HK _ _ _ hax rfl (Below.refl _ _)
                  · skip
                    intro a wr hn hd HW hs; have ha := hasNil hn hd
                    have ha := ha.add (seeE hs 5 (.func (.func 13) #[] #[]) KR KR)
                    have ha := ha.add (seeF hs 40 8 (.bool ((t1340.size : Int) != (IntKind.wrap .i64 (8 + (IntKind.wrap .i64 (8 * (a0.f0.length : Int))))))) KR KR)
                    have ha := ha.bool 40 KR (ineq_f hp1365)
                    refine yStep ha 41 KR ?_; intro l_ ha HK
                    refine stepp ha 41 (.func (.func 13) #[] #[]) KR KR ?_; intro ax hax; exact HK _ _ _ hax rfl (Below.refl _ _)
                  · skip
                    intro a wr hn hd HW hs; have ha := hasNil hn hd
                    have ha := ha.add (seeE hs 3 (.string t1340) KR KR)
                    have ha := ha.add (seeF hs 40 8 (.bool ((t1340.size : Int) != (IntKind.wrap .i64 (8 + (IntKind.wrap .i64 (8 * (a0.f0.length : Int))))))) KR KR)
                    have ha := ha.bool 40 KR (ineq_f hp1365)
                    refine yStep ha 42 KR ?_; intro l_ ha HK
                    refine stepp ha 42 (.string t1340) KR KR ?_; intro ax hax; exact HK _ _ _ hax rfl (Below.refl _ _)
                  · skip
                    intro a wr hn hd HW hs; have ha := hasNil hn hd
                    have ha := ha.add (seeF hs 41 9 (.func (.func 13) #[] #[]) KR KR)
                    have ha := ha.add (seeF hs 42 10 (.string t1340) KR KR)
                    have ha := ha.add (seeF hs 40 8 (.bool ((t1340.size : Int) != (IntKind.wrap .i64 (8 + (IntKind.wrap .i64 (8 * (a0.f0.length : Int))))))) KR KR)
                    have ha := ha.bool 40 KR (ineq_f hp1365)
                    refine yStep ha 43 KR ?_; intro l_ ha HK
                    refine stepc ha 43 KR KR (headgatelaw18_ProutReads_1.calls K t1340 0 4 t1366 _ ht1367) ?_; rintro e W1368 ⟨rfl, HX1369⟩
                    refine ⟨_, rfl, ?_⟩; intro ax hax; exact HK _ _ _ hax rfl HX1369.below
                  · skip
                    intro a wr hn hd HW hs; have ha := hasNil hn hd
                    have ha := ha.add (seeE hs 1 (.pointer (some ⟨b1310, 0, none⟩)) KR KR)
                    have ha := ha.add (seeF hs 40 8 (.bool ((t1340.size : Int) != (IntKind.wrap .i64 (8 + (IntKind.wrap .i64 (8 * (a0.f0.length : Int))))))) KR KR)
                    have ha := ha.bool 40 KR (ineq_f hp1365)
                    refine yStep ha 44 KR ?_; intro l_ ha HK
                    refine stepp ha 44 (.pointer (some ⟨b1310, 3, none⟩)) KR KR ?_; intro ax hax; exact HK _ _ _ hax rfl (Below.refl _ _)
                  · skip
                    intro a wr hn hd HW hs; have ha := hasNil hn hd
                    have ha := ha.add (seeF hs 44 12 (.pointer (some ⟨b1310, 3, none⟩)) KR KR)
                    have ha := ha.add (seeF hs 40 8 (.bool ((t1340.size : Int) != (IntKind.wrap .i64 (8 + (IntKind.wrap .i64 (8 * (a0.f0.length : Int))))))) KR KR)
                    have ha := ha.bool 40 KR (ineq_f hp1365)
                    refine yStep ha 45 KR ?_; intro l_ ha HK
                    refine stepl ha 45 (HW.ca (i := 0) (b := b1310) (C := #[.slice A0_0 a0.f0.length c0_0, .int .i64 a0.f1.f0, .string a0.f1.f1, .int .u32 a0.f2, .bool a0.f3]) (T := 27) (fr := (0, 0)) KR) 25 3 (.tmp 44) (.int .u32 a0.f2) rfl KR KR KR ?_; intro ax hax; exact HK _ _ _ hax rfl (Below.refl _ _)
                  · skip
                    intro a wr hn hd HW hs; have ha := hasNil hn hd
                    have ha := ha.add (seeF hs 45 13 (.int .u32 a0.f2) KR KR)
                    have ha := ha.add (seeF hs 40 8 (.bool ((t1340.size : Int) != (IntKind.wrap .i64 (8 + (IntKind.wrap .i64 (8 * (a0.f0.length : Int))))))) KR KR)
                    have ha := ha.bool 40 KR (ineq_f hp1365)
                    refine yStep ha 46 KR ?_; intro l_ ha HK
                    refine stepp ha 46 (.int .u64 (IntKind.wrap .u64 a0.f2)) KR KR ?_; intro ax hax; exact HK _ _ _ hax rfl (Below.refl _ _)
                  · skip
                    intro a wr hn hd HW hs; have ha := hasNil hn hd
                    have ha := ha.add (seeF hs 43 11 (.int .u64 t1366) KR KR)
                    have ha := ha.add (seeF hs 46 14 (.int .u64 (IntKind.wrap .u64 a0.f2)) KR KR)
                    have ha := ha.add (seeF hs 40 8 (.bool ((t1340.size : Int) != (IntKind.wrap .i64 (8 + (IntKind.wrap .i64 (8 * (a0.f0.length : Int))))))) KR KR)
                    have ha := ha.bool 40 KR (ineq_f hp1365)
                    refine yStep ha 47 KR ?_; intro l_ ha HK
                    refine stepp ha 47 (.bool (t1366 != (IntKind.wrap .u64 a0.f2))) KR KR ?_; intro ax hax; exact HK _ _ _ hax rfl (Below.refl _ _)
                  · skip
                    intro a wr hn hd HW hs; have ha := hasNil hn hd
                    have ha := ha.add (seeF hs 40 8 (.bool ((t1340.size : Int) != (IntKind.wrap .i64 (8 + (IntKind.wrap .i64 (8 * (a0.f0.length : Int))))))) KR KR)
                    have ha := ha.bool 40 KR (ineq_f hp1365)
                    have ha := ha.add (seeF hs 47 15 (.bool (t1366 != (IntKind.wrap .u64 a0.f2))) KR KR)
                    refine yStep ha 48 KR ?_; intro l_ ha HK
                    refine stepp ha 48 (.bool (t1366 != (IntKind.wrap .u64 a0.f2))) KR KR ?_; intro ax hax; exact HK _ _ _ hax rfl (Below.refl _ _)
                  · skip
                    intro a wr hn hd HW hs; have ha := hasNil hn hd
                    have ha := ha.add (seeF hs 48 16 (.bool (t1366 != (IntKind.wrap .u64 a0.f2))) KR KR)
                    refine yStep ha 49 KR ?_; intro l_ ha HK
                    refine stepp ha 49 (.bool (t1366 != (IntKind.wrap .u64 a0.f2))) KR KR ?_; intro ax hax; exact HK _ _ _ hax rfl (Below.refl _ _)
                  · skip
                    intro a wr hn hd HW hs; have ha := hasNil hn hd
                    have ha := ha.add (seeE hs 5 (.func (.func 13) #[] #[]) KR KR)
                    have ha := ha.add (seeF hs 49 17 (.bool (t1366 != (IntKind.wrap .u64 a0.f2))) KR KR)
                    have ha := ha.bool 49 KR (ineq_f hp1370)
                    refine yStep ha 50 KR ?_; intro l_ ha HK
                    refine stepp ha 50 (.func (.func 13) #[] #[]) KR KR ?_; intro ax hax; exact HK _ _ _ hax rfl (Below.refl _ _)
                  · skip
                    intro a wr hn hd HW hs; have ha := hasNil hn hd
                    have ha := ha.add (seeE hs 3 (.string t1340) KR KR)
                    have ha := ha.add (seeF hs 49 17 (.bool (t1366 != (IntKind.wrap .u64 a0.f2))) KR KR)
                    have ha := ha.bool 49 KR (ineq_f hp1370)
                    refine yStep ha 51 KR ?_; intro l_ ha HK
                    refine stepp ha 51 (.string t1340) KR KR ?_; intro ax hax; exact HK _ _ _ hax rfl (Below.refl _ _)
                  · skip
                    intro a wr hn hd HW hs; have ha := hasNil hn hd
                    have ha := ha.add (seeF hs 50 18 (.func (.func 13) #[] #[]) KR KR)
                    have ha := ha.add (seeF hs 51 19 (.string t1340) KR KR)
                    have ha := ha.add (seeF hs 49 17 (.bool (t1366 != (IntKind.wrap .u64 a0.f2))) KR KR)
                    have ha := ha.bool 49 KR (ineq_f hp1370)
                    refine yStep ha 52 KR ?_; intro l_ ha HK
                    refine stepc ha 52 KR KR (headgatelaw18_ProutReads_1.calls K t1340 4 4 t1371 _ ht1372) ?_; rintro e W1373 ⟨rfl, HX1374⟩
                    refine ⟨_, rfl, ?_⟩; intro ax hax; exact HK _ _ _ hax rfl HX1374.below
                  · skip
                    intro a wr hn hd HW hs; have ha := hasNil hn hd
                    have ha := ha.add (seeE hs 1 (.pointer (some ⟨b1310, 0, none⟩)) KR KR)
                    have ha := ha.add (seeF hs 49 17 (.bool (t1366 != (IntKind.wrap .u64 a0.f2))) KR KR)
                    have ha := ha.bool 49 KR (ineq_f hp1370)
                    refine yStep ha 53 KR ?_; intro l_ ha HK
                    refine stepp ha 53 (.pointer (some ⟨b1310, 0, none⟩)) KR KR ?_; intro ax hax; exact HK _ _ _ hax rfl (Below.refl _ _)
                  · skip
                    intro a wr hn hd HW hs; have ha := hasNil hn hd
                    have ha := ha.add (seeF hs 53 21 (.pointer (some ⟨b1310, 0, none⟩)) KR KR)
                    have ha := ha.add (seeF hs 49 17 (.bool (t1366 != (IntKind.wrap .u64 a0.f2))) KR KR)
                    have ha := ha.bool 49 KR (ineq_f hp1370)
                    refine yStep ha 54 KR ?_; intro l_ ha HK
                    refine stepl ha 54 (HW.ca (i := 0) (b := b1310) (C := #[.slice A0_0 a0.f0.length c0_0, .int .i64 a0.f1.f0, .string a0.f1.f1, .int .u32 a0.f2, .bool a0.f3]) (T := 27) (fr := (0, 0)) KR) 22 0 (.tmp 53) (.slice A0_0 a0.f0.length c0_0) rfl KR KR KR ?_; intro ax hax; exact HK _ _ _ hax rfl (Below.refl _ _)
                  · skip
                    intro a wr hn hd HW hs; have ha := hasNil hn hd
                    have ha := ha.add (seeF hs 54 22 (.slice A0_0 a0.f0.length c0_0) KR KR)
                    have ha := ha.add (seeF hs 49 17 (.bool (t1366 != (IntKind.wrap .u64 a0.f2))) KR KR)
                    have ha := ha.bool 49 KR (ineq_f hp1370)
                    refine yStep ha 55 KR ?_; intro l_ ha HK
                    refine stepp ha 55 (.int .i64 (a0.f0.length : Int)) KR KR ?_; intro ax hax; exact HK _ _ _ hax rfl (Below.refl _ _)
                  · skip
                    intro a wr hn hd HW hs; have ha := hasNil hn hd
                    have ha := ha.add (seeF hs 55 23 (.int .i64 (a0.f0.length : Int)) KR KR)
                    have ha := ha.add (seeF hs 49 17 (.bool (t1366 != (IntKind.wrap .u64 a0.f2))) KR KR)
                    have ha := ha.bool 49 KR (ineq_f hp1370)
                    refine yStep ha 56 KR ?_; intro l_ ha HK
                    refine stepp ha 56 (.int .i64 (IntKind.wrap .i64 (8 * (a0.f0.length : Int)))) KR KR ?_; intro ax hax; exact HK _ _ _ hax rfl (Below.refl _ _)
                  · skip
                    intro a wr hn hd HW hs; have ha := hasNil hn hd
                    have ha := ha.add (seeF hs 56 24 (.int .i64 (IntKind.wrap .i64 (8 * (a0.f0.length : Int)))) KR KR)
                    have ha := ha.add (seeF hs 49 17 (.bool (t1366 != (IntKind.wrap .u64 a0.f2))) KR KR)
                    have ha := ha.bool 49 KR (ineq_f hp1370)
                    refine yStep ha 57 KR ?_; intro l_ ha HK
                    refine stepp ha 57 (.int .u64 (IntKind.wrap .u64 (IntKind.wrap .i64 (8 * (a0.f0.length : Int))))) KR KR ?_; intro ax hax; exact HK _ _ _ hax rfl (Below.refl _ _)
                  · skip
                    intro a wr hn hd HW hs; have ha := hasNil hn hd
                    have ha := ha.add (seeF hs 52 20 (.int .u64 t1371) KR KR)
                    have ha := ha.add (seeF hs 57 25 (.int .u64 (IntKind.wrap .u64 (IntKind.wrap .i64 (8 * (a0.f0.length : Int))))) KR KR)
                    have ha := ha.add (seeF hs 49 17 (.bool (t1366 != (IntKind.wrap .u64 a0.f2))) KR KR)
                    have ha := ha.bool 49 KR (ineq_f hp1370)
                    refine yStep ha 58 KR ?_; intro l_ ha HK
                    refine stepp ha 58 (.bool (t1371 != (IntKind.wrap .u64 (IntKind.wrap .i64 (8 * (a0.f0.length : Int)))))) KR KR ?_; intro ax hax; exact HK _ _ _ hax rfl (Below.refl _ _)
                  · skip
                    intro a wr hn hd HW hs; have ha := hasNil hn hd
                    have ha := ha.add (seeF hs 49 17 (.bool (t1366 != (IntKind.wrap .u64 a0.f2))) KR KR)
                    have ha := ha.bool 49 KR (ineq_f hp1370)
                    have ha := ha.add (seeF hs 58 26 (.bool (t1371 != (IntKind.wrap .u64 (IntKind.wrap .i64 (8 * (a0.f0.length : Int)))))) KR KR)
                    refine yStep ha 59 KR ?_; intro l_ ha HK
                    refine stepp ha 59 (.bool (t1371 != (IntKind.wrap .u64 (IntKind.wrap .i64 (8 * (a0.f0.length : Int)))))) KR KR ?_; intro ax hax; exact HK _ _ _ hax rfl (Below.refl _ _)
                  · skip
                    intro a wr hn hd HW hs; have ha := hasNil hn hd
                    have ha := ha.add (seeF hs 59 27 (.bool (t1371 != (IntKind.wrap .u64 (IntKind.wrap .i64 (8 * (a0.f0.length : Int)))))) KR KR)
                    refine yStep ha 60 KR ?_; intro l_ ha HK
                    refine stepp ha 60 (.bool (t1371 != (IntKind.wrap .u64 (IntKind.wrap .i64 (8 * (a0.f0.length : Int)))))) KR KR ?_; intro ax hax; exact HK _ _ _ hax rfl (Below.refl _ _)
                  · skip
                    intro a wr hn hd HW hs; have ha := hasNil hn hd
                    have ha := ha.add (seeE hs 4 (.string t1354) KR KR)
                    have ha := ha.add (seeF hs 60 28 (.bool (t1371 != (IntKind.wrap .u64 (IntKind.wrap .i64 (8 * (a0.f0.length : Int)))))) KR KR)
                    have ha := ha.bool 60 KR (ineq_t hp1375)
                    exact yo ha KR rfl
                  · skip
                    intro a wr hn hd HW hs; have ha := hasNil hn hd
                    have ha := ha.add (seeF hs 61 29 (undef) KR KR)
                    have ha := ha.add (seeF hs 60 28 (.bool (t1371 != (IntKind.wrap .u64 (IntKind.wrap .i64 (8 * (a0.f0.length : Int)))))) KR KR)
                    have ha := ha.bool 60 KR (ineq_t hp1375)
                    exact yo ha KR rfl
                  · skip
                    intro a wr hn hd HW hs; have ha := hasNil hn hd
                    have ha := ha.add (seeF hs 62 30 (undef) KR KR)
                    have ha := ha.add (seeF hs 60 28 (.bool (t1371 != (IntKind.wrap .u64 (IntKind.wrap .i64 (8 * (a0.f0.length : Int)))))) KR KR)
                    have ha := ha.bool 60 KR (ineq_t hp1375)
                    exact yo ha KR rfl
                  · skip
                    intro a wr hn hd HW hs; have ha := hasNil hn hd
                    have ha := ha.add (seeF hs 60 28 (.bool (t1371 != (IntKind.wrap .u64 (IntKind.wrap .i64 (8 * (a0.f0.length : Int)))))) KR KR)
                    have ha := ha.bool 60 KR (ineq_t hp1375)
                    have ha := ha.add (seeF hs 63 31 (undef) KR KR)
                    refine yStep ha 64 KR ?_; intro l_ ha HK
                    refine stepp ha 64 (.bool true) KR KR ?_; intro ax hax; exact HK _ _ _ hax rfl (Below.refl _ _)
                  · skip
                    intro a wr hn hd HW hs; have ha := hasNil hn hd
                    have ha := ha.add (seeF hs 64 32 (.bool true) KR KR)
                    refine yStep ha 65 KR ?_; intro l_ ha HK
                    refine stepp ha 65 (.bool true) KR KR ?_; intro ax hax; exact HK _ _ _ hax rfl (Below.refl _ _)
                  · skip
                    intro a wr hn hd HW hs; have ha := hasNil hn hd
                    have ha := ha.add (seeE hs 5 (.func (.func 13) #[] #[]) KR KR)
                    have ha := ha.add (seeF hs 65 33 (.bool true) KR KR)
                    exact yo ha KR rfl
                  · skip
                    intro a wr hn hd HW hs; have ha := hasNil hn hd
                    have ha := ha.add (seeE hs 4 (.string t1354) KR KR)
                    have ha := ha.add (seeF hs 65 33 (.bool true) KR KR)
                    exact yo ha KR rfl
                  · skip
                    intro a wr hn hd HW hs; have ha := hasNil hn hd
                    have ha := ha.add (seeF hs 66 34 (undef) KR KR)
                    have ha := ha.add (seeF hs 67 35 (undef) KR KR)
                    have ha := ha.add (seeF hs 65 33 (.bool true) KR KR)
                    exact yo ha KR rfl
                  · skip
                    intro a wr hn hd HW hs; have ha := hasNil hn hd
                    have ha := ha.add (seeE hs 1 (.pointer (some ⟨b1310, 0, none⟩)) KR KR)
                    have ha := ha.add (seeF hs 65 33 (.bool true) KR KR)
                    exact yo ha KR rfl
                  · skip
                    intro a wr hn hd HW hs; have ha := hasNil hn hd
                    have ha := ha.add (seeF hs 69 37 (undef) KR KR)
                    have ha := ha.add (seeF hs 65 33 (.bool true) KR KR)
                    exact yo ha KR rfl
                  · skip
                    intro a wr hn hd HW hs; have ha := hasNil hn hd
                    have ha := ha.add (seeF hs 70 38 (undef) KR KR)
                    have ha := ha.add (seeF hs 65 33 (.bool true) KR KR)
                    exact yo ha KR rfl
                  · skip
                    intro a wr hn hd HW hs; have ha := hasNil hn hd
                    have ha := ha.add (seeF hs 68 36 (undef) KR KR)
                    have ha := ha.add (seeF hs 71 39 (undef) KR KR)
                    have ha := ha.add (seeF hs 65 33 (.bool true) KR KR)
                    exact yo ha KR rfl
                  · skip
                    intro a wr hn hd HW hs; have ha := hasNil hn hd
                    have ha := ha.add (seeF hs 65 33 (.bool true) KR KR)
                    have ha := ha.add (seeF hs 72 40 (undef) KR KR)
                    refine yStep ha 73 KR ?_; intro l_ ha HK
                    refine stepp ha 73 (.bool true) KR KR ?_; intro ax hax; exact HK _ _ _ hax rfl (Below.refl _ _)
                · skip
                  intro a W1383 ha HW he hf
                  replace ha := ha.add (he 1 (.pointer (some ⟨b1310, 0, none⟩)) KR KR)
                  replace ha := ha.add (he 3 (.string t1340) KR KR)
                  replace ha := ha.add (he 4 (.string t1354) KR KR)
                  replace ha := ha.add (he 5 (.func (.func 13) #[] #[]) KR KR)
                  replace ha := ha.add (gotF (m := 42) (j := 41) (d := 73) (v := .bool true) hf KR KR KR)
                  clear he hf
                  refine endl ?_
                  refine thenN (hK1364 _ _ ?_); clear hK1364
                  refine condT ha KR KR (t := true) (rfl) ?_
                  refine wp_seq_k (fun K1391 hK1392 => ?_)
                  refine wp_region_lit ?_
                  refine stepp ha 2 (.bool false) KR KR ?_; clear ha a; intro a ha
                  refine endl ?_
                  refine thenN (hK1392 _ _ ?_); clear hK1392
                  refine wp_ret ?_
                  refine thenR ?_
                  obtain rfl := Option.some.inj h
                  exact finv ha _ _ rfl (.tmp (v := .bool false) KR .nil) (.bool false) rfl ⟨rfl, HW.pick [] [] (by decide) (by decide) rfl KR⟩
            · skip
              replace h := ite_neg' h hp1370
              refine regionG 42 KR KR ha HW [.fix (.string t1340), .fix (.int .i64 (t1340.size : Int)), .fix (.pointer (some ⟨b1310, 0, none⟩)), .fix (.slice A0_0 a0.f0.length c0_0), .fix (.int .i64 (a0.f0.length : Int)), .fix (.int .i64 (IntKind.wrap .i64 (8 * (a0.f0.length : Int)))), .fix (.int .i64 (IntKind.wrap .i64 (8 + (IntKind.wrap .i64 (8 * (a0.f0.length : Int)))))), .fix (.bool ((t1340.size : Int) != (IntKind.wrap .i64 (8 + (IntKind.wrap .i64 (8 * (a0.f0.length : Int))))))), .fix (.bool ((t1340.size : Int) != (IntKind.wrap .i64 (8 + (IntKind.wrap .i64 (8 * (a0.f0.length : Int))))))), .fix (.func (.func 13) #[] #[]), .fix (.string t1340), .fix (.int .u64 t1366), .fix (.pointer (some ⟨b1310, 3, none⟩)), .fix (.int .u32 a0.f2), .fix (.int .u64 (IntKind.wrap .u64 a0.f2)), .fix (.bool (t1366 != (IntKind.wrap .u64 a0.f2))), .fix (.bool (t1366 != (IntKind.wrap .u64 a0.f2))), .fix (.bool (t1366 != (IntKind.wrap .u64 a0.f2))), .fix undef, .fix undef, .fix undef, .fix undef, .fix undef, .fix undef, .fix undef, .fix undef, .fix undef, .fix (.bool true), .fix (.bool true), .fix undef, .fix undef, .fix undef, .fix (.bool true), .fix (.bool true), .fix undef, .fix undef, .fix undef, .fix undef, .fix undef, .fix undef, .fix undef, .fix (.bool true)] ?_ ?_
              · skip
                refine ⟨?_, ?_, ?_, ?_, ?_, ?_, ?_, ?_, ?_, ?_, ?_, ?_, ?_, ?_, ?_, ?_, ?_, ?_, ?_, ?_, ?_, ?_, ?_, ?_, ?_, ?_, ?_, ?_, ?_, ?_, ?_, ?_, ?_, ?_, ?_, ?_, ?_, ?_, ?_, ?_, ?_, ?_, trivial⟩
                · skip
                  intro a wr hn hd HW hs; have ha := hasNil hn hd
                  have ha := ha.add (seeE hs 3 (.string t1340) KR KR)
                  refine yStep ha 32 KR ?_; intro l_ ha HK
                  refine stepp ha 32 (.string t1340) KR KR ?_; intro ax hax; exact HK _ _ _ hax rfl (Below.refl _ _)
                · skip
                  intro a wr hn hd HW hs; have ha := hasNil hn hd
                  have ha := ha.add (seeF hs 32 0 (.string t1340) KR KR)
                  refine yStep ha 33 KR ?_; intro l_ ha HK
                  refine stepp ha 33 (.int .i64 (t1340.size : Int)) KR KR ?_; intro ax hax; exact HK _ _ _ hax rfl (Below.refl _ _)
                · skip
                  intro a wr hn hd HW hs; have ha := hasNil hn hd
                  have ha := ha.add (seeE hs 1 (.pointer (some ⟨b1310, 0, none⟩)) KR KR)
                  refine yStep ha 34 KR ?_; intro l_ ha HK
                  refine stepp ha 34 (.pointer (some ⟨b1310, 0, none⟩)) KR KR ?_; intro ax hax; exact HK _ _ _ hax rfl (Below.refl _ _)
                · skip
                  intro a wr hn hd HW hs; have ha := hasNil hn hd
                  have ha := ha.add (seeF hs 34 2 (.pointer (some ⟨b1310, 0, none⟩)) KR KR)
                  refine yStep ha 35 KR ?_; intro l_ ha HK
                  refine stepl ha 35 (HW.ca (i := 0) (b := b1310) (C := #[.slice A0_0 a0.f0.length c0_0, .int .i64 a0.f1.f0, .string a0.f1.f1, .int .u32 a0.f2, .bool a0.f3]) (T := 27) (fr := (0, 0)) KR) 22 0 (.tmp 34) (.slice A0_0 a0.f0.length c0_0) rfl KR KR KR ?_; intro ax hax; exact HK _ _ _ hax rfl (Below.refl _ _)
                · skip
                  intro a wr hn hd HW hs; have ha := hasNil hn hd
                  have ha := ha.add (seeF hs 35 3 (.slice A0_0 a0.f0.length c0_0) KR KR)
                  refine yStep ha 36 KR ?_; intro l_ ha HK
                  refine stepp ha 36 (.int .i64 (a0.f0.length : Int)) KR KR ?_; intro ax hax; exact HK _ _ _ hax rfl (Below.refl _ _)
                · skip
                  intro a wr hn hd HW hs; have ha := hasNil hn hd
                  have ha := ha.add (seeF hs 36 4 (.int .i64 (a0.f0.length : Int)) KR KR)
                  refine yStep ha 37 KR ?_; intro l_ ha HK
                  refine stepp ha 37 (.int .i64 (IntKind.wrap .i64 (8 * (a0.f0.length : Int)))) KR KR ?_; intro ax hax; exact HK _ _ _ hax rfl (Below.refl _ _)
                · skip
                  intro a wr hn hd HW hs; have ha := hasNil hn hd
                  have ha := ha.add (seeF hs 37 5 (.int .i64 (IntKind.wrap .i64 (8 * (a0.f0.length : Int)))) KR KR)
                  refine yStep ha 38 KR ?_; intro l_ ha HK
                  refine stepp ha 38 (.int .i64 (IntKind.wrap .i64 (8 + (IntKind.wrap .i64 (8 * (a0.f0.length : Int)))))) KR KR ?_; intro ax hax; exact HK _ _ _ hax rfl (Below.refl _ _)
                · skip
                  intro a wr hn hd HW hs; have ha := hasNil hn hd
                  have ha := ha.add (seeF hs 33 1 (.int .i64 (t1340.size : Int)) KR KR)
                  have ha := ha.add (seeF hs 38 6 (.int .i64 (IntKind.wrap .i64 (8 + (IntKind.wrap .i64 (8 * (a0.f0.length : Int)))))) KR KR)
                  refine yStep ha 39 KR ?_; intro l_ ha HK
                  refine stepp ha 39 (.bool ((t1340.size : Int) != (IntKind.wrap .i64 (8 + (IntKind.wrap .i64 (8 * (a0.f0.length : Int))))))) KR KR ?_; intro ax hax; exact HK _ _ _ hax rfl (Below.refl _ _)
                · skip
                  intro a wr hn hd HW hs; have ha := hasNil hn hd
                  have ha := ha.add (seeF hs 39 7 (.bool ((t1340.size : Int) != (IntKind.wrap .i64 (8 + (IntKind.wrap .i64 (8 * (a0.f0.length : Int))))))) KR KR)
                  refine yStep ha 40 KR ?_; intro l_ ha HK
                  refine stepp ha 40 (.bool ((t1340.size : Int) != (IntKind.wrap .i64 (8 + (IntKind.wrap .i64 (8 * (a0.f0.length : Int))))))) KR KR ?_; intro ax hax; exact HK _ _ _ hax rfl (Below.refl _ _)
                · skip
                  intro a wr hn hd HW hs; have ha := hasNil hn hd
                  have ha := ha.add (seeE hs 5 (.func (.func 13) #[] #[]) KR KR)
                  have ha := ha.add (seeF hs 40 8 (.bool ((t1340.size : Int) != (IntKind.wrap .i64 (8 + (IntKind.wrap .i64 (8 * (a0.f0.length : Int))))))) KR KR)
                  have ha := ha.bool 40 KR (ineq_f hp1365)
                  refine yStep ha 41 KR ?_; intro l_ ha HK
                  refine stepp ha 41 (.func (.func 13) #[] #[]) KR KR ?_; intro ax hax; exact HK _ _ _ hax rfl (Below.refl _ _)
                · skip
                  intro a wr hn hd HW hs; have ha := hasNil hn hd
                  have ha := ha.add (seeE hs 3 (.string t1340) KR KR)
                  have ha := ha.add (seeF hs 40 8 (.bool ((t1340.size : Int) != (IntKind.wrap .i64 (8 + (IntKind.wrap .i64 (8 * (a0.f0.length : Int))))))) KR KR)
                  have ha := ha.bool 40 KR (ineq_f hp1365)
                  refine yStep ha 42 KR ?_; intro l_ ha HK
                  refine stepp ha 42 (.string t1340) KR KR ?_; intro ax hax; exact HK _ _ _ hax rfl (Below.refl _ _)
                · skip
                  intro a wr hn hd HW hs; have ha := hasNil hn hd
                  have ha := ha.add (seeF hs 41 9 (.func (.func 13) #[] #[]) KR KR)
                  have ha := ha.add (seeF hs 42 10 (.string t1340) KR KR)
                  have ha := ha.add (seeF hs 40 8 (.bool ((t1340.size : Int) != (IntKind.wrap .i64 (8 + (IntKind.wrap .i64 (8 * (a0.f0.length : Int))))))) KR KR)
                  have ha := ha.bool 40 KR (ineq_f hp1365)
                  refine yStep ha 43 KR ?_; intro l_ ha HK
                  refine stepc ha 43 KR KR (headgatelaw18_ProutReads_1.calls K t1340 0 4 t1366 _ ht1367) ?_; rintro e W1368 ⟨rfl, HX1369⟩
                  refine ⟨_, rfl, ?_⟩; intro ax hax; exact HK _ _ _ hax rfl HX1369.below
                · skip
                  intro a wr hn hd HW hs; have ha := hasNil hn hd
                  have ha := ha.add (seeE hs 1 (.pointer (some ⟨b1310, 0, none⟩)) KR KR)
                  have ha := ha.add (seeF hs 40 8 (.bool ((t1340.size : Int) != (IntKind.wrap .i64 (8 + (IntKind.wrap .i64 (8 * (a0.f0.length : Int))))))) KR KR)
                  have ha := ha.bool 40 KR (ineq_f hp1365)
                  refine yStep ha 44 KR ?_; intro l_ ha HK
                  refine stepp ha 44 (.pointer (some ⟨b1310, 3, none⟩)) KR KR ?_; intro ax hax; exact HK _ _ _ hax rfl (Below.refl _ _)
                · skip
                  intro a wr hn hd HW hs; have ha := hasNil hn hd
                  have ha := ha.add (seeF hs 44 12 (.pointer (some ⟨b1310, 3, none⟩)) KR KR)
                  have ha := ha.add (seeF hs 40 8 (.bool ((t1340.size : Int) != (IntKind.wrap .i64 (8 + (IntKind.wrap .i64 (8 * (a0.f0.length : Int))))))) KR KR)
                  have ha := ha.bool 40 KR (ineq_f hp1365)
                  refine yStep ha 45 KR ?_; intro l_ ha HK
                  refine stepl ha 45 (HW.ca (i := 0) (b := b1310) (C := #[.slice A0_0 a0.f0.length c0_0, .int .i64 a0.f1.f0, .string a0.f1.f1, .int .u32 a0.f2, .bool a0.f3]) (T := 27) (fr := (0, 0)) KR) 25 3 (.tmp 44) (.int .u32 a0.f2) rfl KR KR KR ?_; intro ax hax; exact HK _ _ _ hax rfl (Below.refl _ _)
                · skip
                  intro a wr hn hd HW hs; have ha := hasNil hn hd
                  have ha := ha.add (seeF hs 45 13 (.int .u32 a0.f2) KR KR)
                  have ha := ha.add (seeF hs 40 8 (.bool ((t1340.size : Int) != (IntKind.wrap .i64 (8 + (IntKind.wrap .i64 (8 * (a0.f0.length : Int))))))) KR KR)
                  have ha := ha.bool 40 KR (ineq_f hp1365)
                  refine yStep ha 46 KR ?_; intro l_ ha HK
                  refine stepp ha 46 (.int .u64 (IntKind.wrap .u64 a0.f2)) KR KR ?_; intro ax hax; exact HK _ _ _ hax rfl (Below.refl _ _)
                · skip
                  intro a wr hn hd HW hs; have ha := hasNil hn hd
                  have ha := ha.add (seeF hs 43 11 (.int .u64 t1366) KR KR)
                  have ha := ha.add (seeF hs 46 14 (.int .u64 (IntKind.wrap .u64 a0.f2)) KR KR)
                  have ha := ha.add (seeF hs 40 8 (.bool ((t1340.size : Int) != (IntKind.wrap .i64 (8 + (IntKind.wrap .i64 (8 * (a0.f0.length : Int))))))) KR KR)
                  have ha := ha.bool 40 KR (ineq_f hp1365)
                  refine yStep ha 47 KR ?_; intro l_ ha HK
                  refine stepp ha 47 (.bool (t1366 != (IntKind.wrap .u64 a0.f2))) KR KR ?_; intro ax hax; exact HK _ _ _ hax rfl (Below.refl _ _)
                · skip
                  intro a wr hn hd HW hs; have ha := hasNil hn hd
                  have ha := ha.add (seeF hs 40 8 (.bool ((t1340.size : Int) != (IntKind.wrap .i64 (8 + (IntKind.wrap .i64 (8 * (a0.f0.length : Int))))))) KR KR)
                  have ha := ha.bool 40 KR (ineq_f hp1365)
                  have ha := ha.add (seeF hs 47 15 (.bool (t1366 != (IntKind.wrap .u64 a0.f2))) KR KR)
                  refine yStep ha 48 KR ?_; intro l_ ha HK
                  refine stepp ha 48 (.bool (t1366 != (IntKind.wrap .u64 a0.f2))) KR KR ?_; intro ax hax; exact HK _ _ _ hax rfl (Below.refl _ _)
                · skip
                  intro a wr hn hd HW hs; have ha := hasNil hn hd
                  have ha := ha.add (seeF hs 48 16 (.bool (t1366 != (IntKind.wrap .u64 a0.f2))) KR KR)
                  refine yStep ha 49 KR ?_; intro l_ ha HK
                  refine stepp ha 49 (.bool (t1366 != (IntKind.wrap .u64 a0.f2))) KR KR ?_; intro ax hax; exact HK _ _ _ hax rfl (Below.refl _ _)
                · skip
                  intro a wr hn hd HW hs; have ha := hasNil hn hd
                  have ha := ha.add (seeE hs 5 (.func (.func 13) #[] #[]) KR KR)
                  have ha := ha.add (seeF hs 49 17 (.bool (t1366 != (IntKind.wrap .u64 a0.f2))) KR KR)
                  have ha := ha.bool 49 KR (ineq_t hp1370)
                  exact yo ha KR rfl
                · skip
                  intro a wr hn hd HW hs; have ha := hasNil hn hd
                  have ha := ha.add (seeE hs 3 (.string t1340) KR KR)
                  have ha := ha.add (seeF hs 49 17 (.bool (t1366 != (IntKind.wrap .u64 a0.f2))) KR KR)
                  have ha := ha.bool 49 KR (ineq_t hp1370)
                  exact yo ha KR rfl
                · skip
                  intro a wr hn hd HW hs; have ha := hasNil hn hd
                  have ha := ha.add (seeF hs 50 18 (undef) KR KR)
                  have ha := ha.add (seeF hs 51 19 (undef) KR KR)
                  have ha := ha.add (seeF hs 49 17 (.bool (t1366 != (IntKind.wrap .u64 a0.f2))) KR KR)
                  have ha := ha.bool 49 KR (ineq_t hp1370)
                  exact yo ha KR rfl
                · skip
                  intro a wr hn hd HW hs; have ha := hasNil hn hd
                  have ha := ha.add (seeE hs 1 (.pointer (some ⟨b1310, 0, none⟩)) KR KR)
                  have ha := ha.add (seeF hs 49 17 (.bool (t1366 != (IntKind.wrap .u64 a0.f2))) KR KR)
                  have ha := ha.bool 49 KR (ineq_t hp1370)
                  exact yo ha KR rfl
                · skip
                  intro a wr hn hd HW hs; have ha := hasNil hn hd
                  have ha := ha.add (seeF hs 53 21 (undef) KR KR)
                  have ha := ha.add (seeF hs 49 17 (.bool (t1366 != (IntKind.wrap .u64 a0.f2))) KR KR)
                  have ha := ha.bool 49 KR (ineq_t hp1370)
                  exact yo ha KR rfl
                · skip
                  intro a wr hn hd HW hs; have ha := hasNil hn hd
                  have ha := ha.add (seeF hs 54 22 (undef) KR KR)
                  have ha := ha.add (seeF hs 49 17 (.bool (t1366 != (IntKind.wrap .u64 a0.f2))) KR KR)
                  have ha := ha.bool 49 KR (ineq_t hp1370)
                  exact yo ha KR rfl
                · skip
                  intro a wr hn hd HW hs; have ha := hasNil hn hd
                  have ha := ha.add (seeF hs 55 23 (undef) KR KR)
                  have ha := ha.add (seeF hs 49 17 (.bool (t1366 != (IntKind.wrap .u64 a0.f2))) KR KR)
                  have ha := ha.bool 49 KR (ineq_t hp1370)
                  exact yo ha KR rfl
                · skip
                  intro a wr hn hd HW hs; have ha := hasNil hn hd
                  have ha := ha.add (seeF hs 56 24 (undef) KR KR)
                  have ha := ha.add (seeF hs 49 17 (.bool (t1366 != (IntKind.wrap .u64 a0.f2))) KR KR)
                  have ha := ha.bool 49 KR (ineq_t hp1370)
                  exact yo ha KR rfl
                · skip
                  intro a wr hn hd HW hs; have ha := hasNil hn hd
                  have ha := ha.add (seeF hs 52 20 (undef) KR KR)
                  have ha := ha.add (seeF hs 57 25 (undef) KR KR)
                  have ha := ha.add (seeF hs 49 17 (.bool (t1366 != (IntKind.wrap .u64 a0.f2))) KR KR)
                  have ha := ha.bool 49 KR (ineq_t hp1370)
                  exact yo ha KR rfl
                · skip
                  intro a wr hn hd HW hs; have ha := hasNil hn hd
                  have ha := ha.add (seeF hs 49 17 (.bool (t1366 != (IntKind.wrap .u64 a0.f2))) KR KR)
                  have ha := ha.bool 49 KR (ineq_t hp1370)
                  have ha := ha.add (seeF hs 58 26 (undef) KR KR)
                  refine yStep ha 59 KR ?_; intro l_ ha HK
                  refine stepp ha 59 (.bool true) KR KR ?_; intro ax hax; exact HK _ _ _ hax rfl (Below.refl _ _)
                · skip
                  intro a wr hn hd HW hs; have ha := hasNil hn hd
                  have ha := ha.add (seeF hs 59 27 (.bool true) KR KR)
                  refine yStep ha 60 KR ?_; intro l_ ha HK
                  refine stepp ha 60 (.bool true) KR KR ?_; intro ax hax; exact HK _ _ _ hax rfl (Below.refl _ _)
                · skip
                  intro a wr hn hd HW hs; have ha := hasNil hn hd
                  have ha := ha.add (seeE hs 4 (.string t1354) KR KR)
                  have ha := ha.add (seeF hs 60 28 (.bool true) KR KR)
                  exact yo ha KR rfl
                · skip
                  intro a wr hn hd HW hs; have ha := hasNil hn hd
                  have ha := ha.add (seeF hs 61 29 (undef) KR KR)
                  have ha := ha.add (seeF hs 60 28 (.bool true) KR KR)
                  exact yo ha KR rfl
                · skip
                  intro a wr hn hd HW hs; have ha := hasNil hn hd
                  have ha := ha.add (seeF hs 62 30 (undef) KR KR)
                  have ha := ha.add (seeF hs 60 28 (.bool true) KR KR)
                  exact yo ha KR rfl
                · skip
                  intro a wr hn hd HW hs; have ha := hasNil hn hd
                  have ha := ha.add (seeF hs 60 28 (.bool true) KR KR)
                  have ha := ha.add (seeF hs 63 31 (undef) KR KR)
                  refine yStep ha 64 KR ?_; intro l_ ha HK
                  refine stepp ha 64 (.bool true) KR KR ?_; intro ax hax; exact HK _ _ _ hax rfl (Below.refl _ _)
                · skip
                  intro a wr hn hd HW hs; have ha := hasNil hn hd
                  have ha := ha.add (seeF hs 64 32 (.bool true) KR KR)
                  refine yStep ha 65 KR ?_; intro l_ ha HK
                  refine stepp ha 65 (.bool true) KR KR ?_; intro ax hax; exact HK _ _ _ hax rfl (Below.refl _ _)
                · skip
                  intro a wr hn hd HW hs; have ha := hasNil hn hd
                  have ha := ha.add (seeE hs 5 (.func (.func 13) #[] #[]) KR KR)
                  have ha := ha.add (seeF hs 65 33 (.bool true) KR KR)
                  exact yo ha KR rfl
                · skip
                  intro a wr hn hd HW hs; have ha := hasNil hn hd
                  have ha := ha.add (seeE hs 4 (.string t1354) KR KR)
                  have ha := ha.add (seeF hs 65 33 (.bool true) KR KR)
                  exact yo ha KR rfl
                · skip
                  intro a wr hn hd HW hs; have ha := hasNil hn hd
                  have ha := ha.add (seeF hs 66 34 (undef) KR KR)
                  have ha := ha.add (seeF hs 67 35 (undef) KR KR)
                  have ha := ha.add (seeF hs 65 33 (.bool true) KR KR)
                  exact yo ha KR rfl
                · skip
                  intro a wr hn hd HW hs; have ha := hasNil hn hd
                  have ha := ha.add (seeE hs 1 (.pointer (some ⟨b1310, 0, none⟩)) KR KR)
                  have ha := ha.add (seeF hs 65 33 (.bool true) KR KR)
                  exact yo ha KR rfl
                · skip
                  intro a wr hn hd HW hs; have ha := hasNil hn hd
                  have ha := ha.add (seeF hs 69 37 (undef) KR KR)
                  have ha := ha.add (seeF hs 65 33 (.bool true) KR KR)
                  exact yo ha KR rfl
                · skip
                  intro a wr hn hd HW hs; have ha := hasNil hn hd
                  have ha := ha.add (seeF hs 70 38 (undef) KR KR)
                  have ha := ha.add (seeF hs 65 33 (.bool true) KR KR)
                  exact yo ha KR rfl
                · skip
                  intro a wr hn hd HW hs; have ha := hasNil hn hd
                  have ha := ha.add (seeF hs 68 36 (undef) KR KR)
                  have ha := ha.add (seeF hs 71 39 (undef) KR KR)
                  have ha := ha.add (seeF hs 65 33 (.bool true) KR KR)
                  exact yo ha KR rfl
                · skip
                  intro a wr hn hd HW hs; have ha := hasNil hn hd
                  have ha := ha.add (seeF hs 65 33 (.bool true) KR KR)
                  have ha := ha.add (seeF hs 72 40 (undef) KR KR)
                  refine yStep ha 73 KR ?_; intro l_ ha HK
                  refine stepp ha 73 (.bool true) KR KR ?_; intro ax hax; exact HK _ _ _ hax rfl (Below.refl _ _)
              · skip
                intro a W1384 ha HW he hf
                replace ha := ha.add (he 1 (.pointer (some ⟨b1310, 0, none⟩)) KR KR)
                replace ha := ha.add (he 3 (.string t1340) KR KR)
                replace ha := ha.add (he 4 (.string t1354) KR KR)
                replace ha := ha.add (he 5 (.func (.func 13) #[] #[]) KR KR)
                replace ha := ha.add (gotF (m := 42) (j := 41) (d := 73) (v := .bool true) hf KR KR KR)
                clear he hf
                refine endl ?_
                refine thenN (hK1364 _ _ ?_); clear hK1364
                refine condT ha KR KR (t := true) (rfl) ?_
                refine wp_seq_k (fun K1393 hK1394 => ?_)
                refine wp_region_lit ?_
                refine stepp ha 2 (.bool false) KR KR ?_; clear ha a; intro a ha
                refine endl ?_
                refine thenN (hK1394 _ _ ?_); clear hK1394
                refine wp_ret ?_
                refine thenR ?_
                obtain rfl := Option.some.inj h
                exact finv ha _ _ rfl (.tmp (v := .bool false) KR .nil) (.bool false) rfl ⟨rfl, HW.pick [] [] (by decide) (by decide) rfl KR⟩
          · skip
            replace h := ite_neg' h hp1365
            refine regionG 42 KR KR ha HW [.fix (.string t1340), .fix (.int .i64 (t1340.size : Int)), .fix (.pointer (some ⟨b1310, 0, none⟩)), .fix (.slice A0_0 a0.f0.length c0_0), .fix (.int .i64 (a0.f0.length : Int)), .fix (.int .i64 (IntKind.wrap .i64 (8 * (a0.f0.length : Int)))), .fix (.int .i64 (IntKind.wrap .i64 (8 + (IntKind.wrap .i64 (8 * (a0.f0.length : Int)))))), .fix (.bool ((t1340.size : Int) != (IntKind.wrap .i64 (8 + (IntKind.wrap .i64 (8 * (a0.f0.length : Int))))))), .fix (.bool ((t1340.size : Int) != (IntKind.wrap .i64 (8 + (IntKind.wrap .i64 (8 * (a0.f0.length : Int))))))), .fix undef, .fix undef, .fix undef, .fix undef, .fix undef, .fix undef, .fix undef, .fix (.bool true), .fix (.bool true), .fix undef, .fix undef, .fix undef, .fix undef, .fix undef, .fix undef, .fix undef, .fix undef, .fix undef, .fix (.bool true), .fix (.bool true), .fix undef, .fix undef, .fix undef, .fix (.bool true), .fix (.bool true), .fix undef, .fix undef, .fix undef, .fix undef, .fix undef, .fix undef, .fix undef, .fix (.bool true)] ?_ ?_
            · skip
              refine ⟨?_, ?_, ?_, ?_, ?_, ?_, ?_, ?_, ?_, ?_, ?_, ?_, ?_, ?_, ?_, ?_, ?_, ?_, ?_, ?_, ?_, ?_, ?_, ?_, ?_, ?_, ?_, ?_, ?_, ?_, ?_, ?_, ?_, ?_, ?_, ?_, ?_, ?_, ?_, ?_, ?_, ?_, trivial⟩
              · skip
                intro a wr hn hd HW hs; have ha := hasNil hn hd
                have ha := ha.add (seeE hs 3 (.string t1340) KR KR)
                refine yStep ha 32 KR ?_; intro l_ ha HK
                refine stepp ha 32 (.string t1340) KR KR ?_; intro ax hax; exact HK _ _ _ hax rfl (Below.refl _ _)
              · skip
                intro a wr hn hd HW hs; have ha := hasNil hn hd
                have ha := ha.add (seeF hs 32 0 (.string t1340) KR KR)
                refine yStep ha 33 KR ?_; intro l_ ha HK
                refine stepp ha 33 (.int .i64 (t1340.size : Int)) KR KR ?_; intro ax hax; exact HK _ _ _ hax rfl (Below.refl _ _)
              · skip
                intro a wr hn hd HW hs; have ha := hasNil hn hd
                have ha := ha.add (seeE hs 1 (.pointer (some ⟨b1310, 0, none⟩)) KR KR)
                refine yStep ha 34 KR ?_; intro l_ ha HK
                refine stepp ha 34 (.pointer (some ⟨b1310, 0, none⟩)) KR KR ?_; intro ax hax; exact HK _ _ _ hax rfl (Below.refl _ _)
              · skip
                intro a wr hn hd HW hs; have ha := hasNil hn hd
                have ha := ha.add (seeF hs 34 2 (.pointer (some ⟨b1310, 0, none⟩)) KR KR)
                refine yStep ha 35 KR ?_; intro l_ ha HK
                refine stepl ha 35 (HW.ca (i := 0) (b := b1310) (C := #[.slice A0_0 a0.f0.length c0_0, .int .i64 a0.f1.f0, .string a0.f1.f1, .int .u32 a0.f2, .bool a0.f3]) (T := 27) (fr := (0, 0)) KR) 22 0 (.tmp 34) (.slice A0_0 a0.f0.length c0_0) rfl KR KR KR ?_; intro ax hax; exact HK _ _ _ hax rfl (Below.refl _ _)
              · skip
                intro a wr hn hd HW hs; have ha := hasNil hn hd
                have ha := ha.add (seeF hs 35 3 (.slice A0_0 a0.f0.length c0_0) KR KR)
                refine yStep ha 36 KR ?_; intro l_ ha HK
                refine stepp ha 36 (.int .i64 (a0.f0.length : Int)) KR KR ?_; intro ax hax; exact HK _ _ _ hax rfl (Below.refl _ _)
              · skip
                intro a wr hn hd HW hs; have ha := hasNil hn hd
                have ha := ha.add (seeF hs 36 4 (.int .i64 (a0.f0.length : Int)) KR KR)
                refine yStep ha 37 KR ?_; intro l_ ha HK
                refine stepp ha 37 (.int .i64 (IntKind.wrap .i64 (8 * (a0.f0.length : Int)))) KR KR ?_; intro ax hax; exact HK _ _ _ hax rfl (Below.refl _ _)
              · skip
                intro a wr hn hd HW hs; have ha := hasNil hn hd
                have ha := ha.add (seeF hs 37 5 (.int .i64 (IntKind.wrap .i64 (8 * (a0.f0.length : Int)))) KR KR)
                refine yStep ha 38 KR ?_; intro l_ ha HK
                refine stepp ha 38 (.int .i64 (IntKind.wrap .i64 (8 + (IntKind.wrap .i64 (8 * (a0.f0.length : Int)))))) KR KR ?_; intro ax hax; exact HK _ _ _ hax rfl (Below.refl _ _)
              · skip
                intro a wr hn hd HW hs; have ha := hasNil hn hd
                have ha := ha.add (seeF hs 33 1 (.int .i64 (t1340.size : Int)) KR KR)
                have ha := ha.add (seeF hs 38 6 (.int .i64 (IntKind.wrap .i64 (8 + (IntKind.wrap .i64 (8 * (a0.f0.length : Int)))))) KR KR)
                refine yStep ha 39 KR ?_; intro l_ ha HK
                refine stepp ha 39 (.bool ((t1340.size : Int) != (IntKind.wrap .i64 (8 + (IntKind.wrap .i64 (8 * (a0.f0.length : Int))))))) KR KR ?_; intro ax hax; exact HK _ _ _ hax rfl (Below.refl _ _)
              · skip
                intro a wr hn hd HW hs; have ha := hasNil hn hd
                have ha := ha.add (seeF hs 39 7 (.bool ((t1340.size : Int) != (IntKind.wrap .i64 (8 + (IntKind.wrap .i64 (8 * (a0.f0.length : Int))))))) KR KR)
                refine yStep ha 40 KR ?_; intro l_ ha HK
                refine stepp ha 40 (.bool ((t1340.size : Int) != (IntKind.wrap .i64 (8 + (IntKind.wrap .i64 (8 * (a0.f0.length : Int))))))) KR KR ?_; intro ax hax; exact HK _ _ _ hax rfl (Below.refl _ _)
              · skip
                intro a wr hn hd HW hs; have ha := hasNil hn hd
                have ha := ha.add (seeE hs 5 (.func (.func 13) #[] #[]) KR KR)
                have ha := ha.add (seeF hs 40 8 (.bool ((t1340.size : Int) != (IntKind.wrap .i64 (8 + (IntKind.wrap .i64 (8 * (a0.f0.length : Int))))))) KR KR)
                have ha := ha.bool 40 KR (ineq_t hp1365)
                exact yo ha KR rfl
              · skip
                intro a wr hn hd HW hs; have ha := hasNil hn hd
                have ha := ha.add (seeE hs 3 (.string t1340) KR KR)
                have ha := ha.add (seeF hs 40 8 (.bool ((t1340.size : Int) != (IntKind.wrap .i64 (8 + (IntKind.wrap .i64 (8 * (a0.f0.length : Int))))))) KR KR)
                have ha := ha.bool 40 KR (ineq_t hp1365)
                exact yo ha KR rfl
              · skip
                intro a wr hn hd HW hs; have ha := hasNil hn hd
                have ha := ha.add (seeF hs 41 9 (undef) KR KR)
                have ha := ha.add (seeF hs 42 10 (undef) KR KR)
                have ha := ha.add (seeF hs 40 8 (.bool ((t1340.size : Int) != (IntKind.wrap .i64 (8 + (IntKind.wrap .i64 (8 * (a0.f0.length : Int))))))) KR KR)
                have ha := ha.bool 40 KR (ineq_t hp1365)
                exact yo ha KR rfl
              · skip
                intro a wr hn hd HW hs; have ha := hasNil hn hd
                have ha := ha.add (seeE hs 1 (.pointer (some ⟨b1310, 0, none⟩)) KR KR)
                have ha := ha.add (seeF hs 40 8 (.bool ((t1340.size : Int) != (IntKind.wrap .i64 (8 + (IntKind.wrap .i64 (8 * (a0.f0.length : Int))))))) KR KR)
                have ha := ha.bool 40 KR (ineq_t hp1365)
                exact yo ha KR rfl
              · skip
                intro a wr hn hd HW hs; have ha := hasNil hn hd
                have ha := ha.add (seeF hs 44 12 (undef) KR KR)
                have ha := ha.add (seeF hs 40 8 (.bool ((t1340.size : Int) != (IntKind.wrap .i64 (8 + (IntKind.wrap .i64 (8 * (a0.f0.length : Int))))))) KR KR)
                have ha := ha.bool 40 KR (ineq_t hp1365)
                exact yo ha KR rfl
              · skip
                intro a wr hn hd HW hs; have ha := hasNil hn hd
                have ha := ha.add (seeF hs 45 13 (undef) KR KR)
                have ha := ha.add (seeF hs 40 8 (.bool ((t1340.size : Int) != (IntKind.wrap .i64 (8 + (IntKind.wrap .i64 (8 * (a0.f0.length : Int))))))) KR KR)
                have ha := ha.bool 40 KR (ineq_t hp1365)
                exact yo ha KR rfl
              · skip
                intro a wr hn hd HW hs; have ha := hasNil hn hd
                have ha := ha.add (seeF hs 43 11 (undef) KR KR)
                have ha := ha.add (seeF hs 46 14 (undef) KR KR)
                have ha := ha.add (seeF hs 40 8 (.bool ((t1340.size : Int) != (IntKind.wrap .i64 (8 + (IntKind.wrap .i64 (8 * (a0.f0.length : Int))))))) KR KR)
                have ha := ha.bool 40 KR (ineq_t hp1365)
                exact yo ha KR rfl
              · skip
                intro a wr hn hd HW hs; have ha := hasNil hn hd
                have ha := ha.add (seeF hs 40 8 (.bool ((t1340.size : Int) != (IntKind.wrap .i64 (8 + (IntKind.wrap .i64 (8 * (a0.f0.length : Int))))))) KR KR)
                have ha := ha.bool 40 KR (ineq_t hp1365)
                have ha := ha.add (seeF hs 47 15 (undef) KR KR)
                refine yStep ha 48 KR ?_; intro l_ ha HK
                refine stepp ha 48 (.bool true) KR KR ?_; intro ax hax; exact HK _ _ _ hax rfl (Below.refl _ _)
              · skip
                intro a wr hn hd HW hs; have ha := hasNil hn hd
                have ha := ha.add (seeF hs 48 16 (.bool true) KR KR)
                refine yStep ha 49 KR ?_; intro l_ ha HK
                refine stepp ha 49 (.bool true) KR KR ?_; intro ax hax; exact HK _ _ _ hax rfl (Below.refl _ _)
              · skip
                intro a wr hn hd HW hs; have ha := hasNil hn hd
                have ha := ha.add (seeE hs 5 (.func (.func 13) #[] #[]) KR KR)
                have ha := ha.add (seeF hs 49 17 (.bool true) KR KR)
                exact yo ha KR rfl
              · skip
                intro a wr hn hd HW hs; have ha := hasNil hn hd
                have ha := ha.add (seeE hs 3 (.string t1340) KR KR)
                have ha := ha.add (seeF hs 49 17 (.bool true) KR KR)
                exact yo ha KR rfl
              · skip
                intro a wr hn hd HW hs; have ha := hasNil hn hd
                have ha := ha.add (seeF hs 50 18 (undef) KR KR)
                have ha := ha.add (seeF hs 51 19 (undef) KR KR)
                have ha := ha.add (seeF hs 49 17 (.bool true) KR KR)
                exact yo ha KR rfl
              · skip
                intro a wr hn hd HW hs; have ha := hasNil hn hd
                have ha := ha.add (seeE hs 1 (.pointer (some ⟨b1310, 0, none⟩)) KR KR)
                have ha := ha.add (seeF hs 49 17 (.bool true) KR KR)
                exact yo ha KR rfl
              · skip
                intro a wr hn hd HW hs; have ha := hasNil hn hd
                have ha := ha.add (seeF hs 53 21 (undef) KR KR)
                have ha := ha.add (seeF hs 49 17 (.bool true) KR KR)
                exact yo ha KR rfl
              · skip
                intro a wr hn hd HW hs; have ha := hasNil hn hd
                have ha := ha.add (seeF hs 54 22 (undef) KR KR)
                have ha := ha.add (seeF hs 49 17 (.bool true) KR KR)
                exact yo ha KR rfl
              · skip
                intro a wr hn hd HW hs; have ha := hasNil hn hd
                have ha := ha.add (seeF hs 55 23 (undef) KR KR)
                have ha := ha.add (seeF hs 49 17 (.bool true) KR KR)
                exact yo ha KR rfl
              · skip
                intro a wr hn hd HW hs; have ha := hasNil hn hd
                have ha := ha.add (seeF hs 56 24 (undef) KR KR)
                have ha := ha.add (seeF hs 49 17 (.bool true) KR KR)
                exact yo ha KR rfl
              · skip
                intro a wr hn hd HW hs; have ha := hasNil hn hd
                have ha := ha.add (seeF hs 52 20 (undef) KR KR)
                have ha := ha.add (seeF hs 57 25 (undef) KR KR)
                have ha := ha.add (seeF hs 49 17 (.bool true) KR KR)
                exact yo ha KR rfl
              · skip
                intro a wr hn hd HW hs; have ha := hasNil hn hd
                have ha := ha.add (seeF hs 49 17 (.bool true) KR KR)
                have ha := ha.add (seeF hs 58 26 (undef) KR KR)
                refine yStep ha 59 KR ?_; intro l_ ha HK
                refine stepp ha 59 (.bool true) KR KR ?_; intro ax hax; exact HK _ _ _ hax rfl (Below.refl _ _)
              · skip
                intro a wr hn hd HW hs; have ha := hasNil hn hd
                have ha := ha.add (seeF hs 59 27 (.bool true) KR KR)
                refine yStep ha 60 KR ?_; intro l_ ha HK
                refine stepp ha 60 (.bool true) KR KR ?_; intro ax hax; exact HK _ _ _ hax rfl (Below.refl _ _)
              · skip
                intro a wr hn hd HW hs; have ha := hasNil hn hd
                have ha := ha.add (seeE hs 4 (.string t1354) KR KR)
                have ha := ha.add (seeF hs 60 28 (.bool true) KR KR)
                exact yo ha KR rfl
              · skip
                intro a wr hn hd HW hs; have ha := hasNil hn hd
                have ha := ha.add (seeF hs 61 29 (undef) KR KR)
                have ha := ha.add (seeF hs 60 28 (.bool true) KR KR)
                exact yo ha KR rfl
              · skip
                intro a wr hn hd HW hs; have ha := hasNil hn hd
                have ha := ha.add (seeF hs 62 30 (undef) KR KR)
                have ha := ha.add (seeF hs 60 28 (.bool true) KR KR)
                exact yo ha KR rfl
              · skip
                intro a wr hn hd HW hs; have ha := hasNil hn hd
                have ha := ha.add (seeF hs 60 28 (.bool true) KR KR)
                have ha := ha.add (seeF hs 63 31 (undef) KR KR)
                refine yStep ha 64 KR ?_; intro l_ ha HK
                refine stepp ha 64 (.bool true) KR KR ?_; intro ax hax; exact HK _ _ _ hax rfl (Below.refl _ _)
              · skip
                intro a wr hn hd HW hs; have ha := hasNil hn hd
                have ha := ha.add (seeF hs 64 32 (.bool true) KR KR)
                refine yStep ha 65 KR ?_; intro l_ ha HK
                refine stepp ha 65 (.bool true) KR KR ?_; intro ax hax; exact HK _ _ _ hax rfl (Below.refl _ _)
              · skip
                intro a wr hn hd HW hs; have ha := hasNil hn hd
                have ha := ha.add (seeE hs 5 (.func (.func 13) #[] #[]) KR KR)
                have ha := ha.add (seeF hs 65 33 (.bool true) KR KR)
                exact yo ha KR rfl
              · skip
                intro a wr hn hd HW hs; have ha := hasNil hn hd
                have ha := ha.add (seeE hs 4 (.string t1354) KR KR)
                have ha := ha.add (seeF hs 65 33 (.bool true) KR KR)
                exact yo ha KR rfl
              · skip
                intro a wr hn hd HW hs; have ha := hasNil hn hd
                have ha := ha.add (seeF hs 66 34 (undef) KR KR)
                have ha := ha.add (seeF hs 67 35 (undef) KR KR)
                have ha := ha.add (seeF hs 65 33 (.bool true) KR KR)
                exact yo ha KR rfl
              · skip
                intro a wr hn hd HW hs; have ha := hasNil hn hd
                have ha := ha.add (seeE hs 1 (.pointer (some ⟨b1310, 0, none⟩)) KR KR)
                have ha := ha.add (seeF hs 65 33 (.bool true) KR KR)
                exact yo ha KR rfl
              · skip
                intro a wr hn hd HW hs; have ha := hasNil hn hd
                have ha := ha.add (seeF hs 69 37 (undef) KR KR)
                have ha := ha.add (seeF hs 65 33 (.bool true) KR KR)
                exact yo ha KR rfl
              · skip
                intro a wr hn hd HW hs; have ha := hasNil hn hd
                have ha := ha.add (seeF hs 70 38 (undef) KR KR)
                have ha := ha.add (seeF hs 65 33 (.bool true) KR KR)
                exact yo ha KR rfl
              · skip
                intro a wr hn hd HW hs; have ha := hasNil hn hd
                have ha := ha.add (seeF hs 68 36 (undef) KR KR)
                have ha := ha.add (seeF hs 71 39 (undef) KR KR)
                have ha := ha.add (seeF hs 65 33 (.bool true) KR KR)
                exact yo ha KR rfl
              · skip
                intro a wr hn hd HW hs; have ha := hasNil hn hd
                have ha := ha.add (seeF hs 65 33 (.bool true) KR KR)
                have ha := ha.add (seeF hs 72 40 (undef) KR KR)
                refine yStep ha 73 KR ?_; intro l_ ha HK
                refine stepp ha 73 (.bool true) KR KR ?_; intro ax hax; exact HK _ _ _ hax rfl (Below.refl _ _)
            · skip
              intro a W1385 ha HW he hf
              replace ha := ha.add (he 1 (.pointer (some ⟨b1310, 0, none⟩)) KR KR)
              replace ha := ha.add (he 3 (.string t1340) KR KR)
              replace ha := ha.add (he 4 (.string t1354) KR KR)
              replace ha := ha.add (he 5 (.func (.func 13) #[] #[]) KR KR)
              replace ha := ha.add (gotF (m := 42) (j := 41) (d := 73) (v := .bool true) hf KR KR KR)
              clear he hf
              refine endl ?_
              refine thenN (hK1364 _ _ ?_); clear hK1364
              refine condT ha KR KR (t := true) (rfl) ?_
              refine wp_seq_k (fun K1395 hK1396 => ?_)
              refine wp_region_lit ?_
              refine stepp ha 2 (.bool false) KR KR ?_; clear ha a; intro a ha
              refine endl ?_
              refine thenN (hK1396 _ _ ?_); clear hK1396
              refine wp_ret ?_
              refine thenR ?_
              obtain rfl := Option.some.inj h
              exact finv ha _ _ rfl (.tmp (v := .bool false) KR .nil) (.bool false) rfl ⟨rfl, HW.pick [] [] (by decide) (by decide) rfl KR⟩
end Go.Proofs.YtpjcipadjegmlaaDoor.F
