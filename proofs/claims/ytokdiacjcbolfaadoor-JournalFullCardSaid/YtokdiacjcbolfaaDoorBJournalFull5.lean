import Derived.Test.YtokdiacjcbolfaaDoorBJournalFull4
set_option linter.unusedVariables false
set_option linter.unusedSimpArgs false
namespace Go.Proofs.YtokdiacjcbolfaaDoor.F
open Go Go.RowKit Go.Proofs.YtokdiacjcbolfaaDoor.X
set_option linter.unusedVariables false
set_option linter.unusedSimpArgs false
def journal_Journal_puts.f (K : Nat) (a0 : T_journal_Journal) (a0_0 : T_dev_Dev) (a1 : Int) (a2 : Int) (a3 : ByteArray) (a4 : Int) : Option (Int × T_journal_Journal × T_dev_Dev) :=
  (frame_Put.f K (IntKind.wrap .u64 (IntKind.wrap .i64 (a0.f4.f2 + 1))) a3).bind fun t1317 => (if t1317.2 = 0 then ((journal_Journal_place.f (⟨(), a0.f1, a0.f2, a0.f3, (⟨(), (), a0.f4.f2⟩ : T_atomic_Int64), a0.f5, a0.f6, a0.f7, a0.f8, a0.f9⟩ : T_journal_Journal) a1 a2).bind fun t1334 => ((dev_Dev_Write.f K a0_0 t1334 t1317.1).bind fun t1338 => ((journal_Journal_failed.f (⟨(), a0.f1, a0.f2, a0.f3, (⟨(), (), a0.f4.f2⟩ : T_atomic_Int64), a0.f5, a0.f6, a0.f7, a0.f8, a0.f9⟩ : T_journal_Journal) t1338.2 t1338.1).bind fun t1351 => (if t1351.1 = 0 then ((journal_Journal_flush.f K t1351.2.1 t1351.2.2).bind fun t1368 => (if t1368.1 = 0 then ((fields_PutBig.f K (IntKind.wrap .u64 (IntKind.wrap .i64 (a0.f4.f2 + 1))) 8).bind fun t1383 => (asrt (4 + t1383.size ≤ 9223372036854775807) ((fields_PutBig.f K (IntKind.wrap .u64 a1) 4).bind fun t1390 => (asrt (((⟨#[72, 71, 74, 67]⟩ : ByteArray) ++ t1383).size + t1390.size ≤ 9223372036854775807) ((fields_PutBig.f K (IntKind.wrap .u64 a4) 4).bind fun t1395 => (asrt ((((⟨#[72, 71, 74, 67]⟩ : ByteArray) ++ t1383) ++ t1390).size + t1395.size ≤ 9223372036854775807) ((strings_Repeat.f (⟨#[0]⟩ : ByteArray) (IntKind.wrap .i64 ((IntKind.wrap .i64 (512 - (((((⟨#[72, 71, 74, 67]⟩ : ByteArray) ++ t1383) ++ t1390) ++ t1395).size : Int))) - (t1383.size : Int)))).bind fun t1402 => (asrt (t1402.size + t1383.size ≤ 9223372036854775807) (asrt (((((⟨#[72, 71, 74, 67]⟩ : ByteArray) ++ t1383) ++ t1390) ++ t1395).size + (t1402 ++ t1383).size ≤ 9223372036854775807) ((dev_Dev_Write.f K t1368.2.2 (IntKind.wrap .i64 (t1368.2.1.f1 + (Int.tmod (IntKind.wrap .i64 (a0.f4.f2 + 1)) 2))) (((((⟨#[72, 71, 74, 67]⟩ : ByteArray) ++ t1383) ++ t1390) ++ t1395) ++ (t1402 ++ t1383))).bind fun t1415 => ((journal_Journal_failed.f (⟨(), t1368.2.1.f1, t1368.2.1.f2, t1368.2.1.f3, (⟨(), (), t1368.2.1.f4.f2⟩ : T_atomic_Int64), t1368.2.1.f5, t1368.2.1.f6, t1368.2.1.f7, t1368.2.1.f8, t1368.2.1.f9⟩ : T_journal_Journal) t1415.2 t1415.1).bind fun t1428 => (if t1428.1 = 0 then (some (0, (⟨(), t1428.2.1.f1, t1428.2.1.f2, t1428.2.1.f3, (⟨(), (), IntKind.wrap .i64 (a0.f4.f2 + 1)⟩ : T_atomic_Int64), t1428.2.1.f5, t1428.2.1.f6, t1428.2.1.f7, true, t1428.2.1.f9⟩ : T_journal_Journal), t1428.2.2)) else (some (t1428.1, t1428.2.1, t1428.2.2)))))))))))))) else (some (t1368.1, t1368.2.1, t1368.2.2)))) else (some (t1351.1, t1351.2.1, t1351.2.2)))))) else (some (t1317.2, (⟨(), a0.f1, a0.f2, a0.f3, (⟨(), (), a0.f4.f2⟩ : T_atomic_Int64), a0.f5, a0.f6, a0.f7, a0.f8, a0.f9⟩ : T_journal_Journal), a0_0)))
set_option maxRecDepth 100000 in
set_option maxHeartbeats 4000000 in
theorem journal_Journal_puts.calls (K : Nat) (a0 : T_journal_Journal) (a0_0 : T_dev_Dev) (a1 : Int) (a2 : Int) (a3 : ByteArray) (a4 : Int) (p0 : Nat) (U0 : Blks) (p0_0 : Nat) (U0_0 : Blks)  (r : Int × T_journal_Journal × T_dev_Dev) (w w1 : World) (F bs : Blks) (os : List OwnA) (hG1 : CA w 1 0 (encs (encIK .u32) G_crc_steps).toArray) (hU0 : T_journal_Journal.At p0 p0_0 a0 U0) (hU0_0 : T_dev_Dev.At p0_0  a0_0 U0_0) (HW : Wd w w1 (U0 ++ (U0_0 ++ (F ++ bs))) os) (h : journal_Journal_puts.f K a0 a0_0 a1 a2 a3 a4 = some r) :
    Calls Tryd.prog 27 #[.pointer (some ⟨p0, 0, none⟩), .int .i64 a1, .int .i64 a2, .string a3, .int .i64 a4] w1 (fun e W' => ∃ U0' : Blks, ∃ U0_0' : Blks, e = .returned (.int .i64 r.1) ∧ T_journal_Journal.At p0 p0_0 r.2.1 U0' ∧ T_dev_Dev.At p0_0  r.2.2 U0_0' ∧ Wd w W' (U0' ++ (U0_0' ++ (F ++ bs))) (os)) := by
  refine sxstart (n := 104) (l := [(0, .pointer (some ⟨p0, 0, none⟩)), (1, .int .i64 a1), (2, .int .i64 a2), (3, .string a3), (4, .int .i64 a4)]) Tryd.func27 rfl rfl (Nat.le_of_ble_eq_true KR) (subsA_cons rfl (subsA_cons rfl (subsA_cons rfl (subsA_cons rfl (subsA_cons rfl (subsA_nil _)))))) ?_
  intro a ha
  replace HW : Wd w w1 (U0 ++ (U0_0 ++ (F ++ bs))) (os) := HW
  unfold journal_Journal_puts.f at h
  refine wp_seq_k (fun K1308 hK1309 => ?_)
  refine wp_region_lit ?_
  refine stepp ha 10 (.int .i64 0) KR KR ?_; clear ha a; intro a ha
  refine endl ?_
  refine thenN (hK1309 _ _ ?_); clear hK1309
  refine wp_seq_k (fun K1310 hK1311 => ?_)
  refine wp_region_lit ?_
  refine stepp ha 19 (.pointer (some ⟨p0, 0, none⟩)) KR KR ?_; clear ha a; intro a ha
  refine stepp ha 20 (.pointer (some ⟨p0, 0, none⟩)) KR KR ?_; clear ha a; intro a ha
  refine stepp ha 21 (.pointer (some ⟨p0, 4, none⟩)) KR KR ?_; clear ha a; intro a ha
  obtain ⟨A1312, c1313, HW⟩ := T_journal_Journal.unfold hU0 (Wd.segs (ss := [U0, U0_0, F]) (bt := bs) (m := []) (ot := os) [U0, U0_0, F] [] HW [0, 1, 2] [] [] KR KR (by decide) KR)
  replace HW : Wd w w1 ((p0, .cells #[.pointer (some ⟨p0_0, 0, none⟩), .int .i64 a0.f1, .int .i64 a0.f2, .int .i64 a0.f3, .int .i64 a0.f4.f2, .string a0.f5, .slice A1312 a0.f6.length c1313, .int .i64 a0.f7, .bool a0.f8, .bool a0.f9] 57 (0, 0)) :: U0_0 ++ (F ++ bs)) (⟨9, 1, .slice A1312 a0.f6.length c1313, a0.f6.length, encs encS a0.f6⟩ :: os) := HW; clear hU0
  refine stepc ha 22 KR KR (atom_load (x := a0.f4.f2) (HW.cellAt (i := 0) (b := p0) (C := #[.pointer (some ⟨p0_0, 0, none⟩), .int .i64 a0.f1, .int .i64 a0.f2, .int .i64 a0.f3, .int .i64 a0.f4.f2, .string a0.f5, .slice A1312 a0.f6.length c1313, .int .i64 a0.f7, .bool a0.f8, .bool a0.f9]) (T := 57) KR 4 KR)) ?_; clear ha a; rintro e W_ ⟨rfl, rfl⟩; refine ⟨_, rfl, ?_⟩; intro a ha
  refine stepp ha 23 (.int .i64 (IntKind.wrap .i64 (a0.f4.f2 + 1))) KR KR ?_; clear ha a; intro a ha
  refine stepp ha 11 (.int .i64 (IntKind.wrap .i64 (a0.f4.f2 + 1))) KR KR ?_; clear ha a; intro a ha
  refine endl ?_
  refine thenN (hK1311 _ _ ?_); clear hK1311
  refine wp_seq_k (fun K1315 hK1316 => ?_)
  refine wp_region_lit ?_
  refine stepp ha 25 (.int .i64 (IntKind.wrap .i64 (a0.f4.f2 + 1))) KR KR ?_; clear ha a; intro a ha
  refine stepp ha 26 (.int .u64 (IntKind.wrap .u64 (IntKind.wrap .i64 (a0.f4.f2 + 1)))) KR KR ?_; clear ha a; intro a ha
  refine stepp ha 27 (.string a3) KR KR ?_; clear ha a; intro a ha
  obtain ⟨t1317, ht1318, h_⟩ := bind_some' h; clear h; have h := h_; clear h_
  refine stepc ha 28 KR KR (frame_Put.calls K (IntKind.wrap .u64 (IntKind.wrap .i64 (a0.f4.f2 + 1))) a3 t1317 _ (HW.ca0 hG1) ht1318) ?_; clear ha a; rintro e W1319 ⟨rfl, HX1320⟩
  refine ⟨_, rfl, ?_⟩; intro a ha; replace HW := HW.callw HX1320; clear HX1320
  refine stepp ha 24 (.tuple #[.string t1317.1, .int .i64 t1317.2]) KR KR ?_; clear ha a; intro a ha
  refine stepp ha 29 (.string t1317.1) KR KR ?_; clear ha a; intro a ha
  refine stepp ha 30 (.int .i64 t1317.2) KR KR ?_; clear ha a; intro a ha
  refine stepp ha 12 (.string t1317.1) KR KR ?_; clear ha a; intro a ha
  refine stepp ha 13 (.int .i64 t1317.2) KR KR ?_; clear ha a; intro a ha
  refine endl ?_
  refine thenN (hK1316 _ _ ?_); clear hK1316
  refine wp_seq_k (fun K1321 hK1322 => ?_)
  refine wp_seq_k (fun K1323 hK1324 => ?_)
  refine wp_region_lit ?_
  refine stepp ha 31 (.int .i64 t1317.2) KR KR ?_; clear ha a; intro a ha
  refine stepp ha 32 (.bool (t1317.2 != 0)) KR KR ?_; clear ha a; intro a ha
  refine endl ?_
  refine thenN (hK1324 _ _ ?_); clear hK1324
  by_cases hp1325 : t1317.2 = 0
  · skip
    replace h := ite_pos' h hp1325
    refine condF ha KR KR (t := (t1317.2 != 0)) (ineq_f hp1325) ?_
    refine wp_skip ?_
    refine thenN (hK1322 _ _ ?_); clear hK1322
    refine wp_seq_k (fun K1330 hK1331 => ?_)
    refine wp_seq_k (fun K1332 hK1333 => ?_)
    obtain ⟨t1334, ht1335, h_⟩ := bind_some' h; clear h; have h := h_; clear h_
    obtain ⟨t1338, ht1339, h_⟩ := bind_some' h; clear h; have h := h_; clear h_
    refine regionE 11 10 KR [.fix (.pointer (some ⟨p0, 0, none⟩)), .fix (.pointer (some ⟨p0, 0, none⟩)), .fix (.pointer (some ⟨p0, 0, none⟩)), .fix (.pointer (some ⟨p0, 0, none⟩)), .fix (.pointer (some ⟨p0_0, 0, none⟩)), .fix (.pointer (some ⟨p0, 0, none⟩)), .fix (.int .i64 a1), .fix (.int .i64 a2), .fix (.int .i64 t1334), .fix (.string t1317.1), (.ws (fun x_ => .int .i64 t1338.1) w (fun x_ => ((p0, .cells #[.pointer (some ⟨p0_0, 0, none⟩), .int .i64 a0.f1, .int .i64 a0.f2, .int .i64 a0.f3, .int .i64 a0.f4.f2, .string a0.f5, .slice A1312 a0.f6.length c1313, .int .i64 a0.f7, .bool a0.f8, .bool a0.f9] 57 (0, 0)) :: (x_.2.2.getD 0 []) ++ (F ++ bs))) (fun x_ => (⟨9, 1, .slice A1312 a0.f6.length c1313, a0.f6.length, encs encS a0.f6⟩ :: os)) (fun x_ => T_dev_Dev.At p0_0  t1338.2 (x_.2.2.getD 0 []) ∧ True))] [false, false, false, false, false, false, false, false, false, false, false] KR (((p0, .cells #[.pointer (some ⟨p0_0, 0, none⟩), .int .i64 a0.f1, .int .i64 a0.f2, .int .i64 a0.f3, .int .i64 a0.f4.f2, .string a0.f5, .slice A1312 a0.f6.length c1313, .int .i64 a0.f7, .bool a0.f8, .bool a0.f9] 57 (0, 0)) :: F ++ bs), (⟨9, 1, .slice A1312 a0.f6.length c1313, a0.f6.length, encs encS a0.f6⟩ :: os)) (((p0, .cells #[.pointer (some ⟨p0_0, 0, none⟩), .int .i64 a0.f1, .int .i64 a0.f2, .int .i64 a0.f3, .int .i64 a0.f4.f2, .string a0.f5, .slice A1312 a0.f6.length c1313, .int .i64 a0.f7, .bool a0.f8, .bool a0.f9] 57 (0, 0)) :: U0_0 ++ (F ++ bs)), (⟨9, 1, .slice A1312 a0.f6.length c1313, a0.f6.length, encs encS a0.f6⟩ :: os)) ha HW (.ws (fun x_ => .int .i64 t1338.1) w (fun x_ => ((p0, .cells #[.pointer (some ⟨p0_0, 0, none⟩), .int .i64 a0.f1, .int .i64 a0.f2, .int .i64 a0.f3, .int .i64 a0.f4.f2, .string a0.f5, .slice A1312 a0.f6.length c1313, .int .i64 a0.f7, .bool a0.f8, .bool a0.f9] 57 (0, 0)) :: (x_.2.2.getD 0 []) ++ (F ++ bs))) (fun x_ => (⟨9, 1, .slice A1312 a0.f6.length c1313, a0.f6.length, encs encS a0.f6⟩ :: os)) (fun x_ => T_dev_Dev.At p0_0  t1338.2 (x_.2.2.getD 0 []) ∧ True)) KR (fun w_ h_ => (Wd.segs (ss := [[(p0, .cells #[.pointer (some ⟨p0_0, 0, none⟩), .int .i64 a0.f1, .int .i64 a0.f2, .int .i64 a0.f3, .int .i64 a0.f4.f2, .string a0.f5, .slice A1312 a0.f6.length c1313, .int .i64 a0.f7, .bool a0.f8, .bool a0.f9] 57 (0, 0))], U0_0, F]) (bt := bs) (m := [⟨9, 1, .slice A1312 a0.f6.length c1313, a0.f6.length, encs encS a0.f6⟩]) (ot := os) [[(p0, .cells #[.pointer (some ⟨p0_0, 0, none⟩), .int .i64 a0.f1, .int .i64 a0.f2, .int .i64 a0.f3, .int .i64 a0.f4.f2, .string a0.f5, .slice A1312 a0.f6.length c1313, .int .i64 a0.f7, .bool a0.f8, .bool a0.f9] 57 (0, 0))], F] [⟨9, 1, .slice A1312 a0.f6.length c1313, a0.f6.length, encs encS a0.f6⟩] h_ [0, 2] [1] [0] KR KR (by decide) KR)) (fun v_ w_ h_ => by obtain ⟨⟨As1345, ns1346, Us1347⟩, _, h_, _⟩ := h_; exact (Wd.segs (ss := [[(p0, .cells #[.pointer (some ⟨p0_0, 0, none⟩), .int .i64 a0.f1, .int .i64 a0.f2, .int .i64 a0.f3, .int .i64 a0.f4.f2, .string a0.f5, .slice A1312 a0.f6.length c1313, .int .i64 a0.f7, .bool a0.f8, .bool a0.f9] 57 (0, 0))], (Us1347.getD 0 []), F]) (bt := bs) (m := [⟨9, 1, .slice A1312 a0.f6.length c1313, a0.f6.length, encs encS a0.f6⟩]) (ot := os) [[(p0, .cells #[.pointer (some ⟨p0_0, 0, none⟩), .int .i64 a0.f1, .int .i64 a0.f2, .int .i64 a0.f3, .int .i64 a0.f4.f2, .string a0.f5, .slice A1312 a0.f6.length c1313, .int .i64 a0.f7, .bool a0.f8, .bool a0.f9] 57 (0, 0))], F] [⟨9, 1, .slice A1312 a0.f6.length c1313, a0.f6.length, encs encS a0.f6⟩] h_ [0, 2] [1] [0] KR KR (by decide) KR)) KR ?_ ?_
    · skip
      refine ⟨?_, ?_, ?_, ?_, ?_, ?_, ?_, ?_, ?_, ?_, ?_, trivial⟩
      · skip
        show OpOkX _ _ _ _ _ _ _ _ _ _
        intro a wr hn hd HW hs; have ha := hasNil hn hd
        have ha := ha.add (seeE hs 0 (.pointer (some ⟨p0, 0, none⟩)) KR KR)
        refine yStep ha 34 KR ?_; intro l_ ha HK
        refine stepp ha 34 (.pointer (some ⟨p0, 0, none⟩)) KR KR ?_; intro ax hax; exact HK _ _ _ hax rfl (Below.refl _ _)
      · skip
        show OpOkX _ _ _ _ _ _ _ _ _ _
        intro a wr hn hd HW hs; have ha := hasNil hn hd
        have ha := ha.add (seeE hs 0 (.pointer (some ⟨p0, 0, none⟩)) KR KR)
        refine yStep ha 35 KR ?_; intro l_ ha HK
        refine stepp ha 35 (.pointer (some ⟨p0, 0, none⟩)) KR KR ?_; intro ax hax; exact HK _ _ _ hax rfl (Below.refl _ _)
      · skip
        show OpOkX _ _ _ _ _ _ _ _ _ _
        intro a wr hn hd HW hs; have ha := hasNil hn hd
        have ha := ha.add (seeF hs 35 1 (.pointer (some ⟨p0, 0, none⟩)) KR KR)
        refine yStep ha 36 KR ?_; intro l_ ha HK
        refine stepp ha 36 (.pointer (some ⟨p0, 0, none⟩)) KR KR ?_; intro ax hax; exact HK _ _ _ hax rfl (Below.refl _ _)
      · skip
        show OpOkX _ _ _ _ _ _ _ _ _ _
        intro a wr hn hd HW hs; have ha := hasNil hn hd
        have ha := ha.add (seeF hs 36 2 (.pointer (some ⟨p0, 0, none⟩)) KR KR)
        refine yStep ha 37 KR ?_; intro l_ ha HK
        refine stepp ha 37 (.pointer (some ⟨p0, 0, none⟩)) KR KR ?_; intro ax hax; exact HK _ _ _ hax rfl (Below.refl _ _)
      · skip
        show OpOkX _ _ _ _ _ _ _ _ _ _
        intro a wr hn hd HW hs; have ha := hasNil hn hd
        have ha := ha.add (seeF hs 37 3 (.pointer (some ⟨p0, 0, none⟩)) KR KR)
        refine yStep ha 38 KR ?_; intro l_ ha HK
        refine stepl ha 38 (HW.ca (i := 0) (b := p0) (C := #[.pointer (some ⟨p0_0, 0, none⟩), .int .i64 a0.f1, .int .i64 a0.f2, .int .i64 a0.f3, .int .i64 a0.f4.f2, .string a0.f5, .slice A1312 a0.f6.length c1313, .int .i64 a0.f7, .bool a0.f8, .bool a0.f9]) (T := 57) (fr := (0, 0)) KR) 25 0 (.tmp 37) (.pointer (some ⟨p0_0, 0, none⟩)) rfl KR KR KR ?_; intro ax hax; exact HK _ _ _ hax rfl (Below.refl _ _)
      · skip
        show OpOkX _ _ _ _ _ _ _ _ _ _
        intro a wr hn hd HW hs; have ha := hasNil hn hd
        have ha := ha.add (seeE hs 0 (.pointer (some ⟨p0, 0, none⟩)) KR KR)
        refine yStep ha 39 KR ?_; intro l_ ha HK
        refine stepp ha 39 (.pointer (some ⟨p0, 0, none⟩)) KR KR ?_; intro ax hax; exact HK _ _ _ hax rfl (Below.refl _ _)
      · skip
        show OpOkX _ _ _ _ _ _ _ _ _ _
        intro a wr hn hd HW hs; have ha := hasNil hn hd
        have ha := ha.add (seeE hs 1 (.int .i64 a1) KR KR)
        refine yStep ha 40 KR ?_; intro l_ ha HK
        refine stepp ha 40 (.int .i64 a1) KR KR ?_; intro ax hax; exact HK _ _ _ hax rfl (Below.refl _ _)
      · skip
        show OpOkX _ _ _ _ _ _ _ _ _ _
        intro a wr hn hd HW hs; have ha := hasNil hn hd
        have ha := ha.add (seeE hs 2 (.int .i64 a2) KR KR)
        refine yStep ha 41 KR ?_; intro l_ ha HK
        refine stepp ha 41 (.int .i64 a2) KR KR ?_; intro ax hax; exact HK _ _ _ hax rfl (Below.refl _ _)
      · skip
        show OpOkX _ _ _ _ _ _ _ _ _ _
        intro a wr hn hd HW hs; have ha := hasNil hn hd
        have ha := ha.add (seeF hs 39 5 (.pointer (some ⟨p0, 0, none⟩)) KR KR)
        have ha := ha.add (seeF hs 40 6 (.int .i64 a1) KR KR)
        have ha := ha.add (seeF hs 41 7 (.int .i64 a2) KR KR)
        refine yStep ha 42 KR ?_; intro l_ ha HK
        refine stepc ha 42 KR KR (journal_Journal_place.calls (⟨(), a0.f1, a0.f2, a0.f3, (⟨(), (), a0.f4.f2⟩ : T_atomic_Int64), a0.f5, a0.f6, a0.f7, a0.f8, a0.f9⟩ : T_journal_Journal) a1 a2 A1312 c1313 p0 p0_0 t1334 _ (HW.ca (i := 0) (b := p0) (C := #[.pointer (some ⟨p0_0, 0, none⟩), .int .i64 a0.f1, .int .i64 a0.f2, .int .i64 a0.f3, .int .i64 a0.f4.f2, .string a0.f5, .slice A1312 a0.f6.length c1313, .int .i64 a0.f7, .bool a0.f8, .bool a0.f9]) (T := 57) (fr := (0, 0)) KR) (HW.rdo (i := 0) (q := ⟨9, 1, .slice A1312 a0.f6.length c1313, a0.f6.length, encs encS a0.f6⟩) KR) ht1335) ?_; rintro e W1336 ⟨rfl, HX1337⟩
        refine ⟨_, rfl, ?_⟩; intro ax hax; exact HK _ _ _ hax rfl HX1337.below
      · skip
        show OpOkX _ _ _ _ _ _ _ _ _ _
        intro a wr hn hd HW hs; have ha := hasNil hn hd
        have ha := ha.add (seeE hs 12 (.string t1317.1) KR KR)
        refine yStep ha 43 KR ?_; intro l_ ha HK
        refine stepp ha 43 (.string t1317.1) KR KR ?_; intro ax hax; exact HK _ _ _ hax rfl (Below.refl _ _)
      · skip
        show EffOkX _ _ _ _ _ _ _ _ _
        intro a wr hn hd HW hs; have ha := hasNil hn hd
        have ha := ha.add (seeF hs 38 4 (.pointer (some ⟨p0_0, 0, none⟩)) KR KR)
        have ha := ha.add (seeF hs 42 8 (.int .i64 t1334) KR KR)
        have ha := ha.add (seeF hs 43 9 (.string t1317.1) KR KR)
        refine yStepA ha 44 KR ?_; intro l_ ha HK
        refine stepc ha 44 KR KR (dev_Dev_Write.calls K a0_0 t1334 t1317.1 p0_0 U0_0 t1338 _ _ F ([(p0, .cells #[.pointer (some ⟨p0_0, 0, none⟩), .int .i64 a0.f1, .int .i64 a0.f2, .int .i64 a0.f3, .int .i64 a0.f4.f2, .string a0.f5, .slice A1312 a0.f6.length c1313, .int .i64 a0.f7, .bool a0.f8, .bool a0.f9] 57 (0, 0))] ++ (bs)) (⟨9, 1, .slice A1312 a0.f6.length c1313, a0.f6.length, encs encS a0.f6⟩ :: os) hU0_0 (Wd.segs (ss := [[(p0, .cells #[.pointer (some ⟨p0_0, 0, none⟩), .int .i64 a0.f1, .int .i64 a0.f2, .int .i64 a0.f3, .int .i64 a0.f4.f2, .string a0.f5, .slice A1312 a0.f6.length c1313, .int .i64 a0.f7, .bool a0.f8, .bool a0.f9] 57 (0, 0))], U0_0, F]) (bt := bs) (m := [⟨9, 1, .slice A1312 a0.f6.length c1313, a0.f6.length, encs encS a0.f6⟩]) (ot := os) [U0_0, F, [(p0, .cells #[.pointer (some ⟨p0_0, 0, none⟩), .int .i64 a0.f1, .int .i64 a0.f2, .int .i64 a0.f3, .int .i64 a0.f4.f2, .string a0.f5, .slice A1312 a0.f6.length c1313, .int .i64 a0.f7, .bool a0.f8, .bool a0.f9] 57 (0, 0))]] [⟨9, 1, .slice A1312 a0.f6.length c1313, a0.f6.length, encs encS a0.f6⟩] HW [1, 2, 0] [] [0] KR KR (by decide) KR) ht1339) ?_; rintro e W1341 ⟨U1340, rfl, hU0_0n, HX1342⟩
        refine ⟨_, rfl, ?_⟩; intro ax hax; exact HK _ _ _ hax ⟨([], [], [U1340]), rfl, Wd.segs (ss := [U1340, F, [(p0, .cells #[.pointer (some ⟨p0_0, 0, none⟩), .int .i64 a0.f1, .int .i64 a0.f2, .int .i64 a0.f3, .int .i64 a0.f4.f2, .string a0.f5, .slice A1312 a0.f6.length c1313, .int .i64 a0.f7, .bool a0.f8, .bool a0.f9] 57 (0, 0))]]) (bt := bs) (m := [⟨9, 1, .slice A1312 a0.f6.length c1313, a0.f6.length, encs encS a0.f6⟩]) (ot := os) [[(p0, .cells #[.pointer (some ⟨p0_0, 0, none⟩), .int .i64 a0.f1, .int .i64 a0.f2, .int .i64 a0.f3, .int .i64 a0.f4.f2, .string a0.f5, .slice A1312 a0.f6.length c1313, .int .i64 a0.f7, .bool a0.f8, .bool a0.f9] 57 (0, 0))], U1340, F] [⟨9, 1, .slice A1312 a0.f6.length c1313, a0.f6.length, encs encS a0.f6⟩] HX1342 [2, 0, 1] [] [0] KR KR (by decide) KR, ⟨hU0_0n, trivial⟩⟩
    · skip
      intro a W1348 ha hE_ he hf
      clear HW; obtain ⟨_, he_, ⟨As1345, ns1346, Us1347⟩, rfl, HW, hU0_0q, _⟩ := gotK (m := 11) (j := 10) (d := 44) (f := .ws (fun x_ => .int .i64 t1338.1) w (fun x_ => ((p0, .cells #[.pointer (some ⟨p0_0, 0, none⟩), .int .i64 a0.f1, .int .i64 a0.f2, .int .i64 a0.f3, .int .i64 a0.f4.f2, .string a0.f5, .slice A1312 a0.f6.length c1313, .int .i64 a0.f7, .bool a0.f8, .bool a0.f9] 57 (0, 0)) :: (x_.2.2.getD 0 []) ++ (F ++ bs))) (fun x_ => (⟨9, 1, .slice A1312 a0.f6.length c1313, a0.f6.length, encs encS a0.f6⟩ :: os)) (fun x_ => T_dev_Dev.At p0_0  t1338.2 (x_.2.2.getD 0 []) ∧ True)) hf KR KR KR; replace ha := ha.add he_; clear he_
      clear hU0_0; have hU0_0 : T_dev_Dev.At p0_0  t1338.2 (Us1347.getD 0 []) := hU0_0q; clear hU0_0q
      replace ha := ha.turn 44 (v := .int .i64 t1338.1) KR rfl
      replace HW : Wd w W1348 ((p0, .cells #[.pointer (some ⟨p0_0, 0, none⟩), .int .i64 a0.f1, .int .i64 a0.f2, .int .i64 a0.f3, .int .i64 a0.f4.f2, .string a0.f5, .slice A1312 a0.f6.length c1313, .int .i64 a0.f7, .bool a0.f8, .bool a0.f9] 57 (0, 0)) :: (Us1347.getD 0 []) ++ (F ++ bs)) (⟨9, 1, .slice A1312 a0.f6.length c1313, a0.f6.length, encs encS a0.f6⟩ :: os) := HW
      replace ha := ha.add (he 0 (.pointer (some ⟨p0, 0, none⟩)) KR KR)
      replace ha := ha.add (he 1 (.int .i64 a1) KR KR)
      replace ha := ha.add (he 4 (.int .i64 a4) KR KR)
      replace ha := ha.add (he 11 (.int .i64 (IntKind.wrap .i64 (a0.f4.f2 + 1))) KR KR)
      replace ha := ha.add (gotF (m := 11) (j := 0) (d := 34) (v := .pointer (some ⟨p0, 0, none⟩)) hf KR KR KR)
      clear he hf
      obtain ⟨U1349, hU1350, HW⟩ := T_journal_Journal.fold (x := (⟨(), a0.f1, a0.f2, a0.f3, (⟨(), (), a0.f4.f2⟩ : T_atomic_Int64), a0.f5, a0.f6, a0.f7, a0.f8, a0.f9⟩ : T_journal_Journal)) (Wd.segs (ss := [[(p0, .cells #[.pointer (some ⟨p0_0, 0, none⟩), .int .i64 a0.f1, .int .i64 a0.f2, .int .i64 a0.f3, .int .i64 a0.f4.f2, .string a0.f5, .slice A1312 a0.f6.length c1313, .int .i64 a0.f7, .bool a0.f8, .bool a0.f9] 57 (0, 0))], (Us1347.getD 0 []), F]) (bt := bs) (m := [⟨9, 1, .slice A1312 a0.f6.length c1313, a0.f6.length, encs encS a0.f6⟩]) (ot := os) [[(p0, .cells #[.pointer (some ⟨p0_0, 0, none⟩), .int .i64 a0.f1, .int .i64 a0.f2, .int .i64 a0.f3, .int .i64 a0.f4.f2, .string a0.f5, .slice A1312 a0.f6.length c1313, .int .i64 a0.f7, .bool a0.f8, .bool a0.f9] 57 (0, 0))], (Us1347.getD 0 []), F] [⟨9, 1, .slice A1312 a0.f6.length c1313, a0.f6.length, encs encS a0.f6⟩] HW [0, 1, 2] [] [0] KR KR (by decide) KR)
      replace HW := Wd.segs (ss := [U1349, (Us1347.getD 0 []), F]) (bt := bs) (m := []) (ot := os) [U1349, (Us1347.getD 0 []), F] [] HW [0, 1, 2] [] [] KR KR (by decide) KR
      replace HW : Wd w W1348 (U1349 ++ ((Us1347.getD 0 []) ++ (F ++ bs))) (os) := HW
      obtain ⟨t1351, ht1352, h_⟩ := bind_some' h; clear h; have h := h_; clear h_
      refine stepc ha 45 KR KR (journal_Journal_failed.calls (⟨(), a0.f1, a0.f2, a0.f3, (⟨(), (), a0.f4.f2⟩ : T_atomic_Int64), a0.f5, a0.f6, a0.f7, a0.f8, a0.f9⟩ : T_journal_Journal) t1338.2 t1338.1 p0 U1349 p0_0 (Us1347.getD 0 []) t1351 _ _ F bs (os) hU1350 hU0_0 (Wd.segs (ss := [U1349, (Us1347.getD 0 []), F]) (bt := bs) (m := []) (ot := os) [U1349, (Us1347.getD 0 []), F] [] HW [0, 1, 2] [] [] KR KR (by decide) KR) ht1352) ?_; clear ha a; rintro e W1355 ⟨U1353, U1354, rfl, hU1350n, hU0_0n, HX1356⟩
      refine ⟨_, rfl, ?_⟩; intro a ha; clear HW
      clear hU1350; have hU1350 := hU1350n; clear hU1350n
      clear hU0_0; have hU0_0 := hU0_0n; clear hU0_0n
      have HW : Wd w W1355 (U1353 ++ (U1354 ++ (F ++ bs))) (os) := Wd.segs (ss := [U1353, U1354, F]) (bt := bs) (m := []) (ot := os) [U1353, U1354, F] [] HX1356 [0, 1, 2] [] [] KR KR (by decide) KR; clear HX1356
      refine stepp ha 14 (.int .i64 t1351.1) KR KR ?_; clear ha a; intro a ha
      refine endl ?_
      refine thenN (hK1333 _ _ ?_); clear hK1333
      refine wp_seq_k (fun K1359 hK1360 => ?_)
      refine wp_region_lit ?_
      refine stepp ha 46 (.int .i64 t1351.1) KR KR ?_; clear ha a; intro a ha
      refine stepp ha 47 (.bool (t1351.1 != 0)) KR KR ?_; clear ha a; intro a ha
      refine endl ?_
      refine thenN (hK1360 _ _ ?_); clear hK1360
      by_cases hp1361 : t1351.1 = 0
      · skip
        replace h := ite_pos' h hp1361
        refine condF ha KR KR (t := (t1351.1 != 0)) (ineq_f hp1361) ?_
        refine wp_skip ?_
        refine thenN (hK1331 _ _ ?_); clear hK1331
        refine wp_seq_k (fun K1364 hK1365 => ?_)
        refine wp_seq_k (fun K1366 hK1367 => ?_)
        refine wp_region_lit ?_
        refine stepp ha 49 (.pointer (some ⟨p0, 0, none⟩)) KR KR ?_; clear ha a; intro a ha
        obtain ⟨t1368, ht1369, h_⟩ := bind_some' h; clear h; have h := h_; clear h_
        refine stepc ha 50 KR KR (journal_Journal_flush.calls K t1351.2.1 t1351.2.2 p0 U1353 p0_0 U1354 t1368 _ _ F bs (os) hU1350 hU0_0 (Wd.segs (ss := [U1353, U1354, F]) (bt := bs) (m := []) (ot := os) [U1353, U1354, F] [] HW [0, 1, 2] [] [] KR KR (by decide) KR) ht1369) ?_; clear ha a; rintro e W1372 ⟨U1370, U1371, rfl, hU1350n, hU0_0n, HX1373⟩
        refine ⟨_, rfl, ?_⟩; intro a ha; clear HW
        clear hU1350; have hU1350 := hU1350n; clear hU1350n
        clear hU0_0; have hU0_0 := hU0_0n; clear hU0_0n
        have HW : Wd w W1372 (U1370 ++ (U1371 ++ (F ++ bs))) (os) := Wd.segs (ss := [U1370, U1371, F]) (bt := bs) (m := []) (ot := os) [U1370, U1371, F] [] HX1373 [0, 1, 2] [] [] KR KR (by decide) KR; clear HX1373
        refine stepp ha 15 (.int .i64 t1368.1) KR KR ?_; clear ha a; intro a ha
        refine endl ?_
        refine thenN (hK1367 _ _ ?_); clear hK1367
        refine wp_seq_k (fun K1376 hK1377 => ?_)
        refine wp_region_lit ?_
        refine stepp ha 51 (.int .i64 t1368.1) KR KR ?_; clear ha a; intro a ha
        refine stepp ha 52 (.bool (t1368.1 != 0)) KR KR ?_; clear ha a; intro a ha
        refine endl ?_
        refine thenN (hK1377 _ _ ?_); clear hK1377
        by_cases hp1378 : t1368.1 = 0
        · skip
          replace h := ite_pos' h hp1378
          refine condF ha KR KR (t := (t1368.1 != 0)) (ineq_f hp1378) ?_
          refine wp_skip ?_
          refine thenN (hK1365 _ _ ?_); clear hK1365
          refine wp_seq_k (fun K1381 hK1382 => ?_)
          refine wp_region_lit ?_
          refine stepp ha 54 (.int .i64 (IntKind.wrap .i64 (a0.f4.f2 + 1))) KR KR ?_; clear ha a; intro a ha
          refine stepp ha 55 (.int .u64 (IntKind.wrap .u64 (IntKind.wrap .i64 (a0.f4.f2 + 1)))) KR KR ?_; clear ha a; intro a ha
          obtain ⟨t1383, ht1384, h_⟩ := bind_some' h; clear h; have h := h_; clear h_
          refine stepc ha 56 KR KR (fields_PutBig.calls K (IntKind.wrap .u64 (IntKind.wrap .i64 (a0.f4.f2 + 1))) 8 t1383 _ ht1384) ?_; clear ha a; rintro e W1385 ⟨rfl, HX1386⟩
          refine ⟨_, rfl, ?_⟩; intro a ha; replace HW := HW.callw HX1386; clear HX1386
          refine stepp ha 16 (.string t1383) KR KR ?_; clear ha a; intro a ha
          refine endl ?_
          refine thenN (hK1382 _ _ ?_); clear hK1382
          refine wp_seq_k (fun K1387 hK1388 => ?_)
          refine wp_region_lit ?_
          refine stepp ha 57 (.string t1383) KR KR ?_; clear ha a; intro a ha
          obtain ⟨hA1389, h_⟩ := asrt_some h; clear h; have h := h_; clear h_
          refine stepsa ha 58 9 9 (.const (.string (⟨#[72, 71, 74, 67]⟩ : ByteArray))) (.tmp 57) (⟨#[72, 71, 74, 67]⟩ : ByteArray) t1383 rfl KR KR (show ((⟨#[72, 71, 74, 67]⟩ : ByteArray)).size + (t1383).size ≤ 9223372036854775807 from hA1389) KR ?_; clear ha a; intro a ha
          refine stepp ha 59 (.int .i64 a1) KR KR ?_; clear ha a; intro a ha
          refine stepp ha 60 (.int .u64 (IntKind.wrap .u64 a1)) KR KR ?_; clear ha a; intro a ha
          obtain ⟨t1390, ht1391, h_⟩ := bind_some' h; clear h; have h := h_; clear h_
          refine stepc ha 61 KR KR (fields_PutBig.calls K (IntKind.wrap .u64 a1) 4 t1390 _ ht1391) ?_; clear ha a; rintro e W1392 ⟨rfl, HX1393⟩
          refine ⟨_, rfl, ?_⟩; intro a ha; replace HW := HW.callw HX1393; clear HX1393
          obtain ⟨hA1394, h_⟩ := asrt_some h; clear h; have h := h_; clear h_
          refine stepsa ha 62 9 9 (.tmp 58) (.tmp 61) ((⟨#[72, 71, 74, 67]⟩ : ByteArray) ++ t1383) t1390 rfl KR KR (show ((⟨#[72, 71, 74, 67]⟩ : ByteArray) ++ t1383).size + (t1390).size ≤ 9223372036854775807 from hA1394) KR ?_; clear ha a; intro a ha
          refine stepp ha 63 (.int .i64 a4) KR KR ?_; clear ha a; intro a ha
          refine stepp ha 64 (.int .u64 (IntKind.wrap .u64 a4)) KR KR ?_; clear ha a; intro a ha
          obtain ⟨t1395, ht1396, h_⟩ := bind_some' h; clear h; have h := h_; clear h_
          refine stepc ha 65 KR KR (fields_PutBig.calls K (IntKind.wrap .u64 a4) 4 t1395 _ ht1396) ?_; clear ha a; rintro e W1397 ⟨rfl, HX1398⟩
          refine ⟨_, rfl, ?_⟩; intro a ha; replace HW := HW.callw HX1398; clear HX1398
          obtain ⟨hA1399, h_⟩ := asrt_some h; clear h; have h := h_; clear h_
          refine stepsa ha 66 9 9 (.tmp 62) (.tmp 65) (((⟨#[72, 71, 74, 67]⟩ : ByteArray) ++ t1383) ++ t1390) t1395 rfl KR KR (show (((⟨#[72, 71, 74, 67]⟩ : ByteArray) ++ t1383) ++ t1390).size + (t1395).size ≤ 9223372036854775807 from hA1399) KR ?_; clear ha a; intro a ha
          refine stepp ha 17 (.string ((((⟨#[72, 71, 74, 67]⟩ : ByteArray) ++ t1383) ++ t1390) ++ t1395)) KR KR ?_; clear ha a; intro a ha
          refine endl ?_
          refine thenN (hK1388 _ _ ?_); clear hK1388
          refine wp_seq_k (fun K1400 hK1401 => ?_)
          refine wp_region_lit ?_
          refine stepp ha 67 (.string ((((⟨#[72, 71, 74, 67]⟩ : ByteArray) ++ t1383) ++ t1390) ++ t1395)) KR KR ?_; clear ha a; intro a ha
          refine stepp ha 68 (.string ((((⟨#[72, 71, 74, 67]⟩ : ByteArray) ++ t1383) ++ t1390) ++ t1395)) KR KR ?_; clear ha a; intro a ha
          refine stepp ha 69 (.int .i64 (((((⟨#[72, 71, 74, 67]⟩ : ByteArray) ++ t1383) ++ t1390) ++ t1395).size : Int)) KR KR ?_; clear ha a; intro a ha
          refine stepp ha 70 (.int .i64 (IntKind.wrap .i64 (512 - (((((⟨#[72, 71, 74, 67]⟩ : ByteArray) ++ t1383) ++ t1390) ++ t1395).size : Int)))) KR KR ?_; clear ha a; intro a ha
          refine stepp ha 71 (.string t1383) KR KR ?_; clear ha a; intro a ha
          refine stepp ha 72 (.int .i64 (t1383.size : Int)) KR KR ?_; clear ha a; intro a ha
          refine stepp ha 73 (.int .i64 (IntKind.wrap .i64 ((IntKind.wrap .i64 (512 - (((((⟨#[72, 71, 74, 67]⟩ : ByteArray) ++ t1383) ++ t1390) ++ t1395).size : Int))) - (t1383.size : Int)))) KR KR ?_; clear ha a; intro a ha
          obtain ⟨t1402, ht1403, h_⟩ := bind_some' h; clear h; have h := h_; clear h_
          refine stepc ha 74 KR KR (strings_Repeat.calls (⟨#[0]⟩ : ByteArray) (IntKind.wrap .i64 ((IntKind.wrap .i64 (512 - (((((⟨#[72, 71, 74, 67]⟩ : ByteArray) ++ t1383) ++ t1390) ++ t1395).size : Int))) - (t1383.size : Int))) t1402 _ ht1403) ?_; clear ha a; rintro e W1404 ⟨rfl, HX1405⟩
          refine ⟨_, rfl, ?_⟩; intro a ha; replace HW := HW.callw HX1405; clear HX1405
          refine stepp ha 75 (.string t1383) KR KR ?_; clear ha a; intro a ha
          obtain ⟨hA1406, h_⟩ := asrt_some h; clear h; have h := h_; clear h_
          refine stepsa ha 76 9 9 (.tmp 74) (.tmp 75) t1402 t1383 rfl KR KR (show (t1402).size + (t1383).size ≤ 9223372036854775807 from hA1406) KR ?_; clear ha a; intro a ha
          obtain ⟨hA1407, h_⟩ := asrt_some h; clear h; have h := h_; clear h_
          refine stepsa ha 77 9 9 (.tmp 67) (.tmp 76) ((((⟨#[72, 71, 74, 67]⟩ : ByteArray) ++ t1383) ++ t1390) ++ t1395) (t1402 ++ t1383) rfl KR KR (show ((((⟨#[72, 71, 74, 67]⟩ : ByteArray) ++ t1383) ++ t1390) ++ t1395).size + (t1402 ++ t1383).size ≤ 9223372036854775807 from hA1407) KR ?_; clear ha a; intro a ha
          refine stepp ha 17 (.string (((((⟨#[72, 71, 74, 67]⟩ : ByteArray) ++ t1383) ++ t1390) ++ t1395) ++ (t1402 ++ t1383))) KR KR ?_; clear ha a; intro a ha
          refine endl ?_
          refine thenN (hK1401 _ _ ?_); clear hK1401
          refine wp_seq_k (fun K1408 hK1409 => ?_)
          refine wp_seq_k (fun K1410 hK1411 => ?_)
          obtain ⟨A1412, c1413, HW⟩ := T_journal_Journal.unfold hU1350 (Wd.segs (ss := [U1370, U1371, F]) (bt := bs) (m := []) (ot := os) [U1370, U1371, F] [] HW [0, 1, 2] [] [] KR KR (by decide) KR)
          replace HW : Wd w W1404 ((p0, .cells #[.pointer (some ⟨p0_0, 0, none⟩), .int .i64 t1368.2.1.f1, .int .i64 t1368.2.1.f2, .int .i64 t1368.2.1.f3, .int .i64 t1368.2.1.f4.f2, .string t1368.2.1.f5, .slice A1412 t1368.2.1.f6.length c1413, .int .i64 t1368.2.1.f7, .bool t1368.2.1.f8, .bool t1368.2.1.f9] 57 (0, 0)) :: U1371 ++ (F ++ bs)) (⟨9, 1, .slice A1412 t1368.2.1.f6.length c1413, t1368.2.1.f6.length, encs encS t1368.2.1.f6⟩ :: os) := HW; clear hU1350
          obtain ⟨t1415, ht1416, h_⟩ := bind_some' h; clear h; have h := h_; clear h_
          refine regionE 14 13 KR [.fix (.pointer (some ⟨p0, 0, none⟩)), .fix (.pointer (some ⟨p0, 0, none⟩)), .fix (.pointer (some ⟨p0, 0, none⟩)), .fix (.pointer (some ⟨p0, 0, none⟩)), .fix (.pointer (some ⟨p0_0, 0, none⟩)), .fix (.pointer (some ⟨p0, 0, none⟩)), .fix (.pointer (some ⟨p0, 0, none⟩)), .fix (.pointer (some ⟨p0, 1, none⟩)), .fix (.int .i64 t1368.2.1.f1), .fix (.int .i64 (IntKind.wrap .i64 (a0.f4.f2 + 1))), .fix (.int .i64 (Int.tmod (IntKind.wrap .i64 (a0.f4.f2 + 1)) 2)), .fix (.int .i64 (IntKind.wrap .i64 (t1368.2.1.f1 + (Int.tmod (IntKind.wrap .i64 (a0.f4.f2 + 1)) 2)))), .fix (.string (((((⟨#[72, 71, 74, 67]⟩ : ByteArray) ++ t1383) ++ t1390) ++ t1395) ++ (t1402 ++ t1383))), (.ws (fun x_ => .int .i64 t1415.1) w (fun x_ => ((p0, .cells #[.pointer (some ⟨p0_0, 0, none⟩), .int .i64 t1368.2.1.f1, .int .i64 t1368.2.1.f2, .int .i64 t1368.2.1.f3, .int .i64 t1368.2.1.f4.f2, .string t1368.2.1.f5, .slice A1412 t1368.2.1.f6.length c1413, .int .i64 t1368.2.1.f7, .bool t1368.2.1.f8, .bool t1368.2.1.f9] 57 (0, 0)) :: (x_.2.2.getD 0 []) ++ (F ++ bs))) (fun x_ => (⟨9, 1, .slice A1412 t1368.2.1.f6.length c1413, t1368.2.1.f6.length, encs encS t1368.2.1.f6⟩ :: os)) (fun x_ => T_dev_Dev.At p0_0  t1415.2 (x_.2.2.getD 0 []) ∧ True))] [false, false, false, false, false, false, false, false, false, false, false, false, false, false] KR (((p0, .cells #[.pointer (some ⟨p0_0, 0, none⟩), .int .i64 t1368.2.1.f1, .int .i64 t1368.2.1.f2, .int .i64 t1368.2.1.f3, .int .i64 t1368.2.1.f4.f2, .string t1368.2.1.f5, .slice A1412 t1368.2.1.f6.length c1413, .int .i64 t1368.2.1.f7, .bool t1368.2.1.f8, .bool t1368.2.1.f9] 57 (0, 0)) :: F ++ bs), (⟨9, 1, .slice A1412 t1368.2.1.f6.length c1413, t1368.2.1.f6.length, encs encS t1368.2.1.f6⟩ :: os)) (((p0, .cells #[.pointer (some ⟨p0_0, 0, none⟩), .int .i64 t1368.2.1.f1, .int .i64 t1368.2.1.f2, .int .i64 t1368.2.1.f3, .int .i64 t1368.2.1.f4.f2, .string t1368.2.1.f5, .slice A1412 t1368.2.1.f6.length c1413, .int .i64 t1368.2.1.f7, .bool t1368.2.1.f8, .bool t1368.2.1.f9] 57 (0, 0)) :: U1371 ++ (F ++ bs)), (⟨9, 1, .slice A1412 t1368.2.1.f6.length c1413, t1368.2.1.f6.length, encs encS t1368.2.1.f6⟩ :: os)) ha HW (.ws (fun x_ => .int .i64 t1415.1) w (fun x_ => ((p0, .cells #[.pointer (some ⟨p0_0, 0, none⟩), .int .i64 t1368.2.1.f1, .int .i64 t1368.2.1.f2, .int .i64 t1368.2.1.f3, .int .i64 t1368.2.1.f4.f2, .string t1368.2.1.f5, .slice A1412 t1368.2.1.f6.length c1413, .int .i64 t1368.2.1.f7, .bool t1368.2.1.f8, .bool t1368.2.1.f9] 57 (0, 0)) :: (x_.2.2.getD 0 []) ++ (F ++ bs))) (fun x_ => (⟨9, 1, .slice A1412 t1368.2.1.f6.length c1413, t1368.2.1.f6.length, encs encS t1368.2.1.f6⟩ :: os)) (fun x_ => T_dev_Dev.At p0_0  t1415.2 (x_.2.2.getD 0 []) ∧ True)) KR (fun w_ h_ => (Wd.segs (ss := [[(p0, .cells #[.pointer (some ⟨p0_0, 0, none⟩), .int .i64 t1368.2.1.f1, .int .i64 t1368.2.1.f2, .int .i64 t1368.2.1.f3, .int .i64 t1368.2.1.f4.f2, .string t1368.2.1.f5, .slice A1412 t1368.2.1.f6.length c1413, .int .i64 t1368.2.1.f7, .bool t1368.2.1.f8, .bool t1368.2.1.f9] 57 (0, 0))], U1371, F]) (bt := bs) (m := [⟨9, 1, .slice A1412 t1368.2.1.f6.length c1413, t1368.2.1.f6.length, encs encS t1368.2.1.f6⟩]) (ot := os) [[(p0, .cells #[.pointer (some ⟨p0_0, 0, none⟩), .int .i64 t1368.2.1.f1, .int .i64 t1368.2.1.f2, .int .i64 t1368.2.1.f3, .int .i64 t1368.2.1.f4.f2, .string t1368.2.1.f5, .slice A1412 t1368.2.1.f6.length c1413, .int .i64 t1368.2.1.f7, .bool t1368.2.1.f8, .bool t1368.2.1.f9] 57 (0, 0))], F] [⟨9, 1, .slice A1412 t1368.2.1.f6.length c1413, t1368.2.1.f6.length, encs encS t1368.2.1.f6⟩] h_ [0, 2] [1] [0] KR KR (by decide) KR)) (fun v_ w_ h_ => by obtain ⟨⟨As1422, ns1423, Us1424⟩, _, h_, _⟩ := h_; exact (Wd.segs (ss := [[(p0, .cells #[.pointer (some ⟨p0_0, 0, none⟩), .int .i64 t1368.2.1.f1, .int .i64 t1368.2.1.f2, .int .i64 t1368.2.1.f3, .int .i64 t1368.2.1.f4.f2, .string t1368.2.1.f5, .slice A1412 t1368.2.1.f6.length c1413, .int .i64 t1368.2.1.f7, .bool t1368.2.1.f8, .bool t1368.2.1.f9] 57 (0, 0))], (Us1424.getD 0 []), F]) (bt := bs) (m := [⟨9, 1, .slice A1412 t1368.2.1.f6.length c1413, t1368.2.1.f6.length, encs encS t1368.2.1.f6⟩]) (ot := os) [[(p0, .cells #[.pointer (some ⟨p0_0, 0, none⟩), .int .i64 t1368.2.1.f1, .int .i64 t1368.2.1.f2, .int .i64 t1368.2.1.f3, .int .i64 t1368.2.1.f4.f2, .string t1368.2.1.f5, .slice A1412 t1368.2.1.f6.length c1413, .int .i64 t1368.2.1.f7, .bool t1368.2.1.f8, .bool t1368.2.1.f9] 57 (0, 0))], F] [⟨9, 1, .slice A1412 t1368.2.1.f6.length c1413, t1368.2.1.f6.length, encs encS t1368.2.1.f6⟩] h_ [0, 2] [1] [0] KR KR (by decide) KR)) KR ?_ ?_
          · skip
            refine ⟨?_, ?_, ?_, ?_, ?_, ?_, ?_, ?_, ?_, ?_, ?_, ?_, ?_, ?_, trivial⟩
            · skip
              show OpOkX _ _ _ _ _ _ _ _ _ _
              intro a wr hn hd HW hs; have ha := hasNil hn hd
              have ha := ha.add (seeE hs 0 (.pointer (some ⟨p0, 0, none⟩)) KR KR)
              refine yStep ha 78 KR ?_; intro l_ ha HK
              refine stepp ha 78 (.pointer (some ⟨p0, 0, none⟩)) KR KR ?_; intro ax hax; exact HK _ _ _ hax rfl (Below.refl _ _)
            · skip
              show OpOkX _ _ _ _ _ _ _ _ _ _
              intro a wr hn hd HW hs; have ha := hasNil hn hd
              have ha := ha.add (seeE hs 0 (.pointer (some ⟨p0, 0, none⟩)) KR KR)
              refine yStep ha 79 KR ?_; intro l_ ha HK
              refine stepp ha 79 (.pointer (some ⟨p0, 0, none⟩)) KR KR ?_; intro ax hax; exact HK _ _ _ hax rfl (Below.refl _ _)
            · skip
              show OpOkX _ _ _ _ _ _ _ _ _ _
              intro a wr hn hd HW hs; have ha := hasNil hn hd
              have ha := ha.add (seeF hs 79 1 (.pointer (some ⟨p0, 0, none⟩)) KR KR)
              refine yStep ha 80 KR ?_; intro l_ ha HK
              refine stepp ha 80 (.pointer (some ⟨p0, 0, none⟩)) KR KR ?_; intro ax hax; exact HK _ _ _ hax rfl (Below.refl _ _)
            · skip
              show OpOkX _ _ _ _ _ _ _ _ _ _
              intro a wr hn hd HW hs; have ha := hasNil hn hd
              have ha := ha.add (seeF hs 80 2 (.pointer (some ⟨p0, 0, none⟩)) KR KR)
              refine yStep ha 81 KR ?_; intro l_ ha HK
              refine stepp ha 81 (.pointer (some ⟨p0, 0, none⟩)) KR KR ?_; intro ax hax; exact HK _ _ _ hax rfl (Below.refl _ _)
            · skip
              show OpOkX _ _ _ _ _ _ _ _ _ _
              intro a wr hn hd HW hs; have ha := hasNil hn hd
              have ha := ha.add (seeF hs 81 3 (.pointer (some ⟨p0, 0, none⟩)) KR KR)
              refine yStep ha 82 KR ?_; intro l_ ha HK
              refine stepl ha 82 (HW.ca (i := 0) (b := p0) (C := #[.pointer (some ⟨p0_0, 0, none⟩), .int .i64 t1368.2.1.f1, .int .i64 t1368.2.1.f2, .int .i64 t1368.2.1.f3, .int .i64 t1368.2.1.f4.f2, .string t1368.2.1.f5, .slice A1412 t1368.2.1.f6.length c1413, .int .i64 t1368.2.1.f7, .bool t1368.2.1.f8, .bool t1368.2.1.f9]) (T := 57) (fr := (0, 0)) KR) 25 0 (.tmp 81) (.pointer (some ⟨p0_0, 0, none⟩)) rfl KR KR KR ?_; intro ax hax; exact HK _ _ _ hax rfl (Below.refl _ _)
            · skip
              show OpOkX _ _ _ _ _ _ _ _ _ _
              intro a wr hn hd HW hs; have ha := hasNil hn hd
              have ha := ha.add (seeE hs 0 (.pointer (some ⟨p0, 0, none⟩)) KR KR)
              refine yStep ha 83 KR ?_; intro l_ ha HK
              refine stepp ha 83 (.pointer (some ⟨p0, 0, none⟩)) KR KR ?_; intro ax hax; exact HK _ _ _ hax rfl (Below.refl _ _)
            · skip
              show OpOkX _ _ _ _ _ _ _ _ _ _
              intro a wr hn hd HW hs; have ha := hasNil hn hd
              have ha := ha.add (seeF hs 83 5 (.pointer (some ⟨p0, 0, none⟩)) KR KR)
              refine yStep ha 84 KR ?_; intro l_ ha HK
              refine stepp ha 84 (.pointer (some ⟨p0, 0, none⟩)) KR KR ?_; intro ax hax; exact HK _ _ _ hax rfl (Below.refl _ _)
            · skip
              show OpOkX _ _ _ _ _ _ _ _ _ _
              intro a wr hn hd HW hs; have ha := hasNil hn hd
              have ha := ha.add (seeF hs 84 6 (.pointer (some ⟨p0, 0, none⟩)) KR KR)
              refine yStep ha 85 KR ?_; intro l_ ha HK
              refine stepp ha 85 (.pointer (some ⟨p0, 1, none⟩)) KR KR ?_; intro ax hax; exact HK _ _ _ hax rfl (Below.refl _ _)
            · skip
              show OpOkX _ _ _ _ _ _ _ _ _ _
              intro a wr hn hd HW hs; have ha := hasNil hn hd
              have ha := ha.add (seeF hs 85 7 (.pointer (some ⟨p0, 1, none⟩)) KR KR)
              refine yStep ha 86 KR ?_; intro l_ ha HK
              refine stepl ha 86 (HW.ca (i := 0) (b := p0) (C := #[.pointer (some ⟨p0_0, 0, none⟩), .int .i64 t1368.2.1.f1, .int .i64 t1368.2.1.f2, .int .i64 t1368.2.1.f3, .int .i64 t1368.2.1.f4.f2, .string t1368.2.1.f5, .slice A1412 t1368.2.1.f6.length c1413, .int .i64 t1368.2.1.f7, .bool t1368.2.1.f8, .bool t1368.2.1.f9]) (T := 57) (fr := (0, 0)) KR) 3 1 (.tmp 85) (.int .i64 t1368.2.1.f1) rfl KR KR KR ?_; intro ax hax; exact HK _ _ _ hax rfl (Below.refl _ _)
            · skip
              show OpOkX _ _ _ _ _ _ _ _ _ _
              intro a wr hn hd HW hs; have ha := hasNil hn hd
              have ha := ha.add (seeE hs 11 (.int .i64 (IntKind.wrap .i64 (a0.f4.f2 + 1))) KR KR)
              refine yStep ha 87 KR ?_; intro l_ ha HK
              refine stepp ha 87 (.int .i64 (IntKind.wrap .i64 (a0.f4.f2 + 1))) KR KR ?_; intro ax hax; exact HK _ _ _ hax rfl (Below.refl _ _)
            · skip
              show OpOkX _ _ _ _ _ _ _ _ _ _
              intro a wr hn hd HW hs; have ha := hasNil hn hd
              have ha := ha.add (seeF hs 87 9 (.int .i64 (IntKind.wrap .i64 (a0.f4.f2 + 1))) KR KR)
              refine yStep ha 88 KR ?_; intro l_ ha HK
              refine stepp ha 88 (.int .i64 (Int.tmod (IntKind.wrap .i64 (a0.f4.f2 + 1)) 2)) KR KR ?_; intro ax hax; exact HK _ _ _ hax rfl (Below.refl _ _)
            · skip
              show OpOkX _ _ _ _ _ _ _ _ _ _
              intro a wr hn hd HW hs; have ha := hasNil hn hd
              have ha := ha.add (seeF hs 86 8 (.int .i64 t1368.2.1.f1) KR KR)
              have ha := ha.add (seeF hs 88 10 (.int .i64 (Int.tmod (IntKind.wrap .i64 (a0.f4.f2 + 1)) 2)) KR KR)
              refine yStep ha 89 KR ?_; intro l_ ha HK
              refine stepp ha 89 (.int .i64 (IntKind.wrap .i64 (t1368.2.1.f1 + (Int.tmod (IntKind.wrap .i64 (a0.f4.f2 + 1)) 2)))) KR KR ?_; intro ax hax; exact HK _ _ _ hax rfl (Below.refl _ _)
            · skip
              show OpOkX _ _ _ _ _ _ _ _ _ _
              intro a wr hn hd HW hs; have ha := hasNil hn hd
              have ha := ha.add (seeE hs 17 (.string (((((⟨#[72, 71, 74, 67]⟩ : ByteArray) ++ t1383) ++ t1390) ++ t1395) ++ (t1402 ++ t1383))) KR KR)
              refine yStep ha 90 KR ?_; intro l_ ha HK
              refine stepp ha 90 (.string (((((⟨#[72, 71, 74, 67]⟩ : ByteArray) ++ t1383) ++ t1390) ++ t1395) ++ (t1402 ++ t1383))) KR KR ?_; intro ax hax; exact HK _ _ _ hax rfl (Below.refl _ _)
            · skip
              show EffOkX _ _ _ _ _ _ _ _ _
              intro a wr hn hd HW hs; have ha := hasNil hn hd
              have ha := ha.add (seeF hs 82 4 (.pointer (some ⟨p0_0, 0, none⟩)) KR KR)
              have ha := ha.add (seeF hs 89 11 (.int .i64 (IntKind.wrap .i64 (t1368.2.1.f1 + (Int.tmod (IntKind.wrap .i64 (a0.f4.f2 + 1)) 2)))) KR KR)
              have ha := ha.add (seeF hs 90 12 (.string (((((⟨#[72, 71, 74, 67]⟩ : ByteArray) ++ t1383) ++ t1390) ++ t1395) ++ (t1402 ++ t1383))) KR KR)
              refine yStepA ha 91 KR ?_; intro l_ ha HK
              refine stepc ha 91 KR KR (dev_Dev_Write.calls K t1368.2.2 (IntKind.wrap .i64 (t1368.2.1.f1 + (Int.tmod (IntKind.wrap .i64 (a0.f4.f2 + 1)) 2))) (((((⟨#[72, 71, 74, 67]⟩ : ByteArray) ++ t1383) ++ t1390) ++ t1395) ++ (t1402 ++ t1383)) p0_0 U1371 t1415 _ _ F ([(p0, .cells #[.pointer (some ⟨p0_0, 0, none⟩), .int .i64 t1368.2.1.f1, .int .i64 t1368.2.1.f2, .int .i64 t1368.2.1.f3, .int .i64 t1368.2.1.f4.f2, .string t1368.2.1.f5, .slice A1412 t1368.2.1.f6.length c1413, .int .i64 t1368.2.1.f7, .bool t1368.2.1.f8, .bool t1368.2.1.f9] 57 (0, 0))] ++ (bs)) (⟨9, 1, .slice A1412 t1368.2.1.f6.length c1413, t1368.2.1.f6.length, encs encS t1368.2.1.f6⟩ :: os) hU0_0 (Wd.segs (ss := [[(p0, .cells #[.pointer (some ⟨p0_0, 0, none⟩), .int .i64 t1368.2.1.f1, .int .i64 t1368.2.1.f2, .int .i64 t1368.2.1.f3, .int .i64 t1368.2.1.f4.f2, .string t1368.2.1.f5, .slice A1412 t1368.2.1.f6.length c1413, .int .i64 t1368.2.1.f7, .bool t1368.2.1.f8, .bool t1368.2.1.f9] 57 (0, 0))], U1371, F]) (bt := bs) (m := [⟨9, 1, .slice A1412 t1368.2.1.f6.length c1413, t1368.2.1.f6.length, encs encS t1368.2.1.f6⟩]) (ot := os) [U1371, F, [(p0, .cells #[.pointer (some ⟨p0_0, 0, none⟩), .int .i64 t1368.2.1.f1, .int .i64 t1368.2.1.f2, .int .i64 t1368.2.1.f3, .int .i64 t1368.2.1.f4.f2, .string t1368.2.1.f5, .slice A1412 t1368.2.1.f6.length c1413, .int .i64 t1368.2.1.f7, .bool t1368.2.1.f8, .bool t1368.2.1.f9] 57 (0, 0))]] [⟨9, 1, .slice A1412 t1368.2.1.f6.length c1413, t1368.2.1.f6.length, encs encS t1368.2.1.f6⟩] HW [1, 2, 0] [] [0] KR KR (by decide) KR) ht1416) ?_; rintro e W1418 ⟨U1417, rfl, hU0_0n, HX1419⟩
              refine ⟨_, rfl, ?_⟩; intro ax hax; exact HK _ _ _ hax ⟨([], [], [U1417]), rfl, Wd.segs (ss := [U1417, F, [(p0, .cells #[.pointer (some ⟨p0_0, 0, none⟩), .int .i64 t1368.2.1.f1, .int .i64 t1368.2.1.f2, .int .i64 t1368.2.1.f3, .int .i64 t1368.2.1.f4.f2, .string t1368.2.1.f5, .slice A1412 t1368.2.1.f6.length c1413, .int .i64 t1368.2.1.f7, .bool t1368.2.1.f8, .bool t1368.2.1.f9] 57 (0, 0))]]) (bt := bs) (m := [⟨9, 1, .slice A1412 t1368.2.1.f6.length c1413, t1368.2.1.f6.length, encs encS t1368.2.1.f6⟩]) (ot := os) [[(p0, .cells #[.pointer (some ⟨p0_0, 0, none⟩), .int .i64 t1368.2.1.f1, .int .i64 t1368.2.1.f2, .int .i64 t1368.2.1.f3, .int .i64 t1368.2.1.f4.f2, .string t1368.2.1.f5, .slice A1412 t1368.2.1.f6.length c1413, .int .i64 t1368.2.1.f7, .bool t1368.2.1.f8, .bool t1368.2.1.f9] 57 (0, 0))], U1417, F] [⟨9, 1, .slice A1412 t1368.2.1.f6.length c1413, t1368.2.1.f6.length, encs encS t1368.2.1.f6⟩] HX1419 [2, 0, 1] [] [0] KR KR (by decide) KR, ⟨hU0_0n, trivial⟩⟩
          · skip
            intro a W1425 ha hE_ he hf
            clear HW; obtain ⟨_, he_, ⟨As1422, ns1423, Us1424⟩, rfl, HW, hU0_0q, _⟩ := gotK (m := 14) (j := 13) (d := 91) (f := .ws (fun x_ => .int .i64 t1415.1) w (fun x_ => ((p0, .cells #[.pointer (some ⟨p0_0, 0, none⟩), .int .i64 t1368.2.1.f1, .int .i64 t1368.2.1.f2, .int .i64 t1368.2.1.f3, .int .i64 t1368.2.1.f4.f2, .string t1368.2.1.f5, .slice A1412 t1368.2.1.f6.length c1413, .int .i64 t1368.2.1.f7, .bool t1368.2.1.f8, .bool t1368.2.1.f9] 57 (0, 0)) :: (x_.2.2.getD 0 []) ++ (F ++ bs))) (fun x_ => (⟨9, 1, .slice A1412 t1368.2.1.f6.length c1413, t1368.2.1.f6.length, encs encS t1368.2.1.f6⟩ :: os)) (fun x_ => T_dev_Dev.At p0_0  t1415.2 (x_.2.2.getD 0 []) ∧ True)) hf KR KR KR; replace ha := ha.add he_; clear he_
            clear hU0_0; have hU0_0 : T_dev_Dev.At p0_0  t1415.2 (Us1424.getD 0 []) := hU0_0q; clear hU0_0q
            replace ha := ha.turn 91 (v := .int .i64 t1415.1) KR rfl
            replace HW : Wd w W1425 ((p0, .cells #[.pointer (some ⟨p0_0, 0, none⟩), .int .i64 t1368.2.1.f1, .int .i64 t1368.2.1.f2, .int .i64 t1368.2.1.f3, .int .i64 t1368.2.1.f4.f2, .string t1368.2.1.f5, .slice A1412 t1368.2.1.f6.length c1413, .int .i64 t1368.2.1.f7, .bool t1368.2.1.f8, .bool t1368.2.1.f9] 57 (0, 0)) :: (Us1424.getD 0 []) ++ (F ++ bs)) (⟨9, 1, .slice A1412 t1368.2.1.f6.length c1413, t1368.2.1.f6.length, encs encS t1368.2.1.f6⟩ :: os) := HW
            replace ha := ha.add (he 0 (.pointer (some ⟨p0, 0, none⟩)) KR KR)
            replace ha := ha.add (he 11 (.int .i64 (IntKind.wrap .i64 (a0.f4.f2 + 1))) KR KR)
            replace ha := ha.add (gotF (m := 14) (j := 0) (d := 78) (v := .pointer (some ⟨p0, 0, none⟩)) hf KR KR KR)
            clear he hf
            obtain ⟨U1426, hU1427, HW⟩ := T_journal_Journal.fold (x := (⟨(), t1368.2.1.f1, t1368.2.1.f2, t1368.2.1.f3, (⟨(), (), t1368.2.1.f4.f2⟩ : T_atomic_Int64), t1368.2.1.f5, t1368.2.1.f6, t1368.2.1.f7, t1368.2.1.f8, t1368.2.1.f9⟩ : T_journal_Journal)) (Wd.segs (ss := [[(p0, .cells #[.pointer (some ⟨p0_0, 0, none⟩), .int .i64 t1368.2.1.f1, .int .i64 t1368.2.1.f2, .int .i64 t1368.2.1.f3, .int .i64 t1368.2.1.f4.f2, .string t1368.2.1.f5, .slice A1412 t1368.2.1.f6.length c1413, .int .i64 t1368.2.1.f7, .bool t1368.2.1.f8, .bool t1368.2.1.f9] 57 (0, 0))], (Us1424.getD 0 []), F]) (bt := bs) (m := [⟨9, 1, .slice A1412 t1368.2.1.f6.length c1413, t1368.2.1.f6.length, encs encS t1368.2.1.f6⟩]) (ot := os) [[(p0, .cells #[.pointer (some ⟨p0_0, 0, none⟩), .int .i64 t1368.2.1.f1, .int .i64 t1368.2.1.f2, .int .i64 t1368.2.1.f3, .int .i64 t1368.2.1.f4.f2, .string t1368.2.1.f5, .slice A1412 t1368.2.1.f6.length c1413, .int .i64 t1368.2.1.f7, .bool t1368.2.1.f8, .bool t1368.2.1.f9] 57 (0, 0))], (Us1424.getD 0 []), F] [⟨9, 1, .slice A1412 t1368.2.1.f6.length c1413, t1368.2.1.f6.length, encs encS t1368.2.1.f6⟩] HW [0, 1, 2] [] [0] KR KR (by decide) KR)
            replace HW := Wd.segs (ss := [U1426, (Us1424.getD 0 []), F]) (bt := bs) (m := []) (ot := os) [U1426, (Us1424.getD 0 []), F] [] HW [0, 1, 2] [] [] KR KR (by decide) KR
            replace HW : Wd w W1425 (U1426 ++ ((Us1424.getD 0 []) ++ (F ++ bs))) (os) := HW
            obtain ⟨t1428, ht1429, h_⟩ := bind_some' h; clear h; have h := h_; clear h_
            refine stepc ha 92 KR KR (journal_Journal_failed.calls (⟨(), t1368.2.1.f1, t1368.2.1.f2, t1368.2.1.f3, (⟨(), (), t1368.2.1.f4.f2⟩ : T_atomic_Int64), t1368.2.1.f5, t1368.2.1.f6, t1368.2.1.f7, t1368.2.1.f8, t1368.2.1.f9⟩ : T_journal_Journal) t1415.2 t1415.1 p0 U1426 p0_0 (Us1424.getD 0 []) t1428 _ _ F bs (os) hU1427 hU0_0 (Wd.segs (ss := [U1426, (Us1424.getD 0 []), F]) (bt := bs) (m := []) (ot := os) [U1426, (Us1424.getD 0 []), F] [] HW [0, 1, 2] [] [] KR KR (by decide) KR) ht1429) ?_; clear ha a; rintro e W1432 ⟨U1430, U1431, rfl, hU1427n, hU0_0n, HX1433⟩
            refine ⟨_, rfl, ?_⟩; intro a ha; clear HW
            clear hU1427; have hU1427 := hU1427n; clear hU1427n
            clear hU0_0; have hU0_0 := hU0_0n; clear hU0_0n
            have HW : Wd w W1432 (U1430 ++ (U1431 ++ (F ++ bs))) (os) := Wd.segs (ss := [U1430, U1431, F]) (bt := bs) (m := []) (ot := os) [U1430, U1431, F] [] HX1433 [0, 1, 2] [] [] KR KR (by decide) KR; clear HX1433
            refine stepp ha 18 (.int .i64 t1428.1) KR KR ?_; clear ha a; intro a ha
            refine endl ?_
            refine thenN (hK1411 _ _ ?_); clear hK1411
            refine wp_seq_k (fun K1436 hK1437 => ?_)
            refine wp_region_lit ?_
            refine stepp ha 93 (.int .i64 t1428.1) KR KR ?_; clear ha a; intro a ha
            refine stepp ha 94 (.bool (t1428.1 != 0)) KR KR ?_; clear ha a; intro a ha
            refine endl ?_
            refine thenN (hK1437 _ _ ?_); clear hK1437
            by_cases hp1438 : t1428.1 = 0
            · skip
              replace h := ite_pos' h hp1438
              refine condF ha KR KR (t := (t1428.1 != 0)) (ineq_f hp1438) ?_
              refine wp_skip ?_
              refine thenN (hK1409 _ _ ?_); clear hK1409
              refine wp_seq_k (fun K1441 hK1442 => ?_)
              refine wp_region_lit ?_
              refine stepp ha 96 (.pointer (some ⟨p0, 0, none⟩)) KR KR ?_; clear ha a; intro a ha
              refine stepp ha 97 (.pointer (some ⟨p0, 0, none⟩)) KR KR ?_; clear ha a; intro a ha
              refine stepp ha 98 (.pointer (some ⟨p0, 4, none⟩)) KR KR ?_; clear ha a; intro a ha
              refine stepp ha 99 (.int .i64 (IntKind.wrap .i64 (a0.f4.f2 + 1))) KR KR ?_; clear ha a; intro a ha
              obtain ⟨A1443, c1444, HW⟩ := T_journal_Journal.unfold hU1427 (Wd.segs (ss := [U1430, U1431, F]) (bt := bs) (m := []) (ot := os) [U1430, U1431, F] [] HW [0, 1, 2] [] [] KR KR (by decide) KR)
              replace HW : Wd w W1432 ((p0, .cells #[.pointer (some ⟨p0_0, 0, none⟩), .int .i64 t1428.2.1.f1, .int .i64 t1428.2.1.f2, .int .i64 t1428.2.1.f3, .int .i64 t1428.2.1.f4.f2, .string t1428.2.1.f5, .slice A1443 t1428.2.1.f6.length c1444, .int .i64 t1428.2.1.f7, .bool t1428.2.1.f8, .bool t1428.2.1.f9] 57 (0, 0)) :: U1431 ++ (F ++ bs)) (⟨9, 1, .slice A1443 t1428.2.1.f6.length c1444, t1428.2.1.f6.length, encs encS t1428.2.1.f6⟩ :: os) := HW; clear hU1427
              refine stepc ha 100 KR KR (atom_store (u := .int .i64 t1428.2.1.f4.f2) (y := (IntKind.wrap .i64 (a0.f4.f2 + 1))) (HW.cellAt (i := 0) (b := p0) (C := #[.pointer (some ⟨p0_0, 0, none⟩), .int .i64 t1428.2.1.f1, .int .i64 t1428.2.1.f2, .int .i64 t1428.2.1.f3, .int .i64 t1428.2.1.f4.f2, .string t1428.2.1.f5, .slice A1443 t1428.2.1.f6.length c1444, .int .i64 t1428.2.1.f7, .bool t1428.2.1.f8, .bool t1428.2.1.f9]) (T := 57) KR 4 KR) (HW.notFrozen (i := 0) (b := p0) (C := #[.pointer (some ⟨p0_0, 0, none⟩), .int .i64 t1428.2.1.f1, .int .i64 t1428.2.1.f2, .int .i64 t1428.2.1.f3, .int .i64 t1428.2.1.f4.f2, .string t1428.2.1.f5, .slice A1443 t1428.2.1.f6.length c1444, .int .i64 t1428.2.1.f7, .bool t1428.2.1.f8, .bool t1428.2.1.f9]) (T := 57) KR 4)) ?_; clear ha a; rintro e W1446 ⟨rfl, hW1447⟩; refine ⟨_, rfl, ?_⟩; intro a ha
              replace HW : Wd w W1446 ((p0, .cells #[.pointer (some ⟨p0_0, 0, none⟩), .int .i64 t1428.2.1.f1, .int .i64 t1428.2.1.f2, .int .i64 t1428.2.1.f3, .int .i64 (IntKind.wrap .i64 (a0.f4.f2 + 1)), .string t1428.2.1.f5, .slice A1443 t1428.2.1.f6.length c1444, .int .i64 t1428.2.1.f7, .bool t1428.2.1.f8, .bool t1428.2.1.f9] 57 (0, 0)) :: U1431 ++ (F ++ bs)) (⟨9, 1, .slice A1443 t1428.2.1.f6.length c1444, t1428.2.1.f6.length, encs encS t1428.2.1.f6⟩ :: os) := by rw [hW1447]; exact HW.setAt (i := 0) (b := p0) (C := #[.pointer (some ⟨p0_0, 0, none⟩), .int .i64 t1428.2.1.f1, .int .i64 t1428.2.1.f2, .int .i64 t1428.2.1.f3, .int .i64 t1428.2.1.f4.f2, .string t1428.2.1.f5, .slice A1443 t1428.2.1.f6.length c1444, .int .i64 t1428.2.1.f7, .bool t1428.2.1.f8, .bool t1428.2.1.f9]) (T := 57) KR 4 (.int .i64 (IntKind.wrap .i64 (a0.f4.f2 + 1))) (C' := #[.pointer (some ⟨p0_0, 0, none⟩), .int .i64 t1428.2.1.f1, .int .i64 t1428.2.1.f2, .int .i64 t1428.2.1.f3, .int .i64 (IntKind.wrap .i64 (a0.f4.f2 + 1)), .string t1428.2.1.f5, .slice A1443 t1428.2.1.f6.length c1444, .int .i64 t1428.2.1.f7, .bool t1428.2.1.f8, .bool t1428.2.1.f9]) KR
              clear hW1447
              refine endl ?_
              refine thenN (hK1442 _ _ ?_); clear hK1442
              refine wp_seq_k (fun K1448 hK1449 => ?_)
              refine wp_region_lit ?_
              refine stepp ha 101 (.pointer (some ⟨p0, 0, none⟩)) KR KR ?_; clear ha a; intro a ha
              refine stepp ha 102 (.pointer (some ⟨p0, 0, none⟩)) KR KR ?_; clear ha a; intro a ha
              refine stepp ha 103 (.pointer (some ⟨p0, 8, none⟩)) KR KR ?_; clear ha a; intro a ha
              refine stepst ha HW 0 (b := p0) (C := #[.pointer (some ⟨p0_0, 0, none⟩), .int .i64 t1428.2.1.f1, .int .i64 t1428.2.1.f2, .int .i64 t1428.2.1.f3, .int .i64 (IntKind.wrap .i64 (a0.f4.f2 + 1)), .string t1428.2.1.f5, .slice A1443 t1428.2.1.f6.length c1444, .int .i64 t1428.2.1.f7, .bool t1428.2.1.f8, .bool t1428.2.1.f9]) (T := 57) KR 4 8 (.tmp 103) (.const (.bool true)) (.bool true) #[.pointer (some ⟨p0_0, 0, none⟩), .int .i64 t1428.2.1.f1, .int .i64 t1428.2.1.f2, .int .i64 t1428.2.1.f3, .int .i64 (IntKind.wrap .i64 (a0.f4.f2 + 1)), .string t1428.2.1.f5, .slice A1443 t1428.2.1.f6.length c1444, .int .i64 t1428.2.1.f7, .bool true, .bool t1428.2.1.f9] rfl KR KR KR KR KR KR KR ?_; clear ha HW a; intro a W1450 HW ha
              refine endl ?_
              refine thenN (hK1449 _ _ ?_); clear hK1449
              refine wp_seq_k (fun K1451 hK1452 => ?_)
              refine wp_region_lit ?_
              refine stepp ha 10 (.int .i64 0) KR KR ?_; clear ha a; intro a ha
              refine endl ?_
              refine thenN (hK1452 _ _ ?_); clear hK1452
              refine wp_ret ?_
              obtain ⟨U1453, hU1454, HW⟩ := T_journal_Journal.fold (x := (⟨(), t1428.2.1.f1, t1428.2.1.f2, t1428.2.1.f3, (⟨(), (), IntKind.wrap .i64 (a0.f4.f2 + 1)⟩ : T_atomic_Int64), t1428.2.1.f5, t1428.2.1.f6, t1428.2.1.f7, true, t1428.2.1.f9⟩ : T_journal_Journal)) (Wd.segs (ss := [[(p0, .cells #[.pointer (some ⟨p0_0, 0, none⟩), .int .i64 t1428.2.1.f1, .int .i64 t1428.2.1.f2, .int .i64 t1428.2.1.f3, .int .i64 (IntKind.wrap .i64 (a0.f4.f2 + 1)), .string t1428.2.1.f5, .slice A1443 t1428.2.1.f6.length c1444, .int .i64 t1428.2.1.f7, .bool true, .bool t1428.2.1.f9] 57 (0, 0))], U1431, F]) (bt := bs) (m := [⟨9, 1, .slice A1443 t1428.2.1.f6.length c1444, t1428.2.1.f6.length, encs encS t1428.2.1.f6⟩]) (ot := os) [[(p0, .cells #[.pointer (some ⟨p0_0, 0, none⟩), .int .i64 t1428.2.1.f1, .int .i64 t1428.2.1.f2, .int .i64 t1428.2.1.f3, .int .i64 (IntKind.wrap .i64 (a0.f4.f2 + 1)), .string t1428.2.1.f5, .slice A1443 t1428.2.1.f6.length c1444, .int .i64 t1428.2.1.f7, .bool true, .bool t1428.2.1.f9] 57 (0, 0))], U1431, F] [⟨9, 1, .slice A1443 t1428.2.1.f6.length c1444, t1428.2.1.f6.length, encs encS t1428.2.1.f6⟩] HW [0, 1, 2] [] [0] KR KR (by decide) KR)
              replace HW := Wd.segs (ss := [U1453, U1431, F]) (bt := bs) (m := []) (ot := os) [U1453, U1431, F] [] HW [0, 1, 2] [] [] KR KR (by decide) KR
              replace HW : Wd w W1450 (U1453 ++ (U1431 ++ (F ++ bs))) (os) := HW
              obtain rfl := Option.some.inj h
              exact finv ha _ _ rfl (.tmp (v := .int .i64 0) KR .nil) (.int .i64 0) rfl ⟨U1453, U1431, rfl, hU1454, hU0_0, (Wd.segs (ss := [U1453, U1431, F]) (bt := bs) (m := []) (ot := os) [U1453, U1431, F] [] HW [0, 1, 2] [] [] KR KR (by decide) KR)⟩
            · skip
              replace h := ite_neg' h hp1438
              refine condT ha KR KR (t := (t1428.1 != 0)) (ineq_t hp1438) ?_
              refine wp_seq_k (fun K1439 hK1440 => ?_)
              refine wp_region_lit ?_
              refine stepp ha 95 (.int .i64 t1428.1) KR KR ?_; clear ha a; intro a ha
              refine stepp ha 10 (.int .i64 t1428.1) KR KR ?_; clear ha a; intro a ha
              refine endl ?_
              refine thenN (hK1440 _ _ ?_); clear hK1440
              refine wp_ret ?_
              refine thenR ?_
              obtain rfl := Option.some.inj h
              exact finv ha _ _ rfl (.tmp (v := .int .i64 t1428.1) KR .nil) (.int .i64 t1428.1) rfl ⟨U1430, U1431, rfl, hU1427, hU0_0, (Wd.segs (ss := [U1430, U1431, F]) (bt := bs) (m := []) (ot := os) [U1430, U1431, F] [] HW [0, 1, 2] [] [] KR KR (by decide) KR)⟩
        · skip
          replace h := ite_neg' h hp1378
          refine condT ha KR KR (t := (t1368.1 != 0)) (ineq_t hp1378) ?_
          refine wp_seq_k (fun K1379 hK1380 => ?_)
          refine wp_region_lit ?_
          refine stepp ha 53 (.int .i64 t1368.1) KR KR ?_; clear ha a; intro a ha
          refine stepp ha 10 (.int .i64 t1368.1) KR KR ?_; clear ha a; intro a ha
          refine endl ?_
          refine thenN (hK1380 _ _ ?_); clear hK1380
          refine wp_ret ?_
          refine thenR ?_
          obtain rfl := Option.some.inj h
          exact finv ha _ _ rfl (.tmp (v := .int .i64 t1368.1) KR .nil) (.int .i64 t1368.1) rfl ⟨U1370, U1371, rfl, hU1350, hU0_0, (Wd.segs (ss := [U1370, U1371, F]) (bt := bs) (m := []) (ot := os) [U1370, U1371, F] [] HW [0, 1, 2] [] [] KR KR (by decide) KR)⟩
      · skip
        replace h := ite_neg' h hp1361
        refine condT ha KR KR (t := (t1351.1 != 0)) (ineq_t hp1361) ?_
        refine wp_seq_k (fun K1362 hK1363 => ?_)
        refine wp_region_lit ?_
        refine stepp ha 48 (.int .i64 t1351.1) KR KR ?_; clear ha a; intro a ha
        refine stepp ha 10 (.int .i64 t1351.1) KR KR ?_; clear ha a; intro a ha
        refine endl ?_
        refine thenN (hK1363 _ _ ?_); clear hK1363
        refine wp_ret ?_
        refine thenR ?_
        obtain rfl := Option.some.inj h
        exact finv ha _ _ rfl (.tmp (v := .int .i64 t1351.1) KR .nil) (.int .i64 t1351.1) rfl ⟨U1353, U1354, rfl, hU1350, hU0_0, (Wd.segs (ss := [U1353, U1354, F]) (bt := bs) (m := []) (ot := os) [U1353, U1354, F] [] HW [0, 1, 2] [] [] KR KR (by decide) KR)⟩
  · skip
    replace h := ite_neg' h hp1325
    refine condT ha KR KR (t := (t1317.2 != 0)) (ineq_t hp1325) ?_
    refine wp_seq_k (fun K1326 hK1327 => ?_)
    refine wp_region_lit ?_
    refine stepp ha 33 (.int .i64 t1317.2) KR KR ?_; clear ha a; intro a ha
    refine stepp ha 10 (.int .i64 t1317.2) KR KR ?_; clear ha a; intro a ha
    refine endl ?_
    refine thenN (hK1327 _ _ ?_); clear hK1327
    refine wp_ret ?_
    refine thenR ?_
    obtain ⟨U1328, hU1329, HW⟩ := T_journal_Journal.fold (x := (⟨(), a0.f1, a0.f2, a0.f3, (⟨(), (), a0.f4.f2⟩ : T_atomic_Int64), a0.f5, a0.f6, a0.f7, a0.f8, a0.f9⟩ : T_journal_Journal)) (Wd.segs (ss := [[(p0, .cells #[.pointer (some ⟨p0_0, 0, none⟩), .int .i64 a0.f1, .int .i64 a0.f2, .int .i64 a0.f3, .int .i64 a0.f4.f2, .string a0.f5, .slice A1312 a0.f6.length c1313, .int .i64 a0.f7, .bool a0.f8, .bool a0.f9] 57 (0, 0))], U0_0, F]) (bt := bs) (m := [⟨9, 1, .slice A1312 a0.f6.length c1313, a0.f6.length, encs encS a0.f6⟩]) (ot := os) [[(p0, .cells #[.pointer (some ⟨p0_0, 0, none⟩), .int .i64 a0.f1, .int .i64 a0.f2, .int .i64 a0.f3, .int .i64 a0.f4.f2, .string a0.f5, .slice A1312 a0.f6.length c1313, .int .i64 a0.f7, .bool a0.f8, .bool a0.f9] 57 (0, 0))], U0_0, F] [⟨9, 1, .slice A1312 a0.f6.length c1313, a0.f6.length, encs encS a0.f6⟩] HW [0, 1, 2] [] [0] KR KR (by decide) KR)
    replace HW := Wd.segs (ss := [U1328, U0_0, F]) (bt := bs) (m := []) (ot := os) [U1328, U0_0, F] [] HW [0, 1, 2] [] [] KR KR (by decide) KR
    replace HW : Wd w W1319 (U1328 ++ (U0_0 ++ (F ++ bs))) (os) := HW
    obtain rfl := Option.some.inj h
    exact finv ha _ _ rfl (.tmp (v := .int .i64 t1317.2) KR .nil) (.int .i64 t1317.2) rfl ⟨U1328, U0_0, rfl, hU1329, hU0_0, (Wd.segs (ss := [U1328, U0_0, F]) (bt := bs) (m := []) (ot := os) [U1328, U0_0, F] [] HW [0, 1, 2] [] [] KR KR (by decide) KR)⟩
def journal_Format.f (K : Nat) (a0 : T_dev_Dev) (a1 : Int) (a2 : Int) (a3 : ByteArray) : Option ((Option T_journal_Journal) × Int × T_dev_Dev) :=
  (journal_placed.f a0 a1 a2).bind fun t1484 => (optc t1484.1 (some ((none : Option T_journal_Journal), 1, t1484.2)) (fun x1495 => (if (a3.size : Int) > 65536 then (some ((none : Option T_journal_Journal), 2, t1484.2)) else ((frame_Sectors.f (a3.size : Int)).bind fun t1519 => (if t1519 > x1495.f2 then (some ((none : Option T_journal_Journal), 60, t1484.2)) else ((strings_Repeat.f (⟨#[0]⟩ : ByteArray) 1024).bind fun t1531 => ((dev_Dev_Write.f K t1484.2 a1 t1531).bind fun t1535 => (if t1535.1 = 0 then ((journal_Journal_flush.f K (⟨(), x1495.f1, x1495.f2, x1495.f3, (⟨(), (), x1495.f4.f2⟩ : T_atomic_Int64), x1495.f5, x1495.f6, x1495.f7, x1495.f8, x1495.f9⟩ : T_journal_Journal) t1535.2).bind fun t1553 => (if t1553.1 = 0 then ((journal_Journal_puts.f K t1553.2.1 t1553.2.2 0 0 a3 1).bind fun t1570 => (if t1570.1 = 0 then ((journal_Journal_flush.f K t1570.2.1 t1570.2.2).bind fun t1587 => (if t1587.1 = 0 then ((frame_Sectors.f (a3.size : Int)).bind fun t1602 => (some ((some (⟨(), t1587.2.1.f1, t1587.2.1.f2, t1587.2.1.f3, (⟨(), (), t1587.2.1.f4.f2⟩ : T_atomic_Int64), a3, t1587.2.1.f6, t1602, t1587.2.1.f8, t1587.2.1.f9⟩ : T_journal_Journal)), 0, t1587.2.2))) else (some ((none : Option T_journal_Journal), t1587.1, t1587.2.2)))) else (some ((none : Option T_journal_Journal), t1570.1, t1570.2.2)))) else (some ((none : Option T_journal_Journal), t1553.1, t1553.2.2)))) else (some ((none : Option T_journal_Journal), t1535.1, t1535.2))))))))))
set_option maxRecDepth 100000 in
set_option maxHeartbeats 4000000 in
theorem journal_Format.calls (K : Nat) (a0 : T_dev_Dev) (a1 : Int) (a2 : Int) (a3 : ByteArray) (p0 : Nat) (U0 : Blks)  (r : (Option T_journal_Journal) × Int × T_dev_Dev) (w w1 : World) (F bs : Blks) (os : List OwnA) (hG1 : CA w 1 0 (encs (encIK .u32) G_crc_steps).toArray) (hU0 : T_dev_Dev.At p0  a0 U0) (HW : Wd w w1 (U0 ++ (F ++ bs)) os) (h : journal_Format.f K a0 a1 a2 a3 = some r) :
    Calls Tryd.prog 9 #[.pointer (some ⟨p0, 0, none⟩), .int .i64 a1, .int .i64 a2, .string a3] w1 (fun e W' => ∃ p_0 : Value, ∃ U_0 : Blks, ∃ U0' : Blks, e = .returned (.tuple #[p_0, .int .i64 r.2.1]) ∧ OptAt (fun p_ x_ u_ => T_journal_Journal.At p_ p0 x_ u_) (r.1) p_0 U_0 ∧ T_dev_Dev.At p0  r.2.2 U0' ∧ Wd w W' (U_0 ++ (U0' ++ (F ++ bs))) (os)) := by
  refine sxstart (n := 69) (l := [(0, .pointer (some ⟨p0, 0, none⟩)), (1, .int .i64 a1), (2, .int .i64 a2), (3, .string a3)]) Tryd.func9 rfl rfl (Nat.le_of_ble_eq_true KR) (subsA_cons rfl (subsA_cons rfl (subsA_cons rfl (subsA_cons rfl (subsA_nil _))))) ?_
  intro a ha
  replace HW : Wd w w1 (U0 ++ (F ++ bs)) (os) := HW
  unfold journal_Format.f at h
  refine wp_seq_k (fun K1480 hK1481 => ?_)
  refine wp_region_lit ?_
  refine stepp ha 8 (.pointer none) KR KR ?_; clear ha a; intro a ha
  refine stepp ha 9 (.int .i64 0) KR KR ?_; clear ha a; intro a ha
  refine endl ?_
  refine thenN (hK1481 _ _ ?_); clear hK1481
  refine wp_seq_k (fun K1482 hK1483 => ?_)
  refine wp_region_lit ?_
  refine stepp ha 15 (.pointer (some ⟨p0, 0, none⟩)) KR KR ?_; clear ha a; intro a ha
  refine stepp ha 16 (.int .i64 a1) KR KR ?_; clear ha a; intro a ha
  refine stepp ha 17 (.int .i64 a2) KR KR ?_; clear ha a; intro a ha
  obtain ⟨t1484, ht1485, h_⟩ := bind_some' h; clear h; have h := h_; clear h_
  refine stepc ha 18 KR KR (journal_placed.calls a0 a1 a2 p0 U0 t1484 _ _ F bs (os) hU0 (Wd.segs (ss := [U0, F]) (bt := bs) (m := []) (ot := os) [U0, F] [] HW [0, 1] [] [] KR KR (by decide) KR) ht1485) ?_; clear ha a; rintro e W1490 ⟨b1486v, U1487, U1489, rfl, hO1494n, hU0n, HX1491⟩
  refine ⟨_, rfl, ?_⟩; intro a ha; clear HW
  clear hU0; have hU0 := hU0n; clear hU0n
  have hO1494 := hO1494n; clear hO1494n
  rcases e1496 : t1484.1 with _ | x1495
  · skip
    rw [e1496] at h hO1494; replace h := optc_n h
    obtain ⟨hO1494v, hO1494u⟩ := hO1494; subst hO1494v; subst hO1494u
    have HW : Wd w W1490 (U1489 ++ (F ++ bs)) (os) := Wd.segs (ss := [([] : Blks), U1489, F]) (bt := bs) (m := []) (ot := os) [U1489, F] [] HX1491 [1, 2] [0] [] KR KR (by decide) KR; clear HX1491
    refine stepp ha 10 (.pointer none) KR KR ?_; clear ha a; intro a ha
    refine endl ?_
    refine thenN (hK1483 _ _ ?_); clear hK1483
    refine wp_seq_k (fun K1499 hK1500 => ?_)
    refine wp_block ?_
    refine wp_seq_k (fun K1501 hK1502 => ?_)
    refine wp_region_lit ?_
    refine stepp ha 20 (.pointer none) KR KR ?_; clear ha a; intro a ha
    refine stepp ha 21 (.bool true) KR KR ?_; clear ha a; intro a ha
    refine stepp ha 19 (.bool true) KR KR ?_; clear ha a; intro a ha
    refine endl ?_
    refine thenN (hK1502 _ _ ?_); clear hK1502
    refine condT ha KR KR (t := true) (rfl) ?_
    refine wp_seq_k (fun K1503 hK1504 => ?_)
    refine wp_region_lit ?_
    refine stepp ha 8 (.pointer none) KR KR ?_; clear ha a; intro a ha
    refine stepp ha 9 (.int .i64 1) KR KR ?_; clear ha a; intro a ha
    refine endl ?_
    refine thenN (hK1504 _ _ ?_); clear hK1504
    refine wp_ret ?_
    refine blkR ?_
    refine thenR ?_
    obtain rfl := Option.some.inj h
    exact finv ha _ _ rfl (.tmp (v := .pointer none) KR (.tmp (v := .int .i64 1) KR .nil)) (.tuple #[.pointer none, .int .i64 1]) rfl ⟨.pointer none, [], U1489, rfl, ⟨rfl, rfl⟩, hU0, (Wd.segs (ss := [U1489, F]) (bt := bs) (m := []) (ot := os) [U1489, F] [] HW [0, 1] [] [] KR KR (by decide) KR)⟩
  · skip
    rw [e1496] at h hO1494; replace h := optc_s h
    obtain ⟨b1497, hO1494v, hU1498⟩ := hO1494; subst hO1494v
    have HW : Wd w W1490 (U1487 ++ (U1489 ++ (F ++ bs))) (os) := Wd.segs (ss := [U1487, U1489, F]) (bt := bs) (m := []) (ot := os) [U1487, U1489, F] [] HX1491 [0, 1, 2] [] [] KR KR (by decide) KR; clear HX1491
    refine stepp ha 10 (.pointer (some ⟨b1497, 0, none⟩)) KR KR ?_; clear ha a; intro a ha
    refine endl ?_
    refine thenN (hK1483 _ _ ?_); clear hK1483
    refine wp_seq_k (fun K1505 hK1506 => ?_)
    refine wp_block ?_
    refine wp_seq_k (fun K1507 hK1508 => ?_)
    refine wp_region_lit ?_
    refine stepp ha 20 (.pointer (some ⟨b1497, 0, none⟩)) KR KR ?_; clear ha a; intro a ha
    refine stepp ha 21 (.bool false) KR KR ?_; clear ha a; intro a ha
    refine stepp ha 19 (.bool false) KR KR ?_; clear ha a; intro a ha
    refine endl ?_
    refine thenN (hK1508 _ _ ?_); clear hK1508
    refine condF ha KR KR (t := false) (rfl) ?_
    refine wp_seq_k (fun K1509 hK1510 => ?_)
    refine wp_region_lit ?_
    refine stepp ha 23 (.string a3) KR KR ?_; clear ha a; intro a ha
    refine stepp ha 24 (.int .i64 (a3.size : Int)) KR KR ?_; clear ha a; intro a ha
    refine stepp ha 25 (.bool (decide ((a3.size : Int) > 65536))) KR KR ?_; clear ha a; intro a ha
    refine stepp ha 22 (.bool (decide ((a3.size : Int) > 65536))) KR KR ?_; clear ha a; intro a ha
    refine endl ?_
    refine thenN (hK1510 _ _ ?_); clear hK1510
    by_cases hp1511 : (a3.size : Int) > 65536
    · skip
      replace h := ite_pos' h hp1511
      refine condT ha KR KR (t := decide ((a3.size : Int) > 65536)) (decide_eq_true hp1511) ?_
      refine wp_seq_k (fun K1512 hK1513 => ?_)
      refine wp_region_lit ?_
      refine stepp ha 8 (.pointer none) KR KR ?_; clear ha a; intro a ha
      refine stepp ha 9 (.int .i64 2) KR KR ?_; clear ha a; intro a ha
      refine endl ?_
      refine thenN (hK1513 _ _ ?_); clear hK1513
      refine wp_ret ?_
      refine blkR ?_
      refine thenR ?_
      obtain rfl := Option.some.inj h
      exact finv ha _ _ rfl (.tmp (v := .pointer none) KR (.tmp (v := .int .i64 2) KR .nil)) (.tuple #[.pointer none, .int .i64 2]) rfl ⟨.pointer none, [], U1489, rfl, ⟨rfl, rfl⟩, hU0, (Wd.segs (ss := [U1487, U1489, F]) (bt := bs) (m := []) (ot := os) [U1489, F] [] HW [1, 2] [0] [] KR KR (by decide) KR)⟩
    · skip
      replace h := ite_neg' h hp1511
      refine condF ha KR KR (t := decide ((a3.size : Int) > 65536)) (decide_eq_false hp1511) ?_
      refine wp_seq_k (fun K1514 hK1515 => ?_)
      obtain ⟨A1516, c1517, HW⟩ := T_journal_Journal.unfold hU1498 (Wd.segs (ss := [U1487, U1489, F]) (bt := bs) (m := []) (ot := os) [U1487, U1489, F] [] HW [0, 1, 2] [] [] KR KR (by decide) KR)
      replace HW : Wd w W1490 ((b1497, .cells #[.pointer (some ⟨p0, 0, none⟩), .int .i64 x1495.f1, .int .i64 x1495.f2, .int .i64 x1495.f3, .int .i64 x1495.f4.f2, .string x1495.f5, .slice A1516 x1495.f6.length c1517, .int .i64 x1495.f7, .bool x1495.f8, .bool x1495.f9] 57 (0, 0)) :: U1489 ++ (F ++ bs)) (⟨9, 1, .slice A1516 x1495.f6.length c1517, x1495.f6.length, encs encS x1495.f6⟩ :: os) := HW; clear hU1498
      obtain ⟨t1519, ht1520, h_⟩ := bind_some' h; clear h; have h := h_; clear h_
      refine regionG 9 KR KR ha HW [.fix (.string a3), .fix (.int .i64 (a3.size : Int)), .fix (.int .i64 t1519), .fix (.pointer (some ⟨b1497, 0, none⟩)), .fix (.pointer (some ⟨b1497, 0, none⟩)), .fix (.pointer (some ⟨b1497, 2, none⟩)), .fix (.int .i64 x1495.f2), .fix (.bool (decide (t1519 > x1495.f2))), .fix (.bool (decide (t1519 > x1495.f2)))] ?_ ?_
      · skip
        refine ⟨?_, ?_, ?_, ?_, ?_, ?_, ?_, ?_, ?_, trivial⟩
        · skip
          intro a wr hn hd HW hs; have ha := hasNil hn hd
          have ha := ha.add (seeE hs 3 (.string a3) KR KR)
          refine yStep ha 27 KR ?_; intro l_ ha HK
          refine stepp ha 27 (.string a3) KR KR ?_; intro ax hax; exact HK _ _ _ hax rfl (Below.refl _ _)
        · skip
          intro a wr hn hd HW hs; have ha := hasNil hn hd
          have ha := ha.add (seeF hs 27 0 (.string a3) KR KR)
          refine yStep ha 28 KR ?_; intro l_ ha HK
          refine stepp ha 28 (.int .i64 (a3.size : Int)) KR KR ?_; intro ax hax; exact HK _ _ _ hax rfl (Below.refl _ _)
        · skip
          intro a wr hn hd HW hs; have ha := hasNil hn hd
          have ha := ha.add (seeF hs 28 1 (.int .i64 (a3.size : Int)) KR KR)
          refine yStep ha 29 KR ?_; intro l_ ha HK
          refine stepc ha 29 KR KR (frame_Sectors.calls (a3.size : Int) t1519 _ ht1520) ?_; rintro e W1521 ⟨rfl, HX1522⟩
          refine ⟨_, rfl, ?_⟩; intro ax hax; exact HK _ _ _ hax rfl HX1522.below
        · skip
          intro a wr hn hd HW hs; have ha := hasNil hn hd
          have ha := ha.add (seeE hs 10 (.pointer (some ⟨b1497, 0, none⟩)) KR KR)
          refine yStep ha 30 KR ?_; intro l_ ha HK
          refine stepp ha 30 (.pointer (some ⟨b1497, 0, none⟩)) KR KR ?_; intro ax hax; exact HK _ _ _ hax rfl (Below.refl _ _)
        · skip
          intro a wr hn hd HW hs; have ha := hasNil hn hd
          have ha := ha.add (seeF hs 30 3 (.pointer (some ⟨b1497, 0, none⟩)) KR KR)
          refine yStep ha 31 KR ?_; intro l_ ha HK
          refine stepp ha 31 (.pointer (some ⟨b1497, 0, none⟩)) KR KR ?_; intro ax hax; exact HK _ _ _ hax rfl (Below.refl _ _)
        · skip
          intro a wr hn hd HW hs; have ha := hasNil hn hd
          have ha := ha.add (seeF hs 31 4 (.pointer (some ⟨b1497, 0, none⟩)) KR KR)
          refine yStep ha 32 KR ?_; intro l_ ha HK
          refine stepp ha 32 (.pointer (some ⟨b1497, 2, none⟩)) KR KR ?_; intro ax hax; exact HK _ _ _ hax rfl (Below.refl _ _)
        · skip
          intro a wr hn hd HW hs; have ha := hasNil hn hd
          have ha := ha.add (seeF hs 32 5 (.pointer (some ⟨b1497, 2, none⟩)) KR KR)
          refine yStep ha 33 KR ?_; intro l_ ha HK
          refine stepl ha 33 (HW.ca (i := 0) (b := b1497) (C := #[.pointer (some ⟨p0, 0, none⟩), .int .i64 x1495.f1, .int .i64 x1495.f2, .int .i64 x1495.f3, .int .i64 x1495.f4.f2, .string x1495.f5, .slice A1516 x1495.f6.length c1517, .int .i64 x1495.f7, .bool x1495.f8, .bool x1495.f9]) (T := 57) (fr := (0, 0)) KR) 3 2 (.tmp 32) (.int .i64 x1495.f2) rfl KR KR KR ?_; intro ax hax; exact HK _ _ _ hax rfl (Below.refl _ _)
        · skip
          intro a wr hn hd HW hs; have ha := hasNil hn hd
          have ha := ha.add (seeF hs 29 2 (.int .i64 t1519) KR KR)
          have ha := ha.add (seeF hs 33 6 (.int .i64 x1495.f2) KR KR)
          refine yStep ha 34 KR ?_; intro l_ ha HK
          refine stepp ha 34 (.bool (decide (t1519 > x1495.f2))) KR KR ?_; intro ax hax; exact HK _ _ _ hax rfl (Below.refl _ _)
        · skip
          intro a wr hn hd HW hs; have ha := hasNil hn hd
          have ha := ha.add (seeF hs 34 7 (.bool (decide (t1519 > x1495.f2))) KR KR)
          refine yStep ha 26 KR ?_; intro l_ ha HK
          refine stepp ha 26 (.bool (decide (t1519 > x1495.f2))) KR KR ?_; intro ax hax; exact HK _ _ _ hax rfl (Below.refl _ _)
      · skip
        intro a W1523 ha HW he hf
        replace ha := ha.add (he 0 (.pointer (some ⟨p0, 0, none⟩)) KR KR)
        replace ha := ha.add (he 1 (.int .i64 a1) KR KR)
        replace ha := ha.add (he 3 (.string a3) KR KR)
        replace ha := ha.add (he 10 (.pointer (some ⟨b1497, 0, none⟩)) KR KR)
        replace ha := ha.add (gotF (m := 9) (j := 8) (d := 26) (v := .bool (decide (t1519 > x1495.f2))) hf KR KR KR)
        clear he hf
        refine endl ?_
        refine thenN (hK1515 _ _ ?_); clear hK1515
        by_cases hp1524 : t1519 > x1495.f2
        · skip
          replace h := ite_pos' h hp1524
          refine condT ha KR KR (t := decide (t1519 > x1495.f2)) (decide_eq_true hp1524) ?_
          refine wp_seq_k (fun K1525 hK1526 => ?_)
          refine wp_region_lit ?_
          refine stepp ha 8 (.pointer none) KR KR ?_; clear ha a; intro a ha
          refine stepp ha 9 (.int .i64 60) KR KR ?_; clear ha a; intro a ha
          refine endl ?_
          refine thenN (hK1526 _ _ ?_); clear hK1526
          refine wp_ret ?_
          refine blkR ?_
          refine thenR ?_
          obtain rfl := Option.some.inj h
          exact finv ha _ _ rfl (.tmp (v := .pointer none) KR (.tmp (v := .int .i64 60) KR .nil)) (.tuple #[.pointer none, .int .i64 60]) rfl ⟨.pointer none, [], U1489, rfl, ⟨rfl, rfl⟩, hU0, (Wd.segs (ss := [[(b1497, .cells #[.pointer (some ⟨p0, 0, none⟩), .int .i64 x1495.f1, .int .i64 x1495.f2, .int .i64 x1495.f3, .int .i64 x1495.f4.f2, .string x1495.f5, .slice A1516 x1495.f6.length c1517, .int .i64 x1495.f7, .bool x1495.f8, .bool x1495.f9] 57 (0, 0))], U1489, F]) (bt := bs) (m := [⟨9, 1, .slice A1516 x1495.f6.length c1517, x1495.f6.length, encs encS x1495.f6⟩]) (ot := os) [U1489, F] [] HW [1, 2] [0] [] KR KR (by decide) KR)⟩
        · skip
          replace h := ite_neg' h hp1524
          refine condF ha KR KR (t := decide (t1519 > x1495.f2)) (decide_eq_false hp1524) ?_
          refine wp_skip ?_
          refine blkN ?_
          refine thenN (hK1506 _ _ ?_); clear hK1506
          refine wp_seq_k (fun K1527 hK1528 => ?_)
          refine wp_seq_k (fun K1529 hK1530 => ?_)
          refine wp_region_lit ?_
          refine stepp ha 35 (.pointer (some ⟨p0, 0, none⟩)) KR KR ?_; clear ha a; intro a ha
          refine stepp ha 36 (.int .i64 a1) KR KR ?_; clear ha a; intro a ha
          obtain ⟨t1531, ht1532, h_⟩ := bind_some' h; clear h; have h := h_; clear h_
          refine stepc ha 37 KR KR (strings_Repeat.calls (⟨#[0]⟩ : ByteArray) 1024 t1531 _ ht1532) ?_; clear ha a; rintro e W1533 ⟨rfl, HX1534⟩
          refine ⟨_, rfl, ?_⟩; intro a ha; replace HW := HW.callw HX1534; clear HX1534
          obtain ⟨t1535, ht1536, h_⟩ := bind_some' h; clear h; have h := h_; clear h_
          refine stepc ha 38 KR KR (dev_Dev_Write.calls K t1484.2 a1 t1531 p0 U1489 t1535 _ _ F ([(b1497, .cells #[.pointer (some ⟨p0, 0, none⟩), .int .i64 x1495.f1, .int .i64 x1495.f2, .int .i64 x1495.f3, .int .i64 x1495.f4.f2, .string x1495.f5, .slice A1516 x1495.f6.length c1517, .int .i64 x1495.f7, .bool x1495.f8, .bool x1495.f9] 57 (0, 0))] ++ (bs)) (⟨9, 1, .slice A1516 x1495.f6.length c1517, x1495.f6.length, encs encS x1495.f6⟩ :: os) hU0 (Wd.segs (ss := [[(b1497, .cells #[.pointer (some ⟨p0, 0, none⟩), .int .i64 x1495.f1, .int .i64 x1495.f2, .int .i64 x1495.f3, .int .i64 x1495.f4.f2, .string x1495.f5, .slice A1516 x1495.f6.length c1517, .int .i64 x1495.f7, .bool x1495.f8, .bool x1495.f9] 57 (0, 0))], U1489, F]) (bt := bs) (m := [⟨9, 1, .slice A1516 x1495.f6.length c1517, x1495.f6.length, encs encS x1495.f6⟩]) (ot := os) [U1489, F, [(b1497, .cells #[.pointer (some ⟨p0, 0, none⟩), .int .i64 x1495.f1, .int .i64 x1495.f2, .int .i64 x1495.f3, .int .i64 x1495.f4.f2, .string x1495.f5, .slice A1516 x1495.f6.length c1517, .int .i64 x1495.f7, .bool x1495.f8, .bool x1495.f9] 57 (0, 0))]] [⟨9, 1, .slice A1516 x1495.f6.length c1517, x1495.f6.length, encs encS x1495.f6⟩] HW [1, 2, 0] [] [0] KR KR (by decide) KR) ht1536) ?_; clear ha a; rintro e W1538 ⟨U1537, rfl, hU0n, HX1539⟩
          refine ⟨_, rfl, ?_⟩; intro a ha; clear HW
          clear hU0; have hU0 := hU0n; clear hU0n
          have HW : Wd w W1538 ((b1497, .cells #[.pointer (some ⟨p0, 0, none⟩), .int .i64 x1495.f1, .int .i64 x1495.f2, .int .i64 x1495.f3, .int .i64 x1495.f4.f2, .string x1495.f5, .slice A1516 x1495.f6.length c1517, .int .i64 x1495.f7, .bool x1495.f8, .bool x1495.f9] 57 (0, 0)) :: U1537 ++ (F ++ bs)) (⟨9, 1, .slice A1516 x1495.f6.length c1517, x1495.f6.length, encs encS x1495.f6⟩ :: os) := Wd.segs (ss := [U1537, F, [(b1497, .cells #[.pointer (some ⟨p0, 0, none⟩), .int .i64 x1495.f1, .int .i64 x1495.f2, .int .i64 x1495.f3, .int .i64 x1495.f4.f2, .string x1495.f5, .slice A1516 x1495.f6.length c1517, .int .i64 x1495.f7, .bool x1495.f8, .bool x1495.f9] 57 (0, 0))]]) (bt := bs) (m := [⟨9, 1, .slice A1516 x1495.f6.length c1517, x1495.f6.length, encs encS x1495.f6⟩]) (ot := os) [[(b1497, .cells #[.pointer (some ⟨p0, 0, none⟩), .int .i64 x1495.f1, .int .i64 x1495.f2, .int .i64 x1495.f3, .int .i64 x1495.f4.f2, .string x1495.f5, .slice A1516 x1495.f6.length c1517, .int .i64 x1495.f7, .bool x1495.f8, .bool x1495.f9] 57 (0, 0))], U1537, F] [⟨9, 1, .slice A1516 x1495.f6.length c1517, x1495.f6.length, encs encS x1495.f6⟩] HX1539 [2, 0, 1] [] [0] KR KR (by decide) KR; clear HX1539
          refine stepp ha 11 (.int .i64 t1535.1) KR KR ?_; clear ha a; intro a ha
          refine endl ?_
          refine thenN (hK1530 _ _ ?_); clear hK1530
          refine wp_seq_k (fun K1542 hK1543 => ?_)
          refine wp_region_lit ?_
          refine stepp ha 39 (.int .i64 t1535.1) KR KR ?_; clear ha a; intro a ha
          refine stepp ha 40 (.bool (t1535.1 != 0)) KR KR ?_; clear ha a; intro a ha
          refine endl ?_
          refine thenN (hK1543 _ _ ?_); clear hK1543
          by_cases hp1544 : t1535.1 = 0
          · skip
            replace h := ite_pos' h hp1544
            refine condF ha KR KR (t := (t1535.1 != 0)) (ineq_f hp1544) ?_
            refine wp_skip ?_
            refine thenN (hK1528 _ _ ?_); clear hK1528
            refine wp_seq_k (fun K1547 hK1548 => ?_)
            refine wp_seq_k (fun K1549 hK1550 => ?_)
            refine wp_region_lit ?_
            refine stepp ha 42 (.pointer (some ⟨b1497, 0, none⟩)) KR KR ?_; clear ha a; intro a ha
            obtain ⟨U1551, hU1552, HW⟩ := T_journal_Journal.fold (x := (⟨(), x1495.f1, x1495.f2, x1495.f3, (⟨(), (), x1495.f4.f2⟩ : T_atomic_Int64), x1495.f5, x1495.f6, x1495.f7, x1495.f8, x1495.f9⟩ : T_journal_Journal)) (Wd.segs (ss := [[(b1497, .cells #[.pointer (some ⟨p0, 0, none⟩), .int .i64 x1495.f1, .int .i64 x1495.f2, .int .i64 x1495.f3, .int .i64 x1495.f4.f2, .string x1495.f5, .slice A1516 x1495.f6.length c1517, .int .i64 x1495.f7, .bool x1495.f8, .bool x1495.f9] 57 (0, 0))], U1537, F]) (bt := bs) (m := [⟨9, 1, .slice A1516 x1495.f6.length c1517, x1495.f6.length, encs encS x1495.f6⟩]) (ot := os) [[(b1497, .cells #[.pointer (some ⟨p0, 0, none⟩), .int .i64 x1495.f1, .int .i64 x1495.f2, .int .i64 x1495.f3, .int .i64 x1495.f4.f2, .string x1495.f5, .slice A1516 x1495.f6.length c1517, .int .i64 x1495.f7, .bool x1495.f8, .bool x1495.f9] 57 (0, 0))], U1537, F] [⟨9, 1, .slice A1516 x1495.f6.length c1517, x1495.f6.length, encs encS x1495.f6⟩] HW [0, 1, 2] [] [0] KR KR (by decide) KR)
            replace HW := Wd.segs (ss := [U1551, U1537, F]) (bt := bs) (m := []) (ot := os) [U1551, U1537, F] [] HW [0, 1, 2] [] [] KR KR (by decide) KR
            replace HW : Wd w W1538 (U1551 ++ (U1537 ++ (F ++ bs))) (os) := HW
            obtain ⟨t1553, ht1554, h_⟩ := bind_some' h; clear h; have h := h_; clear h_
            refine stepc ha 43 KR KR (journal_Journal_flush.calls K (⟨(), x1495.f1, x1495.f2, x1495.f3, (⟨(), (), x1495.f4.f2⟩ : T_atomic_Int64), x1495.f5, x1495.f6, x1495.f7, x1495.f8, x1495.f9⟩ : T_journal_Journal) t1535.2 b1497 U1551 p0 U1537 t1553 _ _ F bs (os) hU1552 hU0 (Wd.segs (ss := [U1551, U1537, F]) (bt := bs) (m := []) (ot := os) [U1551, U1537, F] [] HW [0, 1, 2] [] [] KR KR (by decide) KR) ht1554) ?_; clear ha a; rintro e W1557 ⟨U1555, U1556, rfl, hU1552n, hU0n, HX1558⟩
            refine ⟨_, rfl, ?_⟩; intro a ha; clear HW
            clear hU1552; have hU1552 := hU1552n; clear hU1552n
            clear hU0; have hU0 := hU0n; clear hU0n
            have HW : Wd w W1557 (U1555 ++ (U1556 ++ (F ++ bs))) (os) := Wd.segs (ss := [U1555, U1556, F]) (bt := bs) (m := []) (ot := os) [U1555, U1556, F] [] HX1558 [0, 1, 2] [] [] KR KR (by decide) KR; clear HX1558
            refine stepp ha 12 (.int .i64 t1553.1) KR KR ?_; clear ha a; intro a ha
            refine endl ?_
            refine thenN (hK1550 _ _ ?_); clear hK1550
            refine wp_seq_k (fun K1561 hK1562 => ?_)
            refine wp_region_lit ?_
            refine stepp ha 44 (.int .i64 t1553.1) KR KR ?_; clear ha a; intro a ha
            refine stepp ha 45 (.bool (t1553.1 != 0)) KR KR ?_; clear ha a; intro a ha
            refine endl ?_
            refine thenN (hK1562 _ _ ?_); clear hK1562
            by_cases hp1563 : t1553.1 = 0
            · skip
              replace h := ite_pos' h hp1563
              refine condF ha KR KR (t := (t1553.1 != 0)) (ineq_f hp1563) ?_
              refine wp_skip ?_
              refine thenN (hK1548 _ _ ?_); clear hK1548
              refine wp_seq_k (fun K1566 hK1567 => ?_)
              refine wp_seq_k (fun K1568 hK1569 => ?_)
              refine wp_region_lit ?_
              refine stepp ha 47 (.pointer (some ⟨b1497, 0, none⟩)) KR KR ?_; clear ha a; intro a ha
              refine stepp ha 48 (.string a3) KR KR ?_; clear ha a; intro a ha
              obtain ⟨t1570, ht1571, h_⟩ := bind_some' h; clear h; have h := h_; clear h_
              refine stepc ha 49 KR KR (journal_Journal_puts.calls K t1553.2.1 t1553.2.2 0 0 a3 1 b1497 U1555 p0 U1556 t1570 _ _ F bs (os) hG1 hU1552 hU0 (Wd.segs (ss := [U1555, U1556, F]) (bt := bs) (m := []) (ot := os) [U1555, U1556, F] [] HW [0, 1, 2] [] [] KR KR (by decide) KR) ht1571) ?_; clear ha a; rintro e W1574 ⟨U1572, U1573, rfl, hU1552n, hU0n, HX1575⟩
              refine ⟨_, rfl, ?_⟩; intro a ha; clear HW
              clear hU1552; have hU1552 := hU1552n; clear hU1552n
              clear hU0; have hU0 := hU0n; clear hU0n
              have HW : Wd w W1574 (U1572 ++ (U1573 ++ (F ++ bs))) (os) := Wd.segs (ss := [U1572, U1573, F]) (bt := bs) (m := []) (ot := os) [U1572, U1573, F] [] HX1575 [0, 1, 2] [] [] KR KR (by decide) KR; clear HX1575
              refine stepp ha 13 (.int .i64 t1570.1) KR KR ?_; clear ha a; intro a ha
              refine endl ?_
              refine thenN (hK1569 _ _ ?_); clear hK1569
              refine wp_seq_k (fun K1578 hK1579 => ?_)
              refine wp_region_lit ?_
              refine stepp ha 50 (.int .i64 t1570.1) KR KR ?_; clear ha a; intro a ha
              refine stepp ha 51 (.bool (t1570.1 != 0)) KR KR ?_; clear ha a; intro a ha
              refine endl ?_
              refine thenN (hK1579 _ _ ?_); clear hK1579
              by_cases hp1580 : t1570.1 = 0
              · skip
                replace h := ite_pos' h hp1580
                refine condF ha KR KR (t := (t1570.1 != 0)) (ineq_f hp1580) ?_
                refine wp_skip ?_
                refine thenN (hK1567 _ _ ?_); clear hK1567
                refine wp_seq_k (fun K1583 hK1584 => ?_)
                refine wp_seq_k (fun K1585 hK1586 => ?_)
                refine wp_region_lit ?_
                refine stepp ha 53 (.pointer (some ⟨b1497, 0, none⟩)) KR KR ?_; clear ha a; intro a ha
                obtain ⟨t1587, ht1588, h_⟩ := bind_some' h; clear h; have h := h_; clear h_
                refine stepc ha 54 KR KR (journal_Journal_flush.calls K t1570.2.1 t1570.2.2 b1497 U1572 p0 U1573 t1587 _ _ F bs (os) hU1552 hU0 (Wd.segs (ss := [U1572, U1573, F]) (bt := bs) (m := []) (ot := os) [U1572, U1573, F] [] HW [0, 1, 2] [] [] KR KR (by decide) KR) ht1588) ?_; clear ha a; rintro e W1591 ⟨U1589, U1590, rfl, hU1552n, hU0n, HX1592⟩
                refine ⟨_, rfl, ?_⟩; intro a ha; clear HW
                clear hU1552; have hU1552 := hU1552n; clear hU1552n
                clear hU0; have hU0 := hU0n; clear hU0n
                have HW : Wd w W1591 (U1589 ++ (U1590 ++ (F ++ bs))) (os) := Wd.segs (ss := [U1589, U1590, F]) (bt := bs) (m := []) (ot := os) [U1589, U1590, F] [] HX1592 [0, 1, 2] [] [] KR KR (by decide) KR; clear HX1592
                refine stepp ha 14 (.int .i64 t1587.1) KR KR ?_; clear ha a; intro a ha
                refine endl ?_
                refine thenN (hK1586 _ _ ?_); clear hK1586
                refine wp_seq_k (fun K1595 hK1596 => ?_)
                refine wp_region_lit ?_
                refine stepp ha 55 (.int .i64 t1587.1) KR KR ?_; clear ha a; intro a ha
                refine stepp ha 56 (.bool (t1587.1 != 0)) KR KR ?_; clear ha a; intro a ha
                refine endl ?_
                refine thenN (hK1596 _ _ ?_); clear hK1596
                by_cases hp1597 : t1587.1 = 0
                · skip
                  replace h := ite_pos' h hp1597
                  refine condF ha KR KR (t := (t1587.1 != 0)) (ineq_f hp1597) ?_
                  refine wp_skip ?_
                  refine thenN (hK1584 _ _ ?_); clear hK1584
                  refine wp_seq_k (fun K1600 hK1601 => ?_)
                  refine wp_region_lit ?_
                  refine stepp ha 58 (.pointer (some ⟨b1497, 0, none⟩)) KR KR ?_; clear ha a; intro a ha
                  refine stepp ha 59 (.pointer (some ⟨b1497, 0, none⟩)) KR KR ?_; clear ha a; intro a ha
                  refine stepp ha 60 (.string a3) KR KR ?_; clear ha a; intro a ha
                  refine stepp ha 61 (.string a3) KR KR ?_; clear ha a; intro a ha
                  refine stepp ha 62 (.int .i64 (a3.size : Int)) KR KR ?_; clear ha a; intro a ha
                  obtain ⟨t1602, ht1603, h_⟩ := bind_some' h; clear h; have h := h_; clear h_
                  refine stepc ha 63 KR KR (frame_Sectors.calls (a3.size : Int) t1602 _ ht1603) ?_; clear ha a; rintro e W1604 ⟨rfl, HX1605⟩
                  refine ⟨_, rfl, ?_⟩; intro a ha; replace HW := HW.callw HX1605; clear HX1605
                  refine stepp ha 64 (.pointer (some ⟨b1497, 0, none⟩)) KR KR ?_; clear ha a; intro a ha
                  refine stepp ha 65 (.pointer (some ⟨b1497, 5, none⟩)) KR KR ?_; clear ha a; intro a ha
                  obtain ⟨A1606, c1607, HW⟩ := T_journal_Journal.unfold hU1552 (Wd.segs (ss := [U1589, U1590, F]) (bt := bs) (m := []) (ot := os) [U1589, U1590, F] [] HW [0, 1, 2] [] [] KR KR (by decide) KR)
                  replace HW : Wd w W1604 ((b1497, .cells #[.pointer (some ⟨p0, 0, none⟩), .int .i64 t1587.2.1.f1, .int .i64 t1587.2.1.f2, .int .i64 t1587.2.1.f3, .int .i64 t1587.2.1.f4.f2, .string t1587.2.1.f5, .slice A1606 t1587.2.1.f6.length c1607, .int .i64 t1587.2.1.f7, .bool t1587.2.1.f8, .bool t1587.2.1.f9] 57 (0, 0)) :: U1590 ++ (F ++ bs)) (⟨9, 1, .slice A1606 t1587.2.1.f6.length c1607, t1587.2.1.f6.length, encs encS t1587.2.1.f6⟩ :: os) := HW; clear hU1552
                  refine stepst ha HW 0 (b := b1497) (C := #[.pointer (some ⟨p0, 0, none⟩), .int .i64 t1587.2.1.f1, .int .i64 t1587.2.1.f2, .int .i64 t1587.2.1.f3, .int .i64 t1587.2.1.f4.f2, .string t1587.2.1.f5, .slice A1606 t1587.2.1.f6.length c1607, .int .i64 t1587.2.1.f7, .bool t1587.2.1.f8, .bool t1587.2.1.f9]) (T := 57) KR 9 5 (.tmp 65) (.tmp 60) (.string a3) #[.pointer (some ⟨p0, 0, none⟩), .int .i64 t1587.2.1.f1, .int .i64 t1587.2.1.f2, .int .i64 t1587.2.1.f3, .int .i64 t1587.2.1.f4.f2, .string a3, .slice A1606 t1587.2.1.f6.length c1607, .int .i64 t1587.2.1.f7, .bool t1587.2.1.f8, .bool t1587.2.1.f9] rfl KR KR KR KR KR KR KR ?_; clear ha HW a; intro a W1609 HW ha
                  refine stepp ha 66 (.pointer (some ⟨b1497, 0, none⟩)) KR KR ?_; clear ha a; intro a ha
                  refine stepp ha 67 (.pointer (some ⟨b1497, 7, none⟩)) KR KR ?_; clear ha a; intro a ha
                  refine stepst ha HW 0 (b := b1497) (C := #[.pointer (some ⟨p0, 0, none⟩), .int .i64 t1587.2.1.f1, .int .i64 t1587.2.1.f2, .int .i64 t1587.2.1.f3, .int .i64 t1587.2.1.f4.f2, .string a3, .slice A1606 t1587.2.1.f6.length c1607, .int .i64 t1587.2.1.f7, .bool t1587.2.1.f8, .bool t1587.2.1.f9]) (T := 57) KR 3 7 (.tmp 67) (.tmp 63) (.int .i64 t1602) #[.pointer (some ⟨p0, 0, none⟩), .int .i64 t1587.2.1.f1, .int .i64 t1587.2.1.f2, .int .i64 t1587.2.1.f3, .int .i64 t1587.2.1.f4.f2, .string a3, .slice A1606 t1587.2.1.f6.length c1607, .int .i64 t1602, .bool t1587.2.1.f8, .bool t1587.2.1.f9] rfl KR KR KR KR KR KR KR ?_; clear ha HW a; intro a W1610 HW ha
                  refine endl ?_
                  refine thenN (hK1601 _ _ ?_); clear hK1601
                  refine wp_seq_k (fun K1611 hK1612 => ?_)
                  refine wp_region_lit ?_
                  refine stepp ha 68 (.pointer (some ⟨b1497, 0, none⟩)) KR KR ?_; clear ha a; intro a ha
                  refine stepp ha 8 (.pointer (some ⟨b1497, 0, none⟩)) KR KR ?_; clear ha a; intro a ha
                  refine stepp ha 9 (.int .i64 0) KR KR ?_; clear ha a; intro a ha
                  refine endl ?_
                  refine thenN (hK1612 _ _ ?_); clear hK1612
                  refine wp_ret ?_
                  obtain ⟨U1613, hU1614, HW⟩ := T_journal_Journal.fold (x := (⟨(), t1587.2.1.f1, t1587.2.1.f2, t1587.2.1.f3, (⟨(), (), t1587.2.1.f4.f2⟩ : T_atomic_Int64), a3, t1587.2.1.f6, t1602, t1587.2.1.f8, t1587.2.1.f9⟩ : T_journal_Journal)) (Wd.segs (ss := [[(b1497, .cells #[.pointer (some ⟨p0, 0, none⟩), .int .i64 t1587.2.1.f1, .int .i64 t1587.2.1.f2, .int .i64 t1587.2.1.f3, .int .i64 t1587.2.1.f4.f2, .string a3, .slice A1606 t1587.2.1.f6.length c1607, .int .i64 t1602, .bool t1587.2.1.f8, .bool t1587.2.1.f9] 57 (0, 0))], U1590, F]) (bt := bs) (m := [⟨9, 1, .slice A1606 t1587.2.1.f6.length c1607, t1587.2.1.f6.length, encs encS t1587.2.1.f6⟩]) (ot := os) [[(b1497, .cells #[.pointer (some ⟨p0, 0, none⟩), .int .i64 t1587.2.1.f1, .int .i64 t1587.2.1.f2, .int .i64 t1587.2.1.f3, .int .i64 t1587.2.1.f4.f2, .string a3, .slice A1606 t1587.2.1.f6.length c1607, .int .i64 t1602, .bool t1587.2.1.f8, .bool t1587.2.1.f9] 57 (0, 0))], U1590, F] [⟨9, 1, .slice A1606 t1587.2.1.f6.length c1607, t1587.2.1.f6.length, encs encS t1587.2.1.f6⟩] HW [0, 1, 2] [] [0] KR KR (by decide) KR)
                  replace HW := Wd.segs (ss := [U1613, U1590, F]) (bt := bs) (m := []) (ot := os) [U1613, U1590, F] [] HW [0, 1, 2] [] [] KR KR (by decide) KR
                  replace HW : Wd w W1610 (U1613 ++ (U1590 ++ (F ++ bs))) (os) := HW
                  obtain rfl := Option.some.inj h
                  exact finv ha _ _ rfl (.tmp (v := .pointer (some ⟨b1497, 0, none⟩)) KR (.tmp (v := .int .i64 0) KR .nil)) (.tuple #[.pointer (some ⟨b1497, 0, none⟩), .int .i64 0]) rfl ⟨.pointer (some ⟨b1497, 0, none⟩), U1613, U1590, rfl, ⟨b1497, rfl, hU1614⟩, hU0, (Wd.segs (ss := [U1613, U1590, F]) (bt := bs) (m := []) (ot := os) [U1613, U1590, F] [] HW [0, 1, 2] [] [] KR KR (by decide) KR)⟩
                · skip
                  replace h := ite_neg' h hp1597
                  refine condT ha KR KR (t := (t1587.1 != 0)) (ineq_t hp1597) ?_
                  refine wp_seq_k (fun K1598 hK1599 => ?_)
                  refine wp_region_lit ?_
                  refine stepp ha 57 (.int .i64 t1587.1) KR KR ?_; clear ha a; intro a ha
                  refine stepp ha 8 (.pointer none) KR KR ?_; clear ha a; intro a ha
                  refine stepp ha 9 (.int .i64 t1587.1) KR KR ?_; clear ha a; intro a ha
                  refine endl ?_
                  refine thenN (hK1599 _ _ ?_); clear hK1599
                  refine wp_ret ?_
                  refine thenR ?_
                  obtain rfl := Option.some.inj h
                  exact finv ha _ _ rfl (.tmp (v := .pointer none) KR (.tmp (v := .int .i64 t1587.1) KR .nil)) (.tuple #[.pointer none, .int .i64 t1587.1]) rfl ⟨.pointer none, [], U1590, rfl, ⟨rfl, rfl⟩, hU0, (Wd.segs (ss := [U1589, U1590, F]) (bt := bs) (m := []) (ot := os) [U1590, F] [] HW [1, 2] [0] [] KR KR (by decide) KR)⟩
              · skip
                replace h := ite_neg' h hp1580
                refine condT ha KR KR (t := (t1570.1 != 0)) (ineq_t hp1580) ?_
                refine wp_seq_k (fun K1581 hK1582 => ?_)
                refine wp_region_lit ?_
                refine stepp ha 52 (.int .i64 t1570.1) KR KR ?_; clear ha a; intro a ha
                refine stepp ha 8 (.pointer none) KR KR ?_; clear ha a; intro a ha
                refine stepp ha 9 (.int .i64 t1570.1) KR KR ?_; clear ha a; intro a ha
                refine endl ?_
                refine thenN (hK1582 _ _ ?_); clear hK1582
                refine wp_ret ?_
                refine thenR ?_
                obtain rfl := Option.some.inj h
                exact finv ha _ _ rfl (.tmp (v := .pointer none) KR (.tmp (v := .int .i64 t1570.1) KR .nil)) (.tuple #[.pointer none, .int .i64 t1570.1]) rfl ⟨.pointer none, [], U1573, rfl, ⟨rfl, rfl⟩, hU0, (Wd.segs (ss := [U1572, U1573, F]) (bt := bs) (m := []) (ot := os) [U1573, F] [] HW [1, 2] [0] [] KR KR (by decide) KR)⟩
            · skip
              replace h := ite_neg' h hp1563
              refine condT ha KR KR (t := (t1553.1 != 0)) (ineq_t hp1563) ?_
              refine wp_seq_k (fun K1564 hK1565 => ?_)
              refine wp_region_lit ?_
              refine stepp ha 46 (.int .i64 t1553.1) KR KR ?_; clear ha a; intro a ha
              refine stepp ha 8 (.pointer none) KR KR ?_; clear ha a; intro a ha
              refine stepp ha 9 (.int .i64 t1553.1) KR KR ?_; clear ha a; intro a ha
              refine endl ?_
              refine thenN (hK1565 _ _ ?_); clear hK1565
              refine wp_ret ?_
              refine thenR ?_
              obtain rfl := Option.some.inj h
              exact finv ha _ _ rfl (.tmp (v := .pointer none) KR (.tmp (v := .int .i64 t1553.1) KR .nil)) (.tuple #[.pointer none, .int .i64 t1553.1]) rfl ⟨.pointer none, [], U1556, rfl, ⟨rfl, rfl⟩, hU0, (Wd.segs (ss := [U1555, U1556, F]) (bt := bs) (m := []) (ot := os) [U1556, F] [] HW [1, 2] [0] [] KR KR (by decide) KR)⟩
          · skip
            replace h := ite_neg' h hp1544
            refine condT ha KR KR (t := (t1535.1 != 0)) (ineq_t hp1544) ?_
            refine wp_seq_k (fun K1545 hK1546 => ?_)
            refine wp_region_lit ?_
            refine stepp ha 41 (.int .i64 t1535.1) KR KR ?_; clear ha a; intro a ha
            refine stepp ha 8 (.pointer none) KR KR ?_; clear ha a; intro a ha
            refine stepp ha 9 (.int .i64 t1535.1) KR KR ?_; clear ha a; intro a ha
            refine endl ?_
            refine thenN (hK1546 _ _ ?_); clear hK1546
            refine wp_ret ?_
            refine thenR ?_
            obtain rfl := Option.some.inj h
            exact finv ha _ _ rfl (.tmp (v := .pointer none) KR (.tmp (v := .int .i64 t1535.1) KR .nil)) (.tuple #[.pointer none, .int .i64 t1535.1]) rfl ⟨.pointer none, [], U1537, rfl, ⟨rfl, rfl⟩, hU0, (Wd.segs (ss := [[(b1497, .cells #[.pointer (some ⟨p0, 0, none⟩), .int .i64 x1495.f1, .int .i64 x1495.f2, .int .i64 x1495.f3, .int .i64 x1495.f4.f2, .string x1495.f5, .slice A1516 x1495.f6.length c1517, .int .i64 x1495.f7, .bool x1495.f8, .bool x1495.f9] 57 (0, 0))], U1537, F]) (bt := bs) (m := [⟨9, 1, .slice A1516 x1495.f6.length c1517, x1495.f6.length, encs encS x1495.f6⟩]) (ot := os) [U1537, F] [] HW [1, 2] [0] [] KR KR (by decide) KR)⟩
def journal_Journal_Room.f (a0 : T_journal_Journal) : Option Int :=
  some (IntKind.wrap .i64 (a0.f2 - a0.f7))
set_option maxRecDepth 100000 in
set_option maxHeartbeats 4000000 in
theorem journal_Journal_Room.calls (a0 : T_journal_Journal) (A0_0 : Option Addr) (c0_0 : Nat) (cb0 : Nat) (cb1 : Nat) (r : Int) (w : World) (hc0 : CA w cb0 0 #[.pointer (some ⟨cb1, 0, none⟩), .int .i64 a0.f1, .int .i64 a0.f2, .int .i64 a0.f3, .int .i64 a0.f4.f2, .string a0.f5, .slice A0_0 a0.f6.length c0_0, .int .i64 a0.f7, .bool a0.f8, .bool a0.f9]) (hr0_0 : Rd 1 w (.slice A0_0 a0.f6.length c0_0) a0.f6.length (encs encS a0.f6)) (h : journal_Journal_Room.f a0 = some r) :
    Calls Tryd.prog 19 #[.pointer (some ⟨cb0, 0, none⟩)] w (fun e W' => e = .returned (.int .i64 r) ∧ Wd w W' [] [] ) := by
  refine sxstart (n := 14) (l := [(0, .pointer (some ⟨cb0, 0, none⟩))]) Tryd.func19 rfl rfl (Nat.le_of_ble_eq_true KR) (subsA_cons rfl (subsA_nil _)) ?_
  intro a ha
  have HW := Wd.refl w
  unfold journal_Journal_Room.f at h
  refine wp_seq_k (fun K1669 hK1670 => ?_)
  refine wp_region_lit ?_
  refine stepp ha 2 (.int .i64 0) KR KR ?_; clear ha a; intro a ha
  refine endl ?_
  refine thenN (hK1670 _ _ ?_); clear hK1670
  refine wp_seq_k (fun K1671 hK1672 => ?_)
  refine wp_seq_k (fun K1673 hK1674 => ?_)
  refine wp_region_lit ?_
  refine stepp ha 3 (.pointer (some ⟨cb0, 0, none⟩)) KR KR ?_; clear ha a; intro a ha
  refine stepp ha 4 (.bool false) KR KR ?_; clear ha a; intro a ha
  refine endl ?_
  refine thenN (hK1674 _ _ ?_); clear hK1674
  refine condF ha KR KR (t := false) (rfl) ?_
  refine wp_skip ?_
  refine thenN (hK1672 _ _ ?_); clear hK1672
  refine wp_seq_k (fun K1675 hK1676 => ?_)
  refine regionG 9 KR KR ha HW [.fix (.pointer (some ⟨cb0, 0, none⟩)), .fix (.pointer (some ⟨cb0, 0, none⟩)), .fix (.pointer (some ⟨cb0, 2, none⟩)), .fix (.int .i64 a0.f2), .fix (.pointer (some ⟨cb0, 0, none⟩)), .fix (.pointer (some ⟨cb0, 0, none⟩)), .fix (.pointer (some ⟨cb0, 7, none⟩)), .fix (.int .i64 a0.f7), .fix (.int .i64 (IntKind.wrap .i64 (a0.f2 - a0.f7)))] ?_ ?_
  · skip
    refine ⟨?_, ?_, ?_, ?_, ?_, ?_, ?_, ?_, ?_, trivial⟩
    · skip
      intro a wr hn hd HW hs; have ha := hasNil hn hd
      have ha := ha.add (seeE hs 0 (.pointer (some ⟨cb0, 0, none⟩)) KR KR)
      refine yStep ha 5 KR ?_; intro l_ ha HK
      refine stepp ha 5 (.pointer (some ⟨cb0, 0, none⟩)) KR KR ?_; intro ax hax; exact HK _ _ _ hax rfl (Below.refl _ _)
    · skip
      intro a wr hn hd HW hs; have ha := hasNil hn hd
      have ha := ha.add (seeF hs 5 0 (.pointer (some ⟨cb0, 0, none⟩)) KR KR)
      refine yStep ha 6 KR ?_; intro l_ ha HK
      refine stepp ha 6 (.pointer (some ⟨cb0, 0, none⟩)) KR KR ?_; intro ax hax; exact HK _ _ _ hax rfl (Below.refl _ _)
    · skip
      intro a wr hn hd HW hs; have ha := hasNil hn hd
      have ha := ha.add (seeF hs 6 1 (.pointer (some ⟨cb0, 0, none⟩)) KR KR)
      refine yStep ha 7 KR ?_; intro l_ ha HK
      refine stepp ha 7 (.pointer (some ⟨cb0, 2, none⟩)) KR KR ?_; intro ax hax; exact HK _ _ _ hax rfl (Below.refl _ _)
    · skip
      intro a wr hn hd HW hs; have ha := hasNil hn hd
      have ha := ha.add (seeF hs 7 2 (.pointer (some ⟨cb0, 2, none⟩)) KR KR)
      refine yStep ha 8 KR ?_; intro l_ ha HK
      refine stepl ha 8 (HW.ca0 hc0) 3 2 (.tmp 7) (.int .i64 a0.f2) rfl KR KR KR ?_; intro ax hax; exact HK _ _ _ hax rfl (Below.refl _ _)
    · skip
      intro a wr hn hd HW hs; have ha := hasNil hn hd
      have ha := ha.add (seeE hs 0 (.pointer (some ⟨cb0, 0, none⟩)) KR KR)
      refine yStep ha 9 KR ?_; intro l_ ha HK
      refine stepp ha 9 (.pointer (some ⟨cb0, 0, none⟩)) KR KR ?_; intro ax hax; exact HK _ _ _ hax rfl (Below.refl _ _)
    · skip
      intro a wr hn hd HW hs; have ha := hasNil hn hd
      have ha := ha.add (seeF hs 9 4 (.pointer (some ⟨cb0, 0, none⟩)) KR KR)
      refine yStep ha 10 KR ?_; intro l_ ha HK
      refine stepp ha 10 (.pointer (some ⟨cb0, 0, none⟩)) KR KR ?_; intro ax hax; exact HK _ _ _ hax rfl (Below.refl _ _)
    · skip
      intro a wr hn hd HW hs; have ha := hasNil hn hd
      have ha := ha.add (seeF hs 10 5 (.pointer (some ⟨cb0, 0, none⟩)) KR KR)
      refine yStep ha 11 KR ?_; intro l_ ha HK
      refine stepp ha 11 (.pointer (some ⟨cb0, 7, none⟩)) KR KR ?_; intro ax hax; exact HK _ _ _ hax rfl (Below.refl _ _)
    · skip
      intro a wr hn hd HW hs; have ha := hasNil hn hd
      have ha := ha.add (seeF hs 11 6 (.pointer (some ⟨cb0, 7, none⟩)) KR KR)
      refine yStep ha 12 KR ?_; intro l_ ha HK
      refine stepl ha 12 (HW.ca0 hc0) 3 7 (.tmp 11) (.int .i64 a0.f7) rfl KR KR KR ?_; intro ax hax; exact HK _ _ _ hax rfl (Below.refl _ _)
    · skip
      intro a wr hn hd HW hs; have ha := hasNil hn hd
      have ha := ha.add (seeF hs 8 3 (.int .i64 a0.f2) KR KR)
      have ha := ha.add (seeF hs 12 7 (.int .i64 a0.f7) KR KR)
      refine yStep ha 13 KR ?_; intro l_ ha HK
      refine stepp ha 13 (.int .i64 (IntKind.wrap .i64 (a0.f2 - a0.f7))) KR KR ?_; intro ax hax; exact HK _ _ _ hax rfl (Below.refl _ _)
  · skip
    intro a W1677 ha HW he hf
    replace ha := ha.add (gotF (m := 9) (j := 8) (d := 13) (v := .int .i64 (IntKind.wrap .i64 (a0.f2 - a0.f7))) hf KR KR KR)
    clear he hf
    refine stepp ha 2 (.int .i64 (IntKind.wrap .i64 (a0.f2 - a0.f7))) KR KR ?_; clear ha a; intro a ha
    refine endl ?_
    refine thenN (hK1676 _ _ ?_); clear hK1676
    refine wp_ret ?_
    obtain rfl := Option.some.inj h
    exact finv ha _ _ rfl (.tmp (v := .int .i64 (IntKind.wrap .i64 (a0.f2 - a0.f7))) KR .nil) (.int .i64 (IntKind.wrap .i64 (a0.f2 - a0.f7))) rfl ⟨rfl, HW.pick [] [] (by decide) (by decide) rfl KR⟩
end Go.Proofs.YtokdiacjcbolfaaDoor.F
namespace Go.Proofs.YtokdiacjcbolfaaDoor.F
open Go Go.RowKit Go.Proofs.YtokdiacjcbolfaaDoor.X
set_option linter.unusedVariables false
set_option linter.unusedSimpArgs false
def journal_Journal_Append.f (K : Nat) (a0 : T_journal_Journal) (a0_0 : T_dev_Dev) (a1 : ByteArray) : Option (Int × T_journal_Journal × T_dev_Dev) :=
  (frame_Sectors.f (a1.size : Int)).bind fun t1718 => (if a0.f9 = true then (some (41, (⟨(), a0.f1, a0.f2, a0.f3, (⟨(), (), a0.f4.f2⟩ : T_atomic_Int64), a0.f5, a0.f6, a0.f7, a0.f8, a0.f9⟩ : T_journal_Journal), a0_0)) else (if (a1.size : Int) > 65536 then (some (2, (⟨(), a0.f1, a0.f2, a0.f3, (⟨(), (), a0.f4.f2⟩ : T_atomic_Int64), a0.f5, a0.f6, a0.f7, a0.f8, a0.f9⟩ : T_journal_Journal), a0_0)) else ((journal_Journal_Room.f (⟨(), a0.f1, a0.f2, a0.f3, (⟨(), (), a0.f4.f2⟩ : T_atomic_Int64), a0.f5, a0.f6, a0.f7, a0.f8, a0.f9⟩ : T_journal_Journal)).bind fun t1745 => (if t1718 > t1745 then (some (60, (⟨(), a0.f1, a0.f2, a0.f3, (⟨(), (), a0.f4.f2⟩ : T_atomic_Int64), a0.f5, a0.f6, a0.f7, a0.f8, a0.f9⟩ : T_journal_Journal), a0_0)) else ((journal_Journal_puts.f K (⟨(), a0.f1, a0.f2, a0.f3, (⟨(), (), a0.f4.f2⟩ : T_atomic_Int64), a0.f5, a0.f6, a0.f7, a0.f8, a0.f9⟩ : T_journal_Journal) a0_0 a0.f3 a0.f7 a1 (IntKind.wrap .i64 ((a0.f6.length : Int) + 2))).bind fun t1761 => (if t1761.1 = 0 then (asrt (t1761.2.1.f6.length + ([a1] : List ByteArray).length ≤ 8796093022208) (some (0, (⟨(), t1761.2.1.f1, t1761.2.1.f2, t1761.2.1.f3, (⟨(), (), t1761.2.1.f4.f2⟩ : T_atomic_Int64), t1761.2.1.f5, t1761.2.1.f6 ++ ([a1] : List ByteArray), IntKind.wrap .i64 (t1761.2.1.f7 + t1718), t1761.2.1.f8, t1761.2.1.f9⟩ : T_journal_Journal), t1761.2.2))) else (some (t1761.1, t1761.2.1, t1761.2.2))))))))
set_option maxRecDepth 100000 in
set_option maxHeartbeats 4000000 in
theorem journal_Journal_Append.calls (K : Nat) (a0 : T_journal_Journal) (a0_0 : T_dev_Dev) (a1 : ByteArray) (p0 : Nat) (U0 : Blks) (p0_0 : Nat) (U0_0 : Blks)  (r : Int × T_journal_Journal × T_dev_Dev) (w w1 : World) (F bs : Blks) (os : List OwnA) (hG1 : CA w 1 0 (encs (encIK .u32) G_crc_steps).toArray) (hU0 : T_journal_Journal.At p0 p0_0 a0 U0) (hU0_0 : T_dev_Dev.At p0_0  a0_0 U0_0) (HW : Wd w w1 (U0 ++ (U0_0 ++ (F ++ bs))) os) (h : journal_Journal_Append.f K a0 a0_0 a1 = some r) :
    Calls Tryd.prog 12 #[.pointer (some ⟨p0, 0, none⟩), .string a1] w1 (fun e W' => ∃ U0' : Blks, ∃ U0_0' : Blks, e = .returned (.int .i64 r.1) ∧ T_journal_Journal.At p0 p0_0 r.2.1 U0' ∧ T_dev_Dev.At p0_0  r.2.2 U0_0' ∧ Wd w W' (U0' ++ (U0_0' ++ (F ++ bs))) (os)) := by
  refine sxstart (n := 65) (l := [(0, .pointer (some ⟨p0, 0, none⟩)), (1, .string a1)]) Tryd.func12 rfl rfl (Nat.le_of_ble_eq_true KR) (subsA_cons rfl (subsA_cons rfl (subsA_nil _))) ?_
  intro a ha
  replace HW : Wd w w1 (U0 ++ (U0_0 ++ (F ++ bs))) (os) := HW
  unfold journal_Journal_Append.f at h
  refine wp_seq_k (fun K1714 hK1715 => ?_)
  refine wp_region_lit ?_
  refine stepp ha 4 (.int .i64 0) KR KR ?_; clear ha a; intro a ha
  refine endl ?_
  refine thenN (hK1715 _ _ ?_); clear hK1715
  refine wp_seq_k (fun K1716 hK1717 => ?_)
  refine wp_region_lit ?_
  refine stepp ha 7 (.string a1) KR KR ?_; clear ha a; intro a ha
  refine stepp ha 8 (.int .i64 (a1.size : Int)) KR KR ?_; clear ha a; intro a ha
  obtain ⟨t1718, ht1719, h_⟩ := bind_some' h; clear h; have h := h_; clear h_
  refine stepc ha 9 KR KR (frame_Sectors.calls (a1.size : Int) t1718 _ ht1719) ?_; clear ha a; rintro e W1720 ⟨rfl, HX1721⟩
  refine ⟨_, rfl, ?_⟩; intro a ha; replace HW := HW.callw HX1721; clear HX1721
  refine stepp ha 5 (.int .i64 t1718) KR KR ?_; clear ha a; intro a ha
  refine endl ?_
  refine thenN (hK1717 _ _ ?_); clear hK1717
  refine wp_seq_k (fun K1722 hK1723 => ?_)
  refine wp_block ?_
  refine wp_seq_k (fun K1724 hK1725 => ?_)
  refine wp_region_lit ?_
  refine stepp ha 11 (.pointer (some ⟨p0, 0, none⟩)) KR KR ?_; clear ha a; intro a ha
  refine stepp ha 12 (.bool false) KR KR ?_; clear ha a; intro a ha
  refine stepp ha 10 (.bool false) KR KR ?_; clear ha a; intro a ha
  refine endl ?_
  refine thenN (hK1725 _ _ ?_); clear hK1725
  refine condF ha KR KR (t := false) (rfl) ?_
  refine wp_seq_k (fun K1726 hK1727 => ?_)
  refine wp_region_lit ?_
  refine stepp ha 14 (.pointer (some ⟨p0, 0, none⟩)) KR KR ?_; clear ha a; intro a ha
  refine stepp ha 15 (.pointer (some ⟨p0, 0, none⟩)) KR KR ?_; clear ha a; intro a ha
  refine stepp ha 16 (.pointer (some ⟨p0, 9, none⟩)) KR KR ?_; clear ha a; intro a ha
  obtain ⟨A1728, c1729, HW⟩ := T_journal_Journal.unfold hU0 (Wd.segs (ss := [U0, U0_0, F]) (bt := bs) (m := []) (ot := os) [U0, U0_0, F] [] HW [0, 1, 2] [] [] KR KR (by decide) KR)
  replace HW : Wd w W1720 ((p0, .cells #[.pointer (some ⟨p0_0, 0, none⟩), .int .i64 a0.f1, .int .i64 a0.f2, .int .i64 a0.f3, .int .i64 a0.f4.f2, .string a0.f5, .slice A1728 a0.f6.length c1729, .int .i64 a0.f7, .bool a0.f8, .bool a0.f9] 57 (0, 0)) :: U0_0 ++ (F ++ bs)) (⟨9, 1, .slice A1728 a0.f6.length c1729, a0.f6.length, encs encS a0.f6⟩ :: os) := HW; clear hU0
  refine stepl ha 17 (HW.ca (i := 0) (b := p0) (C := #[.pointer (some ⟨p0_0, 0, none⟩), .int .i64 a0.f1, .int .i64 a0.f2, .int .i64 a0.f3, .int .i64 a0.f4.f2, .string a0.f5, .slice A1728 a0.f6.length c1729, .int .i64 a0.f7, .bool a0.f8, .bool a0.f9]) (T := 57) (fr := (0, 0)) KR) 4 9 (.tmp 16) (.bool a0.f9) rfl KR KR KR ?_; clear ha a; intro a ha
  refine stepp ha 13 (.bool a0.f9) KR KR ?_; clear ha a; intro a ha
  refine endl ?_
  refine thenN (hK1727 _ _ ?_); clear hK1727
  by_cases hp1731 : a0.f9 = true
  · skip
    replace h := ite_pos' h hp1731
    refine condT ha KR KR (t := a0.f9) (hp1731) ?_
    refine wp_seq_k (fun K1732 hK1733 => ?_)
    refine wp_region_lit ?_
    refine stepp ha 4 (.int .i64 41) KR KR ?_; clear ha a; intro a ha
    refine endl ?_
    refine thenN (hK1733 _ _ ?_); clear hK1733
    refine wp_ret ?_
    refine blkR ?_
    refine thenR ?_
    obtain ⟨U1734, hU1735, HW⟩ := T_journal_Journal.fold (x := (⟨(), a0.f1, a0.f2, a0.f3, (⟨(), (), a0.f4.f2⟩ : T_atomic_Int64), a0.f5, a0.f6, a0.f7, a0.f8, a0.f9⟩ : T_journal_Journal)) (Wd.segs (ss := [[(p0, .cells #[.pointer (some ⟨p0_0, 0, none⟩), .int .i64 a0.f1, .int .i64 a0.f2, .int .i64 a0.f3, .int .i64 a0.f4.f2, .string a0.f5, .slice A1728 a0.f6.length c1729, .int .i64 a0.f7, .bool a0.f8, .bool a0.f9] 57 (0, 0))], U0_0, F]) (bt := bs) (m := [⟨9, 1, .slice A1728 a0.f6.length c1729, a0.f6.length, encs encS a0.f6⟩]) (ot := os) [[(p0, .cells #[.pointer (some ⟨p0_0, 0, none⟩), .int .i64 a0.f1, .int .i64 a0.f2, .int .i64 a0.f3, .int .i64 a0.f4.f2, .string a0.f5, .slice A1728 a0.f6.length c1729, .int .i64 a0.f7, .bool a0.f8, .bool a0.f9] 57 (0, 0))], U0_0, F] [⟨9, 1, .slice A1728 a0.f6.length c1729, a0.f6.length, encs encS a0.f6⟩] HW [0, 1, 2] [] [0] KR KR (by decide) KR)
    replace HW := Wd.segs (ss := [U1734, U0_0, F]) (bt := bs) (m := []) (ot := os) [U1734, U0_0, F] [] HW [0, 1, 2] [] [] KR KR (by decide) KR
    replace HW : Wd w W1720 (U1734 ++ (U0_0 ++ (F ++ bs))) (os) := HW
    obtain rfl := Option.some.inj h
    exact finv ha _ _ rfl (.tmp (v := .int .i64 41) KR .nil) (.int .i64 41) rfl ⟨U1734, U0_0, rfl, hU1735, hU0_0, (Wd.segs (ss := [U1734, U0_0, F]) (bt := bs) (m := []) (ot := os) [U1734, U0_0, F] [] HW [0, 1, 2] [] [] KR KR (by decide) KR)⟩
  · skip
    replace h := ite_neg' h hp1731
    refine condF ha KR KR (t := a0.f9) (bool_f hp1731) ?_
    refine wp_seq_k (fun K1736 hK1737 => ?_)
    refine wp_region_lit ?_
    refine stepp ha 19 (.string a1) KR KR ?_; clear ha a; intro a ha
    refine stepp ha 20 (.int .i64 (a1.size : Int)) KR KR ?_; clear ha a; intro a ha
    refine stepp ha 21 (.bool (decide ((a1.size : Int) > 65536))) KR KR ?_; clear ha a; intro a ha
    refine stepp ha 18 (.bool (decide ((a1.size : Int) > 65536))) KR KR ?_; clear ha a; intro a ha
    refine endl ?_
    refine thenN (hK1737 _ _ ?_); clear hK1737
    by_cases hp1738 : (a1.size : Int) > 65536
    · skip
      replace h := ite_pos' h hp1738
      refine condT ha KR KR (t := decide ((a1.size : Int) > 65536)) (decide_eq_true hp1738) ?_
      refine wp_seq_k (fun K1739 hK1740 => ?_)
      refine wp_region_lit ?_
      refine stepp ha 4 (.int .i64 2) KR KR ?_; clear ha a; intro a ha
      refine endl ?_
      refine thenN (hK1740 _ _ ?_); clear hK1740
      refine wp_ret ?_
      refine blkR ?_
      refine thenR ?_
      obtain ⟨U1741, hU1742, HW⟩ := T_journal_Journal.fold (x := (⟨(), a0.f1, a0.f2, a0.f3, (⟨(), (), a0.f4.f2⟩ : T_atomic_Int64), a0.f5, a0.f6, a0.f7, a0.f8, a0.f9⟩ : T_journal_Journal)) (Wd.segs (ss := [[(p0, .cells #[.pointer (some ⟨p0_0, 0, none⟩), .int .i64 a0.f1, .int .i64 a0.f2, .int .i64 a0.f3, .int .i64 a0.f4.f2, .string a0.f5, .slice A1728 a0.f6.length c1729, .int .i64 a0.f7, .bool a0.f8, .bool a0.f9] 57 (0, 0))], U0_0, F]) (bt := bs) (m := [⟨9, 1, .slice A1728 a0.f6.length c1729, a0.f6.length, encs encS a0.f6⟩]) (ot := os) [[(p0, .cells #[.pointer (some ⟨p0_0, 0, none⟩), .int .i64 a0.f1, .int .i64 a0.f2, .int .i64 a0.f3, .int .i64 a0.f4.f2, .string a0.f5, .slice A1728 a0.f6.length c1729, .int .i64 a0.f7, .bool a0.f8, .bool a0.f9] 57 (0, 0))], U0_0, F] [⟨9, 1, .slice A1728 a0.f6.length c1729, a0.f6.length, encs encS a0.f6⟩] HW [0, 1, 2] [] [0] KR KR (by decide) KR)
      replace HW := Wd.segs (ss := [U1741, U0_0, F]) (bt := bs) (m := []) (ot := os) [U1741, U0_0, F] [] HW [0, 1, 2] [] [] KR KR (by decide) KR
      replace HW : Wd w W1720 (U1741 ++ (U0_0 ++ (F ++ bs))) (os) := HW
      obtain rfl := Option.some.inj h
      exact finv ha _ _ rfl (.tmp (v := .int .i64 2) KR .nil) (.int .i64 2) rfl ⟨U1741, U0_0, rfl, hU1742, hU0_0, (Wd.segs (ss := [U1741, U0_0, F]) (bt := bs) (m := []) (ot := os) [U1741, U0_0, F] [] HW [0, 1, 2] [] [] KR KR (by decide) KR)⟩
    · skip
      replace h := ite_neg' h hp1738
      refine condF ha KR KR (t := decide ((a1.size : Int) > 65536)) (decide_eq_false hp1738) ?_
      refine wp_seq_k (fun K1743 hK1744 => ?_)
      refine wp_region_lit ?_
      refine stepp ha 23 (.int .i64 t1718) KR KR ?_; clear ha a; intro a ha
      refine stepp ha 24 (.pointer (some ⟨p0, 0, none⟩)) KR KR ?_; clear ha a; intro a ha
      obtain ⟨t1745, ht1746, h_⟩ := bind_some' h; clear h; have h := h_; clear h_
      refine stepc ha 25 KR KR (journal_Journal_Room.calls (⟨(), a0.f1, a0.f2, a0.f3, (⟨(), (), a0.f4.f2⟩ : T_atomic_Int64), a0.f5, a0.f6, a0.f7, a0.f8, a0.f9⟩ : T_journal_Journal) A1728 c1729 p0 p0_0 t1745 _ (HW.ca (i := 0) (b := p0) (C := #[.pointer (some ⟨p0_0, 0, none⟩), .int .i64 a0.f1, .int .i64 a0.f2, .int .i64 a0.f3, .int .i64 a0.f4.f2, .string a0.f5, .slice A1728 a0.f6.length c1729, .int .i64 a0.f7, .bool a0.f8, .bool a0.f9]) (T := 57) (fr := (0, 0)) KR) (HW.rdo (i := 0) (q := ⟨9, 1, .slice A1728 a0.f6.length c1729, a0.f6.length, encs encS a0.f6⟩) KR) ht1746) ?_; clear ha a; rintro e W1747 ⟨rfl, HX1748⟩
      refine ⟨_, rfl, ?_⟩; intro a ha; replace HW := HW.callw HX1748; clear HX1748
      refine stepp ha 26 (.bool (decide (t1718 > t1745))) KR KR ?_; clear ha a; intro a ha
      refine stepp ha 22 (.bool (decide (t1718 > t1745))) KR KR ?_; clear ha a; intro a ha
      refine endl ?_
      refine thenN (hK1744 _ _ ?_); clear hK1744
      by_cases hp1749 : t1718 > t1745
      · skip
        replace h := ite_pos' h hp1749
        refine condT ha KR KR (t := decide (t1718 > t1745)) (decide_eq_true hp1749) ?_
        refine wp_seq_k (fun K1750 hK1751 => ?_)
        refine wp_region_lit ?_
        refine stepp ha 4 (.int .i64 60) KR KR ?_; clear ha a; intro a ha
        refine endl ?_
        refine thenN (hK1751 _ _ ?_); clear hK1751
        refine wp_ret ?_
        refine blkR ?_
        refine thenR ?_
        obtain ⟨U1752, hU1753, HW⟩ := T_journal_Journal.fold (x := (⟨(), a0.f1, a0.f2, a0.f3, (⟨(), (), a0.f4.f2⟩ : T_atomic_Int64), a0.f5, a0.f6, a0.f7, a0.f8, a0.f9⟩ : T_journal_Journal)) (Wd.segs (ss := [[(p0, .cells #[.pointer (some ⟨p0_0, 0, none⟩), .int .i64 a0.f1, .int .i64 a0.f2, .int .i64 a0.f3, .int .i64 a0.f4.f2, .string a0.f5, .slice A1728 a0.f6.length c1729, .int .i64 a0.f7, .bool a0.f8, .bool a0.f9] 57 (0, 0))], U0_0, F]) (bt := bs) (m := [⟨9, 1, .slice A1728 a0.f6.length c1729, a0.f6.length, encs encS a0.f6⟩]) (ot := os) [[(p0, .cells #[.pointer (some ⟨p0_0, 0, none⟩), .int .i64 a0.f1, .int .i64 a0.f2, .int .i64 a0.f3, .int .i64 a0.f4.f2, .string a0.f5, .slice A1728 a0.f6.length c1729, .int .i64 a0.f7, .bool a0.f8, .bool a0.f9] 57 (0, 0))], U0_0, F] [⟨9, 1, .slice A1728 a0.f6.length c1729, a0.f6.length, encs encS a0.f6⟩] HW [0, 1, 2] [] [0] KR KR (by decide) KR)
        replace HW := Wd.segs (ss := [U1752, U0_0, F]) (bt := bs) (m := []) (ot := os) [U1752, U0_0, F] [] HW [0, 1, 2] [] [] KR KR (by decide) KR
        replace HW : Wd w W1747 (U1752 ++ (U0_0 ++ (F ++ bs))) (os) := HW
        obtain rfl := Option.some.inj h
        exact finv ha _ _ rfl (.tmp (v := .int .i64 60) KR .nil) (.int .i64 60) rfl ⟨U1752, U0_0, rfl, hU1753, hU0_0, (Wd.segs (ss := [U1752, U0_0, F]) (bt := bs) (m := []) (ot := os) [U1752, U0_0, F] [] HW [0, 1, 2] [] [] KR KR (by decide) KR)⟩
      · skip
        replace h := ite_neg' h hp1749
        refine condF ha KR KR (t := decide (t1718 > t1745)) (decide_eq_false hp1749) ?_
        refine wp_skip ?_
        refine blkN ?_
        refine thenN (hK1723 _ _ ?_); clear hK1723
        refine wp_seq_k (fun K1754 hK1755 => ?_)
        refine wp_seq_k (fun K1756 hK1757 => ?_)
        refine regionGT 16 KR KR ha HW [.fix (.pointer (some ⟨p0, 0, none⟩)), .fix (.pointer (some ⟨p0, 0, none⟩)), .fix (.pointer (some ⟨p0, 0, none⟩)), .fix (.pointer (some ⟨p0, 3, none⟩)), .fix (.int .i64 a0.f3), .fix (.pointer (some ⟨p0, 0, none⟩)), .fix (.pointer (some ⟨p0, 0, none⟩)), .fix (.pointer (some ⟨p0, 7, none⟩)), .fix (.int .i64 a0.f7), .fix (.string a1), .fix (.pointer (some ⟨p0, 0, none⟩)), .fix (.pointer (some ⟨p0, 0, none⟩)), .fix (.pointer (some ⟨p0, 6, none⟩)), .fix (.slice A1728 a0.f6.length c1729), .fix (.int .i64 (a0.f6.length : Int)), .fix (.int .i64 (IntKind.wrap .i64 ((a0.f6.length : Int) + 2)))] ?_ ?_
        · skip
          refine ⟨?_, ?_, ?_, ?_, ?_, ?_, ?_, ?_, ?_, ?_, ?_, ?_, ?_, ?_, ?_, ?_, trivial⟩
          · skip
            intro a wr hn hd HW hs; have ha := hasNil hn hd
            have ha := ha.add (seeE hs 0 (.pointer (some ⟨p0, 0, none⟩)) KR KR)
            refine yStep ha 27 KR ?_; intro l_ ha HK
            refine stepp ha 27 (.pointer (some ⟨p0, 0, none⟩)) KR KR ?_; intro ax hax; exact HK _ _ _ hax rfl (Below.refl _ _)
          · skip
            intro a wr hn hd HW hs; have ha := hasNil hn hd
            have ha := ha.add (seeE hs 0 (.pointer (some ⟨p0, 0, none⟩)) KR KR)
            refine yStep ha 28 KR ?_; intro l_ ha HK
            refine stepp ha 28 (.pointer (some ⟨p0, 0, none⟩)) KR KR ?_; intro ax hax; exact HK _ _ _ hax rfl (Below.refl _ _)
          · skip
            intro a wr hn hd HW hs; have ha := hasNil hn hd
            have ha := ha.add (seeF hs 28 1 (.pointer (some ⟨p0, 0, none⟩)) KR KR)
            refine yStep ha 29 KR ?_; intro l_ ha HK
            refine stepp ha 29 (.pointer (some ⟨p0, 0, none⟩)) KR KR ?_; intro ax hax; exact HK _ _ _ hax rfl (Below.refl _ _)
          · skip
            intro a wr hn hd HW hs; have ha := hasNil hn hd
            have ha := ha.add (seeF hs 29 2 (.pointer (some ⟨p0, 0, none⟩)) KR KR)
            refine yStep ha 30 KR ?_; intro l_ ha HK
            refine stepp ha 30 (.pointer (some ⟨p0, 3, none⟩)) KR KR ?_; intro ax hax; exact HK _ _ _ hax rfl (Below.refl _ _)
          · skip
            intro a wr hn hd HW hs; have ha := hasNil hn hd
            have ha := ha.add (seeF hs 30 3 (.pointer (some ⟨p0, 3, none⟩)) KR KR)
            refine yStep ha 31 KR ?_; intro l_ ha HK
            refine stepl ha 31 (HW.ca (i := 0) (b := p0) (C := #[.pointer (some ⟨p0_0, 0, none⟩), .int .i64 a0.f1, .int .i64 a0.f2, .int .i64 a0.f3, .int .i64 a0.f4.f2, .string a0.f5, .slice A1728 a0.f6.length c1729, .int .i64 a0.f7, .bool a0.f8, .bool a0.f9]) (T := 57) (fr := (0, 0)) KR) 3 3 (.tmp 30) (.int .i64 a0.f3) rfl KR KR KR ?_; intro ax hax; exact HK _ _ _ hax rfl (Below.refl _ _)
          · skip
            intro a wr hn hd HW hs; have ha := hasNil hn hd
            have ha := ha.add (seeE hs 0 (.pointer (some ⟨p0, 0, none⟩)) KR KR)
            refine yStep ha 32 KR ?_; intro l_ ha HK
            refine stepp ha 32 (.pointer (some ⟨p0, 0, none⟩)) KR KR ?_; intro ax hax; exact HK _ _ _ hax rfl (Below.refl _ _)
          · skip
            intro a wr hn hd HW hs; have ha := hasNil hn hd
            have ha := ha.add (seeF hs 32 5 (.pointer (some ⟨p0, 0, none⟩)) KR KR)
            refine yStep ha 33 KR ?_; intro l_ ha HK
            refine stepp ha 33 (.pointer (some ⟨p0, 0, none⟩)) KR KR ?_; intro ax hax; exact HK _ _ _ hax rfl (Below.refl _ _)
          · skip
            intro a wr hn hd HW hs; have ha := hasNil hn hd
            have ha := ha.add (seeF hs 33 6 (.pointer (some ⟨p0, 0, none⟩)) KR KR)
            refine yStep ha 34 KR ?_; intro l_ ha HK
            refine stepp ha 34 (.pointer (some ⟨p0, 7, none⟩)) KR KR ?_; intro ax hax; exact HK _ _ _ hax rfl (Below.refl _ _)
          · skip
            intro a wr hn hd HW hs; have ha := hasNil hn hd
            have ha := ha.add (seeF hs 34 7 (.pointer (some ⟨p0, 7, none⟩)) KR KR)
            refine yStep ha 35 KR ?_; intro l_ ha HK
            refine stepl ha 35 (HW.ca (i := 0) (b := p0) (C := #[.pointer (some ⟨p0_0, 0, none⟩), .int .i64 a0.f1, .int .i64 a0.f2, .int .i64 a0.f3, .int .i64 a0.f4.f2, .string a0.f5, .slice A1728 a0.f6.length c1729, .int .i64 a0.f7, .bool a0.f8, .bool a0.f9]) (T := 57) (fr := (0, 0)) KR) 3 7 (.tmp 34) (.int .i64 a0.f7) rfl KR KR KR ?_; intro ax hax; exact HK _ _ _ hax rfl (Below.refl _ _)
          · skip
            intro a wr hn hd HW hs; have ha := hasNil hn hd
            have ha := ha.add (seeE hs 1 (.string a1) KR KR)
            refine yStep ha 36 KR ?_; intro l_ ha HK
            refine stepp ha 36 (.string a1) KR KR ?_; intro ax hax; exact HK _ _ _ hax rfl (Below.refl _ _)
          · skip
            intro a wr hn hd HW hs; have ha := hasNil hn hd
            have ha := ha.add (seeE hs 0 (.pointer (some ⟨p0, 0, none⟩)) KR KR)
            refine yStep ha 37 KR ?_; intro l_ ha HK
            refine stepp ha 37 (.pointer (some ⟨p0, 0, none⟩)) KR KR ?_; intro ax hax; exact HK _ _ _ hax rfl (Below.refl _ _)
          · skip
            intro a wr hn hd HW hs; have ha := hasNil hn hd
            have ha := ha.add (seeF hs 37 10 (.pointer (some ⟨p0, 0, none⟩)) KR KR)
            refine yStep ha 38 KR ?_; intro l_ ha HK
            refine stepp ha 38 (.pointer (some ⟨p0, 0, none⟩)) KR KR ?_; intro ax hax; exact HK _ _ _ hax rfl (Below.refl _ _)
          · skip
            intro a wr hn hd HW hs; have ha := hasNil hn hd
            have ha := ha.add (seeF hs 38 11 (.pointer (some ⟨p0, 0, none⟩)) KR KR)
            refine yStep ha 39 KR ?_; intro l_ ha HK
            refine stepp ha 39 (.pointer (some ⟨p0, 6, none⟩)) KR KR ?_; intro ax hax; exact HK _ _ _ hax rfl (Below.refl _ _)
          · skip
            intro a wr hn hd HW hs; have ha := hasNil hn hd
            have ha := ha.add (seeF hs 39 12 (.pointer (some ⟨p0, 6, none⟩)) KR KR)
            refine yStep ha 40 KR ?_; intro l_ ha HK
            refine stepl ha 40 (HW.ca (i := 0) (b := p0) (C := #[.pointer (some ⟨p0_0, 0, none⟩), .int .i64 a0.f1, .int .i64 a0.f2, .int .i64 a0.f3, .int .i64 a0.f4.f2, .string a0.f5, .slice A1728 a0.f6.length c1729, .int .i64 a0.f7, .bool a0.f8, .bool a0.f9]) (T := 57) (fr := (0, 0)) KR) 22 6 (.tmp 39) (.slice A1728 a0.f6.length c1729) rfl KR KR KR ?_; intro ax hax; exact HK _ _ _ hax rfl (Below.refl _ _)
          · skip
            intro a wr hn hd HW hs; have ha := hasNil hn hd
            have ha := ha.add (seeF hs 40 13 (.slice A1728 a0.f6.length c1729) KR KR)
            refine yStep ha 41 KR ?_; intro l_ ha HK
            refine stepp ha 41 (.int .i64 (a0.f6.length : Int)) KR KR ?_; intro ax hax; exact HK _ _ _ hax rfl (Below.refl _ _)
          · skip
            intro a wr hn hd HW hs; have ha := hasNil hn hd
            have ha := ha.add (seeF hs 41 14 (.int .i64 (a0.f6.length : Int)) KR KR)
            refine yStep ha 42 KR ?_; intro l_ ha HK
            refine stepp ha 42 (.int .i64 (IntKind.wrap .i64 ((a0.f6.length : Int) + 2))) KR KR ?_; intro ax hax; exact HK _ _ _ hax rfl (Below.refl _ _)
        · skip
          intro a W1758 ha HW he hf
          replace ha := ha.add (he 0 (.pointer (some ⟨p0, 0, none⟩)) KR KR)
          replace ha := ha.add (he 1 (.string a1) KR KR)
          replace ha := ha.add (he 5 (.int .i64 t1718) KR KR)
          replace ha := ha.add (gotF (m := 16) (j := 0) (d := 27) (v := .pointer (some ⟨p0, 0, none⟩)) hf KR KR KR)
          replace ha := ha.add (gotF (m := 16) (j := 4) (d := 31) (v := .int .i64 a0.f3) hf KR KR KR)
          replace ha := ha.add (gotF (m := 16) (j := 8) (d := 35) (v := .int .i64 a0.f7) hf KR KR KR)
          replace ha := ha.add (gotF (m := 16) (j := 9) (d := 36) (v := .string a1) hf KR KR KR)
          replace ha := ha.add (gotF (m := 16) (j := 15) (d := 42) (v := .int .i64 (IntKind.wrap .i64 ((a0.f6.length : Int) + 2))) hf KR KR KR)
          clear he hf
          obtain ⟨U1759, hU1760, HW⟩ := T_journal_Journal.fold (x := (⟨(), a0.f1, a0.f2, a0.f3, (⟨(), (), a0.f4.f2⟩ : T_atomic_Int64), a0.f5, a0.f6, a0.f7, a0.f8, a0.f9⟩ : T_journal_Journal)) (Wd.segs (ss := [[(p0, .cells #[.pointer (some ⟨p0_0, 0, none⟩), .int .i64 a0.f1, .int .i64 a0.f2, .int .i64 a0.f3, .int .i64 a0.f4.f2, .string a0.f5, .slice A1728 a0.f6.length c1729, .int .i64 a0.f7, .bool a0.f8, .bool a0.f9] 57 (0, 0))], U0_0, F]) (bt := bs) (m := [⟨9, 1, .slice A1728 a0.f6.length c1729, a0.f6.length, encs encS a0.f6⟩]) (ot := os) [[(p0, .cells #[.pointer (some ⟨p0_0, 0, none⟩), .int .i64 a0.f1, .int .i64 a0.f2, .int .i64 a0.f3, .int .i64 a0.f4.f2, .string a0.f5, .slice A1728 a0.f6.length c1729, .int .i64 a0.f7, .bool a0.f8, .bool a0.f9] 57 (0, 0))], U0_0, F] [⟨9, 1, .slice A1728 a0.f6.length c1729, a0.f6.length, encs encS a0.f6⟩] HW [0, 1, 2] [] [0] KR KR (by decide) KR)
          replace HW := Wd.segs (ss := [U1759, U0_0, F]) (bt := bs) (m := []) (ot := os) [U1759, U0_0, F] [] HW [0, 1, 2] [] [] KR KR (by decide) KR
          replace HW : Wd w W1758 (U1759 ++ (U0_0 ++ (F ++ bs))) (os) := HW
          obtain ⟨t1761, ht1762, h_⟩ := bind_some' h; clear h; have h := h_; clear h_
          refine stepc ha 43 KR KR (journal_Journal_puts.calls K (⟨(), a0.f1, a0.f2, a0.f3, (⟨(), (), a0.f4.f2⟩ : T_atomic_Int64), a0.f5, a0.f6, a0.f7, a0.f8, a0.f9⟩ : T_journal_Journal) a0_0 a0.f3 a0.f7 a1 (IntKind.wrap .i64 ((a0.f6.length : Int) + 2)) p0 U1759 p0_0 U0_0 t1761 _ _ F bs (os) hG1 hU1760 hU0_0 (Wd.segs (ss := [U1759, U0_0, F]) (bt := bs) (m := []) (ot := os) [U1759, U0_0, F] [] HW [0, 1, 2] [] [] KR KR (by decide) KR) ht1762) ?_; clear ha a; rintro e W1765 ⟨U1763, U1764, rfl, hU1760n, hU0_0n, HX1766⟩
          refine ⟨_, rfl, ?_⟩; intro a ha; clear HW
          clear hU1760; have hU1760 := hU1760n; clear hU1760n
          clear hU0_0; have hU0_0 := hU0_0n; clear hU0_0n
          have HW : Wd w W1765 (U1763 ++ (U1764 ++ (F ++ bs))) (os) := Wd.segs (ss := [U1763, U1764, F]) (bt := bs) (m := []) (ot := os) [U1763, U1764, F] [] HX1766 [0, 1, 2] [] [] KR KR (by decide) KR; clear HX1766
          refine stepp ha 6 (.int .i64 t1761.1) KR KR ?_; clear ha a; intro a ha
          refine endl ?_
          refine thenN (hK1757 _ _ ?_); clear hK1757
          refine wp_seq_k (fun K1769 hK1770 => ?_)
          refine wp_region_lit ?_
          refine stepp ha 44 (.int .i64 t1761.1) KR KR ?_; clear ha a; intro a ha
          refine stepp ha 45 (.bool (t1761.1 != 0)) KR KR ?_; clear ha a; intro a ha
          refine endl ?_
          refine thenN (hK1770 _ _ ?_); clear hK1770
          by_cases hp1771 : t1761.1 = 0
          · skip
            replace h := ite_pos' h hp1771
            refine condF ha KR KR (t := (t1761.1 != 0)) (ineq_f hp1771) ?_
            refine wp_skip ?_
            refine thenN (hK1755 _ _ ?_); clear hK1755
            refine wp_seq_k (fun K1774 hK1775 => ?_)
            refine wp_region_lit ?_
            refine stepp ha 47 (.pointer (some ⟨p0, 0, none⟩)) KR KR ?_; clear ha a; intro a ha
            refine stepp ha 48 (.pointer (some ⟨p0, 0, none⟩)) KR KR ?_; clear ha a; intro a ha
            refine stepp ha 49 (.pointer (some ⟨p0, 0, none⟩)) KR KR ?_; clear ha a; intro a ha
            refine stepp ha 50 (.pointer (some ⟨p0, 6, none⟩)) KR KR ?_; clear ha a; intro a ha
            obtain ⟨A1776, c1777, HW⟩ := T_journal_Journal.unfold hU1760 (Wd.segs (ss := [U1763, U1764, F]) (bt := bs) (m := []) (ot := os) [U1763, U1764, F] [] HW [0, 1, 2] [] [] KR KR (by decide) KR)
            replace HW : Wd w W1765 ((p0, .cells #[.pointer (some ⟨p0_0, 0, none⟩), .int .i64 t1761.2.1.f1, .int .i64 t1761.2.1.f2, .int .i64 t1761.2.1.f3, .int .i64 t1761.2.1.f4.f2, .string t1761.2.1.f5, .slice A1776 t1761.2.1.f6.length c1777, .int .i64 t1761.2.1.f7, .bool t1761.2.1.f8, .bool t1761.2.1.f9] 57 (0, 0)) :: U1764 ++ (F ++ bs)) (⟨9, 1, .slice A1776 t1761.2.1.f6.length c1777, t1761.2.1.f6.length, encs encS t1761.2.1.f6⟩ :: os) := HW; clear hU1760
            refine stepl ha 51 (HW.ca (i := 0) (b := p0) (C := #[.pointer (some ⟨p0_0, 0, none⟩), .int .i64 t1761.2.1.f1, .int .i64 t1761.2.1.f2, .int .i64 t1761.2.1.f3, .int .i64 t1761.2.1.f4.f2, .string t1761.2.1.f5, .slice A1776 t1761.2.1.f6.length c1777, .int .i64 t1761.2.1.f7, .bool t1761.2.1.f8, .bool t1761.2.1.f9]) (T := 57) (fr := (0, 0)) KR) 22 6 (.tmp 50) (.slice A1776 t1761.2.1.f6.length c1777) rfl KR KR KR ?_; clear ha a; intro a ha
            refine stepp ha 52 (.string a1) KR KR ?_; clear ha a; intro a ha
            refine stepbs ha HW 53 9 1 1 #[.string a1] [.string a1] (by decide) KR KR KR KR ?_; clear ha HW a; intro b1779 a W1780 HW ha
            replace HW : Wd w W1780 ((p0, .cells #[.pointer (some ⟨p0_0, 0, none⟩), .int .i64 t1761.2.1.f1, .int .i64 t1761.2.1.f2, .int .i64 t1761.2.1.f3, .int .i64 t1761.2.1.f4.f2, .string t1761.2.1.f5, .slice A1776 t1761.2.1.f6.length c1777, .int .i64 t1761.2.1.f7, .bool t1761.2.1.f8, .bool t1761.2.1.f9] 57 (0, 0)) :: U1764 ++ (F ++ bs)) (⟨9, 1, .slice (some ⟨b1779, 0, none⟩) ([a1] : List ByteArray).length 1, ([a1] : List ByteArray).length, encs encS ([a1] : List ByteArray)⟩ :: ⟨9, 1, .slice A1776 t1761.2.1.f6.length c1777, t1761.2.1.f6.length, encs encS t1761.2.1.f6⟩ :: os) := HW
            replace ha := ha.turn 53 (v := .slice (some ⟨b1779, 0, none⟩) ([a1] : List ByteArray).length 1) KR rfl
            obtain ⟨hA1782, h_⟩ := asrt_some h; clear h; have h := h_; clear h_
            refine stepape encS ha HW 54 1 22 9 (.tmp 51) (.tmp 53) (.string (⟨#[]⟩ : ByteArray)) 1 16 (.slice A1776 t1761.2.1.f6.length c1777) t1761.2.1.f6 (.slice (some ⟨b1779, 0, none⟩) ([a1] : List ByteArray).length 1) ([a1] : List ByteArray) KR rfl KR KR (HW.rdo (i := 0) (q := ⟨9, 1, .slice (some ⟨b1779, 0, none⟩) ([a1] : List ByteArray).length 1, ([a1] : List ByteArray).length, encs encS ([a1] : List ByteArray)⟩) KR) (fun _ => rfl) KR KR KR (by decide) (by have := hA1782; unfold maxLen; omega) (by have := hA1782; omega) KR ?_; clear ha HW a; intro A1783 c1784 a W1785 HW ha
            refine stepp ha 55 (.pointer (some ⟨p0, 0, none⟩)) KR KR ?_; clear ha a; intro a ha
            refine stepp ha 56 (.pointer (some ⟨p0, 6, none⟩)) KR KR ?_; clear ha a; intro a ha
            refine stepst ha HW 0 (b := p0) (C := #[.pointer (some ⟨p0_0, 0, none⟩), .int .i64 t1761.2.1.f1, .int .i64 t1761.2.1.f2, .int .i64 t1761.2.1.f3, .int .i64 t1761.2.1.f4.f2, .string t1761.2.1.f5, .slice A1776 t1761.2.1.f6.length c1777, .int .i64 t1761.2.1.f7, .bool t1761.2.1.f8, .bool t1761.2.1.f9]) (T := 57) KR 22 6 (.tmp 56) (.tmp 54) (.slice A1783 (t1761.2.1.f6 ++ ([a1] : List ByteArray)).length c1784) #[.pointer (some ⟨p0_0, 0, none⟩), .int .i64 t1761.2.1.f1, .int .i64 t1761.2.1.f2, .int .i64 t1761.2.1.f3, .int .i64 t1761.2.1.f4.f2, .string t1761.2.1.f5, .slice A1783 (t1761.2.1.f6 ++ ([a1] : List ByteArray)).length c1784, .int .i64 t1761.2.1.f7, .bool t1761.2.1.f8, .bool t1761.2.1.f9] rfl KR KR KR KR KR KR KR ?_; clear ha HW a; intro a W1788 HW ha
            refine endl ?_
            refine thenN (hK1775 _ _ ?_); clear hK1775
            refine wp_seq_k (fun K1789 hK1790 => ?_)
            refine wp_region_lit ?_
            refine stepp ha 57 (.pointer (some ⟨p0, 0, none⟩)) KR KR ?_; clear ha a; intro a ha
            refine stepp ha 58 (.pointer (some ⟨p0, 0, none⟩)) KR KR ?_; clear ha a; intro a ha
            refine stepp ha 59 (.pointer (some ⟨p0, 7, none⟩)) KR KR ?_; clear ha a; intro a ha
            refine stepl ha 60 (HW.ca (i := 0) (b := p0) (C := #[.pointer (some ⟨p0_0, 0, none⟩), .int .i64 t1761.2.1.f1, .int .i64 t1761.2.1.f2, .int .i64 t1761.2.1.f3, .int .i64 t1761.2.1.f4.f2, .string t1761.2.1.f5, .slice A1783 (t1761.2.1.f6 ++ ([a1] : List ByteArray)).length c1784, .int .i64 t1761.2.1.f7, .bool t1761.2.1.f8, .bool t1761.2.1.f9]) (T := 57) (fr := (0, 0)) KR) 3 7 (.tmp 59) (.int .i64 t1761.2.1.f7) rfl KR KR KR ?_; clear ha a; intro a ha
            refine stepp ha 61 (.int .i64 t1718) KR KR ?_; clear ha a; intro a ha
            refine stepp ha 62 (.int .i64 (IntKind.wrap .i64 (t1761.2.1.f7 + t1718))) KR KR ?_; clear ha a; intro a ha
            refine stepp ha 63 (.pointer (some ⟨p0, 0, none⟩)) KR KR ?_; clear ha a; intro a ha
            refine stepp ha 64 (.pointer (some ⟨p0, 7, none⟩)) KR KR ?_; clear ha a; intro a ha
            refine stepst ha HW 0 (b := p0) (C := #[.pointer (some ⟨p0_0, 0, none⟩), .int .i64 t1761.2.1.f1, .int .i64 t1761.2.1.f2, .int .i64 t1761.2.1.f3, .int .i64 t1761.2.1.f4.f2, .string t1761.2.1.f5, .slice A1783 (t1761.2.1.f6 ++ ([a1] : List ByteArray)).length c1784, .int .i64 t1761.2.1.f7, .bool t1761.2.1.f8, .bool t1761.2.1.f9]) (T := 57) KR 3 7 (.tmp 64) (.tmp 62) (.int .i64 (IntKind.wrap .i64 (t1761.2.1.f7 + t1718))) #[.pointer (some ⟨p0_0, 0, none⟩), .int .i64 t1761.2.1.f1, .int .i64 t1761.2.1.f2, .int .i64 t1761.2.1.f3, .int .i64 t1761.2.1.f4.f2, .string t1761.2.1.f5, .slice A1783 (t1761.2.1.f6 ++ ([a1] : List ByteArray)).length c1784, .int .i64 (IntKind.wrap .i64 (t1761.2.1.f7 + t1718)), .bool t1761.2.1.f8, .bool t1761.2.1.f9] rfl KR KR KR KR KR KR KR ?_; clear ha HW a; intro a W1791 HW ha
            refine endl ?_
            refine thenN (hK1790 _ _ ?_); clear hK1790
            refine wp_seq_k (fun K1792 hK1793 => ?_)
            refine wp_region_lit ?_
            refine stepp ha 4 (.int .i64 0) KR KR ?_; clear ha a; intro a ha
            refine endl ?_
            refine thenN (hK1793 _ _ ?_); clear hK1793
            refine wp_ret ?_
            obtain ⟨U1794, hU1795, HW⟩ := T_journal_Journal.fold (x := (⟨(), t1761.2.1.f1, t1761.2.1.f2, t1761.2.1.f3, (⟨(), (), t1761.2.1.f4.f2⟩ : T_atomic_Int64), t1761.2.1.f5, t1761.2.1.f6 ++ ([a1] : List ByteArray), IntKind.wrap .i64 (t1761.2.1.f7 + t1718), t1761.2.1.f8, t1761.2.1.f9⟩ : T_journal_Journal)) (Wd.segs (ss := [[(p0, .cells #[.pointer (some ⟨p0_0, 0, none⟩), .int .i64 t1761.2.1.f1, .int .i64 t1761.2.1.f2, .int .i64 t1761.2.1.f3, .int .i64 t1761.2.1.f4.f2, .string t1761.2.1.f5, .slice A1783 (t1761.2.1.f6 ++ ([a1] : List ByteArray)).length c1784, .int .i64 (IntKind.wrap .i64 (t1761.2.1.f7 + t1718)), .bool t1761.2.1.f8, .bool t1761.2.1.f9] 57 (0, 0))], U1764, F]) (bt := bs) (m := [⟨9, 1, .slice (some ⟨b1779, 0, none⟩) ([a1] : List ByteArray).length 1, ([a1] : List ByteArray).length, encs encS ([a1] : List ByteArray)⟩, ⟨9, 1, .slice A1783 (t1761.2.1.f6 ++ ([a1] : List ByteArray)).length c1784, (t1761.2.1.f6 ++ ([a1] : List ByteArray)).length, encs encS (t1761.2.1.f6 ++ ([a1] : List ByteArray))⟩]) (ot := os) [[(p0, .cells #[.pointer (some ⟨p0_0, 0, none⟩), .int .i64 t1761.2.1.f1, .int .i64 t1761.2.1.f2, .int .i64 t1761.2.1.f3, .int .i64 t1761.2.1.f4.f2, .string t1761.2.1.f5, .slice A1783 (t1761.2.1.f6 ++ ([a1] : List ByteArray)).length c1784, .int .i64 (IntKind.wrap .i64 (t1761.2.1.f7 + t1718)), .bool t1761.2.1.f8, .bool t1761.2.1.f9] 57 (0, 0))], U1764, F] [⟨9, 1, .slice A1783 (t1761.2.1.f6 ++ ([a1] : List ByteArray)).length c1784, (t1761.2.1.f6 ++ ([a1] : List ByteArray)).length, encs encS (t1761.2.1.f6 ++ ([a1] : List ByteArray))⟩, ⟨9, 1, .slice (some ⟨b1779, 0, none⟩) ([a1] : List ByteArray).length 1, ([a1] : List ByteArray).length, encs encS ([a1] : List ByteArray)⟩] HW [0, 1, 2] [] [1, 0] KR KR (by decide) KR)
            replace HW := Wd.segs (ss := [U1794, U1764, F]) (bt := bs) (m := [⟨9, 1, .slice (some ⟨b1779, 0, none⟩) ([a1] : List ByteArray).length 1, ([a1] : List ByteArray).length, encs encS ([a1] : List ByteArray)⟩]) (ot := os) [U1794, U1764, F] [⟨9, 1, .slice (some ⟨b1779, 0, none⟩) ([a1] : List ByteArray).length 1, ([a1] : List ByteArray).length, encs encS ([a1] : List ByteArray)⟩] HW [0, 1, 2] [] [0] KR KR (by decide) KR
            replace HW : Wd w W1791 (U1794 ++ (U1764 ++ (F ++ bs))) (⟨9, 1, .slice (some ⟨b1779, 0, none⟩) ([a1] : List ByteArray).length 1, ([a1] : List ByteArray).length, encs encS ([a1] : List ByteArray)⟩ :: os) := HW
            obtain rfl := Option.some.inj h
            exact finv ha _ _ rfl (.tmp (v := .int .i64 0) KR .nil) (.int .i64 0) rfl ⟨U1794, U1764, rfl, hU1795, hU0_0, (Wd.segs (ss := [U1794, U1764, F]) (bt := bs) (m := [⟨9, 1, .slice (some ⟨b1779, 0, none⟩) ([a1] : List ByteArray).length 1, ([a1] : List ByteArray).length, encs encS ([a1] : List ByteArray)⟩]) (ot := os) [U1794, U1764, F] [] HW [0, 1, 2] [] [] KR KR (by decide) KR)⟩
          · skip
            replace h := ite_neg' h hp1771
            refine condT ha KR KR (t := (t1761.1 != 0)) (ineq_t hp1771) ?_
            refine wp_seq_k (fun K1772 hK1773 => ?_)
            refine wp_region_lit ?_
            refine stepp ha 46 (.int .i64 t1761.1) KR KR ?_; clear ha a; intro a ha
            refine stepp ha 4 (.int .i64 t1761.1) KR KR ?_; clear ha a; intro a ha
            refine endl ?_
            refine thenN (hK1773 _ _ ?_); clear hK1773
            refine wp_ret ?_
            refine thenR ?_
            obtain rfl := Option.some.inj h
            exact finv ha _ _ rfl (.tmp (v := .int .i64 t1761.1) KR .nil) (.int .i64 t1761.1) rfl ⟨U1763, U1764, rfl, hU1760, hU0_0, (Wd.segs (ss := [U1763, U1764, F]) (bt := bs) (m := []) (ot := os) [U1763, U1764, F] [] HW [0, 1, 2] [] [] KR KR (by decide) KR)⟩
def journal_Journal_Records.f (a0 : T_journal_Journal) : Option (List ByteArray) :=
  asrt (([] : List ByteArray).length + a0.f6.length ≤ 8796093022208) (some (([] : List ByteArray) ++ a0.f6))
set_option maxRecDepth 100000 in
set_option maxHeartbeats 4000000 in
theorem journal_Journal_Records.calls (a0 : T_journal_Journal) (A0_0 : Option Addr) (c0_0 : Nat) (cb0 : Nat) (cb1 : Nat) (r : List ByteArray) (w : World) (hc0 : CA w cb0 0 #[.pointer (some ⟨cb1, 0, none⟩), .int .i64 a0.f1, .int .i64 a0.f2, .int .i64 a0.f3, .int .i64 a0.f4.f2, .string a0.f5, .slice A0_0 a0.f6.length c0_0, .int .i64 a0.f7, .bool a0.f8, .bool a0.f9]) (hr0_0 : Rd 1 w (.slice A0_0 a0.f6.length c0_0) a0.f6.length (encs encS a0.f6)) (h : journal_Journal_Records.f a0 = some r) :
    Calls Tryd.prog 16 #[.pointer (some ⟨cb0, 0, none⟩)] w (fun e W' => ∃ A_0 c_0, e = .returned (.slice A_0 r.length c_0) ∧ Wd w W' [] [⟨9, 1, .slice A_0 r.length c_0, r.length, encs encS r⟩] ) := by
  refine sxstart (n := 10) (l := [(0, .pointer (some ⟨cb0, 0, none⟩))]) Tryd.func16 rfl rfl (Nat.le_of_ble_eq_true KR) (subsA_cons rfl (subsA_nil _)) ?_
  intro a ha
  have HW := Wd.refl w
  unfold journal_Journal_Records.f at h
  refine wp_seq_k (fun K3625 hK3626 => ?_)
  refine wp_region_lit ?_
  refine stepp ha 2 (.slice none 0 0) KR KR ?_; clear ha a; intro a ha
  refine endl ?_
  refine thenN (hK3626 _ _ ?_); clear hK3626
  refine wp_seq_k (fun K3627 hK3628 => ?_)
  refine wp_seq_k (fun K3629 hK3630 => ?_)
  refine wp_region_lit ?_
  refine stepp ha 3 (.pointer (some ⟨cb0, 0, none⟩)) KR KR ?_; clear ha a; intro a ha
  refine stepp ha 4 (.bool false) KR KR ?_; clear ha a; intro a ha
  refine endl ?_
  refine thenN (hK3630 _ _ ?_); clear hK3630
  refine condF ha KR KR (t := false) (rfl) ?_
  refine wp_skip ?_
  refine thenN (hK3628 _ _ ?_); clear hK3628
  refine wp_seq_k (fun K3631 hK3632 => ?_)
  refine wp_region_lit ?_
  refine stepp ha 5 (.pointer (some ⟨cb0, 0, none⟩)) KR KR ?_; clear ha a; intro a ha
  refine stepp ha 6 (.pointer (some ⟨cb0, 0, none⟩)) KR KR ?_; clear ha a; intro a ha
  refine stepp ha 7 (.pointer (some ⟨cb0, 6, none⟩)) KR KR ?_; clear ha a; intro a ha
  refine stepl ha 8 (HW.ca0 hc0) 22 6 (.tmp 7) (.slice A0_0 a0.f6.length c0_0) rfl KR KR KR ?_; clear ha a; intro a ha
  replace HW := HW.nilo 9 1
  replace HW : Wd w w [] [⟨9, 1, .slice none 0 0, ([] : List ByteArray).length, encs encS ([] : List ByteArray)⟩] := HW
  obtain ⟨hA3634, h_⟩ := asrt_some h; clear h; have h := h_; clear h_
  refine stepape encS ha HW 9 0 22 9 (.const (.slice none 0 0)) (.tmp 8) (.string (⟨#[]⟩ : ByteArray)) 1 16 (.slice none 0 0) ([] : List ByteArray) (.slice A0_0 a0.f6.length c0_0) a0.f6 KR rfl KR KR ((HW.rd0 hr0_0)) (fun _ => rfl) KR KR KR (by decide) (by have := hA3634; unfold maxLen; omega) (by have := hA3634; omega) KR ?_; clear ha HW a; intro A3635 c3636 a W3637 HW ha
  refine stepp ha 2 (.slice A3635 (([] : List ByteArray) ++ a0.f6).length c3636) KR KR ?_; clear ha a; intro a ha
  refine endl ?_
  refine thenN (hK3632 _ _ ?_); clear hK3632
  refine wp_ret ?_
  obtain rfl := Option.some.inj h
  exact finv ha _ _ rfl (.tmp (v := .slice A3635 (([] : List ByteArray) ++ a0.f6).length c3636) KR .nil) (.slice A3635 (([] : List ByteArray) ++ a0.f6).length c3636) rfl ⟨A3635, c3636, rfl, HW.pick [] [0] (by decide) (by decide) rfl KR⟩
end Go.Proofs.YtokdiacjcbolfaaDoor.F
namespace Go.Proofs.YtokdiacjcbolfaaDoor.F
open Go Go.RowKit Go.Proofs.YtokdiacjcbolfaaDoor.X
set_option linter.unusedVariables false
set_option linter.unusedSimpArgs false
def journal_Journal_Checkpoint.j0 (K : Nat) (a1 : ByteArray) (t4452 : Int) (x4508 : T_journal_Journal) (x4511 : T_dev_Dev) : Option (Int × T_journal_Journal × T_dev_Dev) :=
  (journal_Journal_puts.f K (⟨(), x4508.f1, x4508.f2, x4508.f3, (⟨(), (), x4508.f4.f2⟩ : T_atomic_Int64), x4508.f5, x4508.f6, x4508.f7, x4508.f8, x4508.f9⟩ : T_journal_Journal) x4511 (IntKind.wrap .i64 (1 - x4508.f3)) 0 a1 1).bind fun t4524 => (if t4524.1 = 0 then (some (0, (⟨(), t4524.2.1.f1, t4524.2.1.f2, IntKind.wrap .i64 (1 - t4524.2.1.f3), (⟨(), (), t4524.2.1.f4.f2⟩ : T_atomic_Int64), a1, ([] : List ByteArray), t4452, t4524.2.1.f8, t4524.2.1.f9⟩ : T_journal_Journal), t4524.2.2)) else (some (t4524.1, t4524.2.1, t4524.2.2)))
def journal_Journal_Checkpoint.f (K : Nat) (a0 : T_journal_Journal) (a0_0 : T_dev_Dev) (a1 : ByteArray) : Option (Int × T_journal_Journal × T_dev_Dev) :=
  (frame_Sectors.f (a1.size : Int)).bind fun t4452 => (if a0.f9 = true then (some (41, (⟨(), a0.f1, a0.f2, a0.f3, (⟨(), (), a0.f4.f2⟩ : T_atomic_Int64), a0.f5, a0.f6, a0.f7, a0.f8, a0.f9⟩ : T_journal_Journal), a0_0)) else (if (a1.size : Int) > 65536 then (some (2, (⟨(), a0.f1, a0.f2, a0.f3, (⟨(), (), a0.f4.f2⟩ : T_atomic_Int64), a0.f5, a0.f6, a0.f7, a0.f8, a0.f9⟩ : T_journal_Journal), a0_0)) else (if t4452 > a0.f2 then (some (60, (⟨(), a0.f1, a0.f2, a0.f3, (⟨(), (), a0.f4.f2⟩ : T_atomic_Int64), a0.f5, a0.f6, a0.f7, a0.f8, a0.f9⟩ : T_journal_Journal), a0_0)) else (if a0.f8 = true then ((journal_Journal_flush.f K (⟨(), a0.f1, a0.f2, a0.f3, (⟨(), (), a0.f4.f2⟩ : T_atomic_Int64), a0.f5, a0.f6, a0.f7, a0.f8, a0.f9⟩ : T_journal_Journal) a0_0).bind fun t4493 => (if t4493.1 = 0 then (journal_Journal_Checkpoint.j0 K a1 t4452 t4493.2.1 t4493.2.2) else (some (t4493.1, t4493.2.1, t4493.2.2)))) else (journal_Journal_Checkpoint.j0 K a1 t4452 (⟨(), a0.f1, a0.f2, a0.f3, (⟨(), (), a0.f4.f2⟩ : T_atomic_Int64), a0.f5, a0.f6, a0.f7, a0.f8, a0.f9⟩ : T_journal_Journal) a0_0)))))
set_option maxRecDepth 100000 in
set_option maxHeartbeats 4000000 in
theorem journal_Journal_Checkpoint.calls (K : Nat) (a0 : T_journal_Journal) (a0_0 : T_dev_Dev) (a1 : ByteArray) (p0 : Nat) (U0 : Blks) (p0_0 : Nat) (U0_0 : Blks)  (r : Int × T_journal_Journal × T_dev_Dev) (w w1 : World) (F bs : Blks) (os : List OwnA) (hG1 : CA w 1 0 (encs (encIK .u32) G_crc_steps).toArray) (hU0 : T_journal_Journal.At p0 p0_0 a0 U0) (hU0_0 : T_dev_Dev.At p0_0  a0_0 U0_0) (HW : Wd w w1 (U0 ++ (U0_0 ++ (F ++ bs))) os) (h : journal_Journal_Checkpoint.f K a0 a0_0 a1 = some r) :
    Calls Tryd.prog 18 #[.pointer (some ⟨p0, 0, none⟩), .string a1] w1 (fun e W' => ∃ U0' : Blks, ∃ U0_0' : Blks, e = .returned (.int .i64 r.1) ∧ T_journal_Journal.At p0 p0_0 r.2.1 U0' ∧ T_dev_Dev.At p0_0  r.2.2 U0_0' ∧ Wd w W' (U0' ++ (U0_0' ++ (F ++ bs))) (os)) := by
  refine sxstart (n := 69) (l := [(0, .pointer (some ⟨p0, 0, none⟩)), (1, .string a1)]) Tryd.func18 rfl rfl (Nat.le_of_ble_eq_true KR) (subsA_cons rfl (subsA_cons rfl (subsA_nil _))) ?_
  intro a ha
  replace HW : Wd w w1 (U0 ++ (U0_0 ++ (F ++ bs))) (os) := HW
  unfold journal_Journal_Checkpoint.f at h
  refine wp_seq_k (fun K4448 hK4449 => ?_)
  refine wp_region_lit ?_
  refine stepp ha 4 (.int .i64 0) KR KR ?_; clear ha a; intro a ha
  refine endl ?_
  refine thenN (hK4449 _ _ ?_); clear hK4449
  refine wp_seq_k (fun K4450 hK4451 => ?_)
  refine wp_region_lit ?_
  refine stepp ha 8 (.string a1) KR KR ?_; clear ha a; intro a ha
  refine stepp ha 9 (.int .i64 (a1.size : Int)) KR KR ?_; clear ha a; intro a ha
  obtain ⟨t4452, ht4453, h_⟩ := bind_some' h; clear h; have h := h_; clear h_
  refine stepc ha 10 KR KR (frame_Sectors.calls (a1.size : Int) t4452 _ ht4453) ?_; clear ha a; rintro e W4454 ⟨rfl, HX4455⟩
  refine ⟨_, rfl, ?_⟩; intro a ha; replace HW := HW.callw HX4455; clear HX4455
  refine stepp ha 5 (.int .i64 t4452) KR KR ?_; clear ha a; intro a ha
  refine endl ?_
  refine thenN (hK4451 _ _ ?_); clear hK4451
  refine wp_seq_k (fun K4456 hK4457 => ?_)
  refine wp_block ?_
  refine wp_seq_k (fun K4458 hK4459 => ?_)
  refine wp_region_lit ?_
  refine stepp ha 12 (.pointer (some ⟨p0, 0, none⟩)) KR KR ?_; clear ha a; intro a ha
  refine stepp ha 13 (.bool false) KR KR ?_; clear ha a; intro a ha
  refine stepp ha 11 (.bool false) KR KR ?_; clear ha a; intro a ha
  refine endl ?_
  refine thenN (hK4459 _ _ ?_); clear hK4459
  refine condF ha KR KR (t := false) (rfl) ?_
  refine wp_seq_k (fun K4460 hK4461 => ?_)
  refine wp_region_lit ?_
  refine stepp ha 15 (.pointer (some ⟨p0, 0, none⟩)) KR KR ?_; clear ha a; intro a ha
  refine stepp ha 16 (.pointer (some ⟨p0, 0, none⟩)) KR KR ?_; clear ha a; intro a ha
  refine stepp ha 17 (.pointer (some ⟨p0, 9, none⟩)) KR KR ?_; clear ha a; intro a ha
  obtain ⟨A4462, c4463, HW⟩ := T_journal_Journal.unfold hU0 (Wd.segs (ss := [U0, U0_0, F]) (bt := bs) (m := []) (ot := os) [U0, U0_0, F] [] HW [0, 1, 2] [] [] KR KR (by decide) KR)
  replace HW : Wd w W4454 ((p0, .cells #[.pointer (some ⟨p0_0, 0, none⟩), .int .i64 a0.f1, .int .i64 a0.f2, .int .i64 a0.f3, .int .i64 a0.f4.f2, .string a0.f5, .slice A4462 a0.f6.length c4463, .int .i64 a0.f7, .bool a0.f8, .bool a0.f9] 57 (0, 0)) :: U0_0 ++ (F ++ bs)) (⟨9, 1, .slice A4462 a0.f6.length c4463, a0.f6.length, encs encS a0.f6⟩ :: os) := HW; clear hU0
  refine stepl ha 18 (HW.ca (i := 0) (b := p0) (C := #[.pointer (some ⟨p0_0, 0, none⟩), .int .i64 a0.f1, .int .i64 a0.f2, .int .i64 a0.f3, .int .i64 a0.f4.f2, .string a0.f5, .slice A4462 a0.f6.length c4463, .int .i64 a0.f7, .bool a0.f8, .bool a0.f9]) (T := 57) (fr := (0, 0)) KR) 4 9 (.tmp 17) (.bool a0.f9) rfl KR KR KR ?_; clear ha a; intro a ha
  refine stepp ha 14 (.bool a0.f9) KR KR ?_; clear ha a; intro a ha
  refine endl ?_
  refine thenN (hK4461 _ _ ?_); clear hK4461
  by_cases hp4465 : a0.f9 = true
  · skip
    replace h := ite_pos' h hp4465
    refine condT ha KR KR (t := a0.f9) (hp4465) ?_
    refine wp_seq_k (fun K4466 hK4467 => ?_)
    refine wp_region_lit ?_
    refine stepp ha 4 (.int .i64 41) KR KR ?_; clear ha a; intro a ha
    refine endl ?_
    refine thenN (hK4467 _ _ ?_); clear hK4467
    refine wp_ret ?_
    refine blkR ?_
    refine thenR ?_
    obtain ⟨U4468, hU4469, HW⟩ := T_journal_Journal.fold (x := (⟨(), a0.f1, a0.f2, a0.f3, (⟨(), (), a0.f4.f2⟩ : T_atomic_Int64), a0.f5, a0.f6, a0.f7, a0.f8, a0.f9⟩ : T_journal_Journal)) (Wd.segs (ss := [[(p0, .cells #[.pointer (some ⟨p0_0, 0, none⟩), .int .i64 a0.f1, .int .i64 a0.f2, .int .i64 a0.f3, .int .i64 a0.f4.f2, .string a0.f5, .slice A4462 a0.f6.length c4463, .int .i64 a0.f7, .bool a0.f8, .bool a0.f9] 57 (0, 0))], U0_0, F]) (bt := bs) (m := [⟨9, 1, .slice A4462 a0.f6.length c4463, a0.f6.length, encs encS a0.f6⟩]) (ot := os) [[(p0, .cells #[.pointer (some ⟨p0_0, 0, none⟩), .int .i64 a0.f1, .int .i64 a0.f2, .int .i64 a0.f3, .int .i64 a0.f4.f2, .string a0.f5, .slice A4462 a0.f6.length c4463, .int .i64 a0.f7, .bool a0.f8, .bool a0.f9] 57 (0, 0))], U0_0, F] [⟨9, 1, .slice A4462 a0.f6.length c4463, a0.f6.length, encs encS a0.f6⟩] HW [0, 1, 2] [] [0] KR KR (by decide) KR)
    replace HW := Wd.segs (ss := [U4468, U0_0, F]) (bt := bs) (m := []) (ot := os) [U4468, U0_0, F] [] HW [0, 1, 2] [] [] KR KR (by decide) KR
    replace HW : Wd w W4454 (U4468 ++ (U0_0 ++ (F ++ bs))) (os) := HW
    obtain rfl := Option.some.inj h
    exact finv ha _ _ rfl (.tmp (v := .int .i64 41) KR .nil) (.int .i64 41) rfl ⟨U4468, U0_0, rfl, hU4469, hU0_0, (Wd.segs (ss := [U4468, U0_0, F]) (bt := bs) (m := []) (ot := os) [U4468, U0_0, F] [] HW [0, 1, 2] [] [] KR KR (by decide) KR)⟩
  · skip
    replace h := ite_neg' h hp4465
    refine condF ha KR KR (t := a0.f9) (bool_f hp4465) ?_
    refine wp_seq_k (fun K4470 hK4471 => ?_)
    refine wp_region_lit ?_
    refine stepp ha 20 (.string a1) KR KR ?_; clear ha a; intro a ha
    refine stepp ha 21 (.int .i64 (a1.size : Int)) KR KR ?_; clear ha a; intro a ha
    refine stepp ha 22 (.bool (decide ((a1.size : Int) > 65536))) KR KR ?_; clear ha a; intro a ha
    refine stepp ha 19 (.bool (decide ((a1.size : Int) > 65536))) KR KR ?_; clear ha a; intro a ha
    refine endl ?_
    refine thenN (hK4471 _ _ ?_); clear hK4471
    by_cases hp4472 : (a1.size : Int) > 65536
    · skip
      replace h := ite_pos' h hp4472
      refine condT ha KR KR (t := decide ((a1.size : Int) > 65536)) (decide_eq_true hp4472) ?_
      refine wp_seq_k (fun K4473 hK4474 => ?_)
      refine wp_region_lit ?_
      refine stepp ha 4 (.int .i64 2) KR KR ?_; clear ha a; intro a ha
      refine endl ?_
      refine thenN (hK4474 _ _ ?_); clear hK4474
      refine wp_ret ?_
      refine blkR ?_
      refine thenR ?_
      obtain ⟨U4475, hU4476, HW⟩ := T_journal_Journal.fold (x := (⟨(), a0.f1, a0.f2, a0.f3, (⟨(), (), a0.f4.f2⟩ : T_atomic_Int64), a0.f5, a0.f6, a0.f7, a0.f8, a0.f9⟩ : T_journal_Journal)) (Wd.segs (ss := [[(p0, .cells #[.pointer (some ⟨p0_0, 0, none⟩), .int .i64 a0.f1, .int .i64 a0.f2, .int .i64 a0.f3, .int .i64 a0.f4.f2, .string a0.f5, .slice A4462 a0.f6.length c4463, .int .i64 a0.f7, .bool a0.f8, .bool a0.f9] 57 (0, 0))], U0_0, F]) (bt := bs) (m := [⟨9, 1, .slice A4462 a0.f6.length c4463, a0.f6.length, encs encS a0.f6⟩]) (ot := os) [[(p0, .cells #[.pointer (some ⟨p0_0, 0, none⟩), .int .i64 a0.f1, .int .i64 a0.f2, .int .i64 a0.f3, .int .i64 a0.f4.f2, .string a0.f5, .slice A4462 a0.f6.length c4463, .int .i64 a0.f7, .bool a0.f8, .bool a0.f9] 57 (0, 0))], U0_0, F] [⟨9, 1, .slice A4462 a0.f6.length c4463, a0.f6.length, encs encS a0.f6⟩] HW [0, 1, 2] [] [0] KR KR (by decide) KR)
      replace HW := Wd.segs (ss := [U4475, U0_0, F]) (bt := bs) (m := []) (ot := os) [U4475, U0_0, F] [] HW [0, 1, 2] [] [] KR KR (by decide) KR
      replace HW : Wd w W4454 (U4475 ++ (U0_0 ++ (F ++ bs))) (os) := HW
      obtain rfl := Option.some.inj h
      exact finv ha _ _ rfl (.tmp (v := .int .i64 2) KR .nil) (.int .i64 2) rfl ⟨U4475, U0_0, rfl, hU4476, hU0_0, (Wd.segs (ss := [U4475, U0_0, F]) (bt := bs) (m := []) (ot := os) [U4475, U0_0, F] [] HW [0, 1, 2] [] [] KR KR (by decide) KR)⟩
    · skip
      replace h := ite_neg' h hp4472
      refine condF ha KR KR (t := decide ((a1.size : Int) > 65536)) (decide_eq_false hp4472) ?_
      refine wp_seq_k (fun K4477 hK4478 => ?_)
      refine wp_region_lit ?_
      refine stepp ha 24 (.int .i64 t4452) KR KR ?_; clear ha a; intro a ha
      refine stepp ha 25 (.pointer (some ⟨p0, 0, none⟩)) KR KR ?_; clear ha a; intro a ha
      refine stepp ha 26 (.pointer (some ⟨p0, 0, none⟩)) KR KR ?_; clear ha a; intro a ha
      refine stepp ha 27 (.pointer (some ⟨p0, 2, none⟩)) KR KR ?_; clear ha a; intro a ha
      refine stepl ha 28 (HW.ca (i := 0) (b := p0) (C := #[.pointer (some ⟨p0_0, 0, none⟩), .int .i64 a0.f1, .int .i64 a0.f2, .int .i64 a0.f3, .int .i64 a0.f4.f2, .string a0.f5, .slice A4462 a0.f6.length c4463, .int .i64 a0.f7, .bool a0.f8, .bool a0.f9]) (T := 57) (fr := (0, 0)) KR) 3 2 (.tmp 27) (.int .i64 a0.f2) rfl KR KR KR ?_; clear ha a; intro a ha
      refine stepp ha 29 (.bool (decide (t4452 > a0.f2))) KR KR ?_; clear ha a; intro a ha
      refine stepp ha 23 (.bool (decide (t4452 > a0.f2))) KR KR ?_; clear ha a; intro a ha
      refine endl ?_
      refine thenN (hK4478 _ _ ?_); clear hK4478
      by_cases hp4479 : t4452 > a0.f2
      · skip
        replace h := ite_pos' h hp4479
        refine condT ha KR KR (t := decide (t4452 > a0.f2)) (decide_eq_true hp4479) ?_
        refine wp_seq_k (fun K4480 hK4481 => ?_)
        refine wp_region_lit ?_
        refine stepp ha 4 (.int .i64 60) KR KR ?_; clear ha a; intro a ha
        refine endl ?_
        refine thenN (hK4481 _ _ ?_); clear hK4481
        refine wp_ret ?_
        refine blkR ?_
        refine thenR ?_
        obtain ⟨U4482, hU4483, HW⟩ := T_journal_Journal.fold (x := (⟨(), a0.f1, a0.f2, a0.f3, (⟨(), (), a0.f4.f2⟩ : T_atomic_Int64), a0.f5, a0.f6, a0.f7, a0.f8, a0.f9⟩ : T_journal_Journal)) (Wd.segs (ss := [[(p0, .cells #[.pointer (some ⟨p0_0, 0, none⟩), .int .i64 a0.f1, .int .i64 a0.f2, .int .i64 a0.f3, .int .i64 a0.f4.f2, .string a0.f5, .slice A4462 a0.f6.length c4463, .int .i64 a0.f7, .bool a0.f8, .bool a0.f9] 57 (0, 0))], U0_0, F]) (bt := bs) (m := [⟨9, 1, .slice A4462 a0.f6.length c4463, a0.f6.length, encs encS a0.f6⟩]) (ot := os) [[(p0, .cells #[.pointer (some ⟨p0_0, 0, none⟩), .int .i64 a0.f1, .int .i64 a0.f2, .int .i64 a0.f3, .int .i64 a0.f4.f2, .string a0.f5, .slice A4462 a0.f6.length c4463, .int .i64 a0.f7, .bool a0.f8, .bool a0.f9] 57 (0, 0))], U0_0, F] [⟨9, 1, .slice A4462 a0.f6.length c4463, a0.f6.length, encs encS a0.f6⟩] HW [0, 1, 2] [] [0] KR KR (by decide) KR)
        replace HW := Wd.segs (ss := [U4482, U0_0, F]) (bt := bs) (m := []) (ot := os) [U4482, U0_0, F] [] HW [0, 1, 2] [] [] KR KR (by decide) KR
        replace HW : Wd w W4454 (U4482 ++ (U0_0 ++ (F ++ bs))) (os) := HW
        obtain rfl := Option.some.inj h
        exact finv ha _ _ rfl (.tmp (v := .int .i64 60) KR .nil) (.int .i64 60) rfl ⟨U4482, U0_0, rfl, hU4483, hU0_0, (Wd.segs (ss := [U4482, U0_0, F]) (bt := bs) (m := []) (ot := os) [U4482, U0_0, F] [] HW [0, 1, 2] [] [] KR KR (by decide) KR)⟩
      · skip
        replace h := ite_neg' h hp4479
        refine condF ha KR KR (t := decide (t4452 > a0.f2)) (decide_eq_false hp4479) ?_
        refine wp_skip ?_
        refine blkN ?_
        refine thenN (hK4457 _ _ ?_); clear hK4457
        refine wp_seq_k (fun K4484 hK4485 => ?_)
        refine cutn (fun a W4514 => ∃ (x4508 : T_journal_Journal), ∃ (U4509 : Blks), ∃ (x4511 : T_dev_Dev), ∃ (U4512 : Blks), journal_Journal_Checkpoint.j0 K a1 t4452 x4508 x4511 = some r ∧ Has 69 [(0, .pointer (some ⟨p0, 0, none⟩)), (1, .string a1), (5, .int .i64 t4452)] a ∧ Wd w W4514 (U4509 ++ (U4512 ++ (F ++ bs))) (os) ∧ T_journal_Journal.At p0 p0_0 x4508 U4509 ∧ T_dev_Dev.At p0_0  x4511 U4512) ?_ ?_
        · skip
          refine wp_seq_k (fun K4486 hK4487 => ?_)
          refine wp_region_lit ?_
          refine stepp ha 30 (.pointer (some ⟨p0, 0, none⟩)) KR KR ?_; clear ha a; intro a ha
          refine stepp ha 31 (.pointer (some ⟨p0, 0, none⟩)) KR KR ?_; clear ha a; intro a ha
          refine stepp ha 32 (.pointer (some ⟨p0, 8, none⟩)) KR KR ?_; clear ha a; intro a ha
          refine stepl ha 33 (HW.ca (i := 0) (b := p0) (C := #[.pointer (some ⟨p0_0, 0, none⟩), .int .i64 a0.f1, .int .i64 a0.f2, .int .i64 a0.f3, .int .i64 a0.f4.f2, .string a0.f5, .slice A4462 a0.f6.length c4463, .int .i64 a0.f7, .bool a0.f8, .bool a0.f9]) (T := 57) (fr := (0, 0)) KR) 4 8 (.tmp 32) (.bool a0.f8) rfl KR KR KR ?_; clear ha a; intro a ha
          refine endl ?_
          refine thenN (hK4487 _ _ ?_); clear hK4487
          by_cases hp4488 : a0.f8 = true
          · skip
            replace h := ite_pos' h hp4488
            refine condT ha KR KR (t := a0.f8) (hp4488) ?_
            refine wp_seq_k (fun K4489 hK4490 => ?_)
            refine wp_region_lit ?_
            refine stepp ha 34 (.pointer (some ⟨p0, 0, none⟩)) KR KR ?_; clear ha a; intro a ha
            obtain ⟨U4491, hU4492, HW⟩ := T_journal_Journal.fold (x := (⟨(), a0.f1, a0.f2, a0.f3, (⟨(), (), a0.f4.f2⟩ : T_atomic_Int64), a0.f5, a0.f6, a0.f7, a0.f8, a0.f9⟩ : T_journal_Journal)) (Wd.segs (ss := [[(p0, .cells #[.pointer (some ⟨p0_0, 0, none⟩), .int .i64 a0.f1, .int .i64 a0.f2, .int .i64 a0.f3, .int .i64 a0.f4.f2, .string a0.f5, .slice A4462 a0.f6.length c4463, .int .i64 a0.f7, .bool a0.f8, .bool a0.f9] 57 (0, 0))], U0_0, F]) (bt := bs) (m := [⟨9, 1, .slice A4462 a0.f6.length c4463, a0.f6.length, encs encS a0.f6⟩]) (ot := os) [[(p0, .cells #[.pointer (some ⟨p0_0, 0, none⟩), .int .i64 a0.f1, .int .i64 a0.f2, .int .i64 a0.f3, .int .i64 a0.f4.f2, .string a0.f5, .slice A4462 a0.f6.length c4463, .int .i64 a0.f7, .bool a0.f8, .bool a0.f9] 57 (0, 0))], U0_0, F] [⟨9, 1, .slice A4462 a0.f6.length c4463, a0.f6.length, encs encS a0.f6⟩] HW [0, 1, 2] [] [0] KR KR (by decide) KR)
            replace HW := Wd.segs (ss := [U4491, U0_0, F]) (bt := bs) (m := []) (ot := os) [U4491, U0_0, F] [] HW [0, 1, 2] [] [] KR KR (by decide) KR
            replace HW : Wd w W4454 (U4491 ++ (U0_0 ++ (F ++ bs))) (os) := HW
            obtain ⟨t4493, ht4494, h_⟩ := bind_some' h; clear h; have h := h_; clear h_
            refine stepc ha 35 KR KR (journal_Journal_flush.calls K (⟨(), a0.f1, a0.f2, a0.f3, (⟨(), (), a0.f4.f2⟩ : T_atomic_Int64), a0.f5, a0.f6, a0.f7, a0.f8, a0.f9⟩ : T_journal_Journal) a0_0 p0 U4491 p0_0 U0_0 t4493 _ _ F bs (os) hU4492 hU0_0 (Wd.segs (ss := [U4491, U0_0, F]) (bt := bs) (m := []) (ot := os) [U4491, U0_0, F] [] HW [0, 1, 2] [] [] KR KR (by decide) KR) ht4494) ?_; clear ha a; rintro e W4497 ⟨U4495, U4496, rfl, hU4492n, hU0_0n, HX4498⟩
            refine ⟨_, rfl, ?_⟩; intro a ha; clear HW
            clear hU4492; have hU4492 := hU4492n; clear hU4492n
            clear hU0_0; have hU0_0 := hU0_0n; clear hU0_0n
            have HW : Wd w W4497 (U4495 ++ (U4496 ++ (F ++ bs))) (os) := Wd.segs (ss := [U4495, U4496, F]) (bt := bs) (m := []) (ot := os) [U4495, U4496, F] [] HX4498 [0, 1, 2] [] [] KR KR (by decide) KR; clear HX4498
            refine stepp ha 6 (.int .i64 t4493.1) KR KR ?_; clear ha a; intro a ha
            refine endl ?_
            refine thenN (hK4490 _ _ ?_); clear hK4490
            refine wp_seq_k (fun K4501 hK4502 => ?_)
            refine wp_region_lit ?_
            refine stepp ha 36 (.int .i64 t4493.1) KR KR ?_; clear ha a; intro a ha
            refine stepp ha 37 (.bool (t4493.1 != 0)) KR KR ?_; clear ha a; intro a ha
            refine endl ?_
            refine thenN (hK4502 _ _ ?_); clear hK4502
            by_cases hp4503 : t4493.1 = 0
            · skip
              replace h := ite_pos' h hp4503
              refine condF ha KR KR (t := (t4493.1 != 0)) (ineq_f hp4503) ?_
              refine wp_skip ?_
              exact thenN ⟨t4493.2.1, U4495, t4493.2.2, U4496, h, ha.sub (subs_cons KR (subs_cons KR (subs_cons KR (subs_nil _)))), (Wd.segs (ss := [U4495, U4496, F]) (bt := bs) (m := []) (ot := os) [U4495, U4496, F] [] HW [0, 1, 2] [] [] KR KR (by decide) KR), hU4492, hU0_0⟩
            · skip
              replace h := ite_neg' h hp4503
              refine condT ha KR KR (t := (t4493.1 != 0)) (ineq_t hp4503) ?_
              refine wp_seq_k (fun K4504 hK4505 => ?_)
              refine wp_region_lit ?_
              refine stepp ha 38 (.int .i64 t4493.1) KR KR ?_; clear ha a; intro a ha
              refine stepp ha 4 (.int .i64 t4493.1) KR KR ?_; clear ha a; intro a ha
              refine endl ?_
              refine thenN (hK4505 _ _ ?_); clear hK4505
              refine wp_ret ?_
              refine thenR ?_
              obtain rfl := Option.some.inj h
              exact finv ha _ _ rfl (.tmp (v := .int .i64 t4493.1) KR .nil) (.int .i64 t4493.1) rfl ⟨U4495, U4496, rfl, hU4492, hU0_0, (Wd.segs (ss := [U4495, U4496, F]) (bt := bs) (m := []) (ot := os) [U4495, U4496, F] [] HW [0, 1, 2] [] [] KR KR (by decide) KR)⟩
          · skip
            replace h := ite_neg' h hp4488
            refine condF ha KR KR (t := a0.f8) (bool_f hp4488) ?_
            refine wp_skip ?_
            obtain ⟨U4506, hU4507, HW⟩ := T_journal_Journal.fold (x := (⟨(), a0.f1, a0.f2, a0.f3, (⟨(), (), a0.f4.f2⟩ : T_atomic_Int64), a0.f5, a0.f6, a0.f7, a0.f8, a0.f9⟩ : T_journal_Journal)) (Wd.segs (ss := [[(p0, .cells #[.pointer (some ⟨p0_0, 0, none⟩), .int .i64 a0.f1, .int .i64 a0.f2, .int .i64 a0.f3, .int .i64 a0.f4.f2, .string a0.f5, .slice A4462 a0.f6.length c4463, .int .i64 a0.f7, .bool a0.f8, .bool a0.f9] 57 (0, 0))], U0_0, F]) (bt := bs) (m := [⟨9, 1, .slice A4462 a0.f6.length c4463, a0.f6.length, encs encS a0.f6⟩]) (ot := os) [[(p0, .cells #[.pointer (some ⟨p0_0, 0, none⟩), .int .i64 a0.f1, .int .i64 a0.f2, .int .i64 a0.f3, .int .i64 a0.f4.f2, .string a0.f5, .slice A4462 a0.f6.length c4463, .int .i64 a0.f7, .bool a0.f8, .bool a0.f9] 57 (0, 0))], U0_0, F] [⟨9, 1, .slice A4462 a0.f6.length c4463, a0.f6.length, encs encS a0.f6⟩] HW [0, 1, 2] [] [0] KR KR (by decide) KR)
            replace HW := Wd.segs (ss := [U4506, U0_0, F]) (bt := bs) (m := []) (ot := os) [U4506, U0_0, F] [] HW [0, 1, 2] [] [] KR KR (by decide) KR
            replace HW : Wd w W4454 (U4506 ++ (U0_0 ++ (F ++ bs))) (os) := HW
            exact thenN ⟨(⟨(), a0.f1, a0.f2, a0.f3, (⟨(), (), a0.f4.f2⟩ : T_atomic_Int64), a0.f5, a0.f6, a0.f7, a0.f8, a0.f9⟩ : T_journal_Journal), U4506, a0_0, U0_0, h, ha.sub (subs_cons KR (subs_cons KR (subs_cons KR (subs_nil _)))), (Wd.segs (ss := [U4506, U0_0, F]) (bt := bs) (m := []) (ot := os) [U4506, U0_0, F] [] HW [0, 1, 2] [] [] KR KR (by decide) KR), hU4507, hU0_0⟩
        · skip
          intro a W4514 hJ
          obtain ⟨x4508, U4509, x4511, U4512, h, ha, HW, hU4510, hU4513⟩ := hJ
          replace h : journal_Journal_Checkpoint.j0 K a1 t4452 x4508 x4511 = some r := h
          unfold journal_Journal_Checkpoint.j0 at h
          refine hK4485 _ _ ?_; clear hK4485
          refine wp_seq_k (fun K4515 hK4516 => ?_)
          refine wp_seq_k (fun K4517 hK4518 => ?_)
          refine wp_region_lit ?_
          refine stepp ha 39 (.pointer (some ⟨p0, 0, none⟩)) KR KR ?_; clear ha a; intro a ha
          refine stepp ha 40 (.pointer (some ⟨p0, 0, none⟩)) KR KR ?_; clear ha a; intro a ha
          refine stepp ha 41 (.pointer (some ⟨p0, 0, none⟩)) KR KR ?_; clear ha a; intro a ha
          refine stepp ha 42 (.pointer (some ⟨p0, 3, none⟩)) KR KR ?_; clear ha a; intro a ha
          obtain ⟨A4519, c4520, HW⟩ := T_journal_Journal.unfold hU4510 (Wd.segs (ss := [U4509, U4512, F]) (bt := bs) (m := []) (ot := os) [U4509, U4512, F] [] HW [0, 1, 2] [] [] KR KR (by decide) KR)
          replace HW : Wd w W4514 ((p0, .cells #[.pointer (some ⟨p0_0, 0, none⟩), .int .i64 x4508.f1, .int .i64 x4508.f2, .int .i64 x4508.f3, .int .i64 x4508.f4.f2, .string x4508.f5, .slice A4519 x4508.f6.length c4520, .int .i64 x4508.f7, .bool x4508.f8, .bool x4508.f9] 57 (0, 0)) :: U4512 ++ (F ++ bs)) (⟨9, 1, .slice A4519 x4508.f6.length c4520, x4508.f6.length, encs encS x4508.f6⟩ :: os) := HW; clear hU4510
          refine stepl ha 43 (HW.ca (i := 0) (b := p0) (C := #[.pointer (some ⟨p0_0, 0, none⟩), .int .i64 x4508.f1, .int .i64 x4508.f2, .int .i64 x4508.f3, .int .i64 x4508.f4.f2, .string x4508.f5, .slice A4519 x4508.f6.length c4520, .int .i64 x4508.f7, .bool x4508.f8, .bool x4508.f9]) (T := 57) (fr := (0, 0)) KR) 3 3 (.tmp 42) (.int .i64 x4508.f3) rfl KR KR KR ?_; clear ha a; intro a ha
          refine stepp ha 44 (.int .i64 (IntKind.wrap .i64 (1 - x4508.f3))) KR KR ?_; clear ha a; intro a ha
          refine stepp ha 45 (.string a1) KR KR ?_; clear ha a; intro a ha
          obtain ⟨U4522, hU4523, HW⟩ := T_journal_Journal.fold (x := (⟨(), x4508.f1, x4508.f2, x4508.f3, (⟨(), (), x4508.f4.f2⟩ : T_atomic_Int64), x4508.f5, x4508.f6, x4508.f7, x4508.f8, x4508.f9⟩ : T_journal_Journal)) (Wd.segs (ss := [[(p0, .cells #[.pointer (some ⟨p0_0, 0, none⟩), .int .i64 x4508.f1, .int .i64 x4508.f2, .int .i64 x4508.f3, .int .i64 x4508.f4.f2, .string x4508.f5, .slice A4519 x4508.f6.length c4520, .int .i64 x4508.f7, .bool x4508.f8, .bool x4508.f9] 57 (0, 0))], U4512, F]) (bt := bs) (m := [⟨9, 1, .slice A4519 x4508.f6.length c4520, x4508.f6.length, encs encS x4508.f6⟩]) (ot := os) [[(p0, .cells #[.pointer (some ⟨p0_0, 0, none⟩), .int .i64 x4508.f1, .int .i64 x4508.f2, .int .i64 x4508.f3, .int .i64 x4508.f4.f2, .string x4508.f5, .slice A4519 x4508.f6.length c4520, .int .i64 x4508.f7, .bool x4508.f8, .bool x4508.f9] 57 (0, 0))], U4512, F] [⟨9, 1, .slice A4519 x4508.f6.length c4520, x4508.f6.length, encs encS x4508.f6⟩] HW [0, 1, 2] [] [0] KR KR (by decide) KR)
          replace HW := Wd.segs (ss := [U4522, U4512, F]) (bt := bs) (m := []) (ot := os) [U4522, U4512, F] [] HW [0, 1, 2] [] [] KR KR (by decide) KR
          replace HW : Wd w W4514 (U4522 ++ (U4512 ++ (F ++ bs))) (os) := HW
          obtain ⟨t4524, ht4525, h_⟩ := bind_some' h; clear h; have h := h_; clear h_
          refine stepc ha 46 KR KR (journal_Journal_puts.calls K (⟨(), x4508.f1, x4508.f2, x4508.f3, (⟨(), (), x4508.f4.f2⟩ : T_atomic_Int64), x4508.f5, x4508.f6, x4508.f7, x4508.f8, x4508.f9⟩ : T_journal_Journal) x4511 (IntKind.wrap .i64 (1 - x4508.f3)) 0 a1 1 p0 U4522 p0_0 U4512 t4524 _ _ F bs (os) hG1 hU4523 hU4513 (Wd.segs (ss := [U4522, U4512, F]) (bt := bs) (m := []) (ot := os) [U4522, U4512, F] [] HW [0, 1, 2] [] [] KR KR (by decide) KR) ht4525) ?_; clear ha a; rintro e W4528 ⟨U4526, U4527, rfl, hU4523n, hU4513n, HX4529⟩
          refine ⟨_, rfl, ?_⟩; intro a ha; clear HW
          clear hU4523; have hU4523 := hU4523n; clear hU4523n
          clear hU4513; have hU4513 := hU4513n; clear hU4513n
          have HW : Wd w W4528 (U4526 ++ (U4527 ++ (F ++ bs))) (os) := Wd.segs (ss := [U4526, U4527, F]) (bt := bs) (m := []) (ot := os) [U4526, U4527, F] [] HX4529 [0, 1, 2] [] [] KR KR (by decide) KR; clear HX4529
          refine stepp ha 7 (.int .i64 t4524.1) KR KR ?_; clear ha a; intro a ha
          refine endl ?_
          refine thenN (hK4518 _ _ ?_); clear hK4518
          refine wp_seq_k (fun K4532 hK4533 => ?_)
          refine wp_region_lit ?_
          refine stepp ha 47 (.int .i64 t4524.1) KR KR ?_; clear ha a; intro a ha
          refine stepp ha 48 (.bool (t4524.1 != 0)) KR KR ?_; clear ha a; intro a ha
          refine endl ?_
          refine thenN (hK4533 _ _ ?_); clear hK4533
          by_cases hp4534 : t4524.1 = 0
          · skip
            replace h := ite_pos' h hp4534
            refine condF ha KR KR (t := (t4524.1 != 0)) (ineq_f hp4534) ?_
            refine wp_skip ?_
            refine thenN (hK4516 _ _ ?_); clear hK4516
            refine wp_seq_k (fun K4537 hK4538 => ?_)
            refine wp_region_lit ?_
            refine stepp ha 50 (.pointer (some ⟨p0, 0, none⟩)) KR KR ?_; clear ha a; intro a ha
            refine stepp ha 51 (.pointer (some ⟨p0, 0, none⟩)) KR KR ?_; clear ha a; intro a ha
            refine stepp ha 52 (.pointer (some ⟨p0, 0, none⟩)) KR KR ?_; clear ha a; intro a ha
            refine stepp ha 53 (.pointer (some ⟨p0, 0, none⟩)) KR KR ?_; clear ha a; intro a ha
            refine stepp ha 54 (.pointer (some ⟨p0, 0, none⟩)) KR KR ?_; clear ha a; intro a ha
            refine stepp ha 55 (.pointer (some ⟨p0, 0, none⟩)) KR KR ?_; clear ha a; intro a ha
            refine stepp ha 56 (.pointer (some ⟨p0, 3, none⟩)) KR KR ?_; clear ha a; intro a ha
            obtain ⟨A4539, c4540, HW⟩ := T_journal_Journal.unfold hU4523 (Wd.segs (ss := [U4526, U4527, F]) (bt := bs) (m := []) (ot := os) [U4526, U4527, F] [] HW [0, 1, 2] [] [] KR KR (by decide) KR)
            replace HW : Wd w W4528 ((p0, .cells #[.pointer (some ⟨p0_0, 0, none⟩), .int .i64 t4524.2.1.f1, .int .i64 t4524.2.1.f2, .int .i64 t4524.2.1.f3, .int .i64 t4524.2.1.f4.f2, .string t4524.2.1.f5, .slice A4539 t4524.2.1.f6.length c4540, .int .i64 t4524.2.1.f7, .bool t4524.2.1.f8, .bool t4524.2.1.f9] 57 (0, 0)) :: U4527 ++ (F ++ bs)) (⟨9, 1, .slice A4539 t4524.2.1.f6.length c4540, t4524.2.1.f6.length, encs encS t4524.2.1.f6⟩ :: os) := HW; clear hU4523
            refine stepl ha 57 (HW.ca (i := 0) (b := p0) (C := #[.pointer (some ⟨p0_0, 0, none⟩), .int .i64 t4524.2.1.f1, .int .i64 t4524.2.1.f2, .int .i64 t4524.2.1.f3, .int .i64 t4524.2.1.f4.f2, .string t4524.2.1.f5, .slice A4539 t4524.2.1.f6.length c4540, .int .i64 t4524.2.1.f7, .bool t4524.2.1.f8, .bool t4524.2.1.f9]) (T := 57) (fr := (0, 0)) KR) 3 3 (.tmp 56) (.int .i64 t4524.2.1.f3) rfl KR KR KR ?_; clear ha a; intro a ha
            refine stepp ha 58 (.int .i64 (IntKind.wrap .i64 (1 - t4524.2.1.f3))) KR KR ?_; clear ha a; intro a ha
            refine stepp ha 59 (.string a1) KR KR ?_; clear ha a; intro a ha
            refine stepp ha 60 (.int .i64 t4452) KR KR ?_; clear ha a; intro a ha
            refine stepp ha 61 (.pointer (some ⟨p0, 0, none⟩)) KR KR ?_; clear ha a; intro a ha
            refine stepp ha 62 (.pointer (some ⟨p0, 3, none⟩)) KR KR ?_; clear ha a; intro a ha
            refine stepst ha HW 0 (b := p0) (C := #[.pointer (some ⟨p0_0, 0, none⟩), .int .i64 t4524.2.1.f1, .int .i64 t4524.2.1.f2, .int .i64 t4524.2.1.f3, .int .i64 t4524.2.1.f4.f2, .string t4524.2.1.f5, .slice A4539 t4524.2.1.f6.length c4540, .int .i64 t4524.2.1.f7, .bool t4524.2.1.f8, .bool t4524.2.1.f9]) (T := 57) KR 3 3 (.tmp 62) (.tmp 58) (.int .i64 (IntKind.wrap .i64 (1 - t4524.2.1.f3))) #[.pointer (some ⟨p0_0, 0, none⟩), .int .i64 t4524.2.1.f1, .int .i64 t4524.2.1.f2, .int .i64 (IntKind.wrap .i64 (1 - t4524.2.1.f3)), .int .i64 t4524.2.1.f4.f2, .string t4524.2.1.f5, .slice A4539 t4524.2.1.f6.length c4540, .int .i64 t4524.2.1.f7, .bool t4524.2.1.f8, .bool t4524.2.1.f9] rfl KR KR KR KR KR KR KR ?_; clear ha HW a; intro a W4542 HW ha
            refine stepp ha 63 (.pointer (some ⟨p0, 0, none⟩)) KR KR ?_; clear ha a; intro a ha
            refine stepp ha 64 (.pointer (some ⟨p0, 5, none⟩)) KR KR ?_; clear ha a; intro a ha
            refine stepst ha HW 0 (b := p0) (C := #[.pointer (some ⟨p0_0, 0, none⟩), .int .i64 t4524.2.1.f1, .int .i64 t4524.2.1.f2, .int .i64 (IntKind.wrap .i64 (1 - t4524.2.1.f3)), .int .i64 t4524.2.1.f4.f2, .string t4524.2.1.f5, .slice A4539 t4524.2.1.f6.length c4540, .int .i64 t4524.2.1.f7, .bool t4524.2.1.f8, .bool t4524.2.1.f9]) (T := 57) KR 9 5 (.tmp 64) (.tmp 59) (.string a1) #[.pointer (some ⟨p0_0, 0, none⟩), .int .i64 t4524.2.1.f1, .int .i64 t4524.2.1.f2, .int .i64 (IntKind.wrap .i64 (1 - t4524.2.1.f3)), .int .i64 t4524.2.1.f4.f2, .string a1, .slice A4539 t4524.2.1.f6.length c4540, .int .i64 t4524.2.1.f7, .bool t4524.2.1.f8, .bool t4524.2.1.f9] rfl KR KR KR KR KR KR KR ?_; clear ha HW a; intro a W4543 HW ha
            refine stepp ha 65 (.pointer (some ⟨p0, 0, none⟩)) KR KR ?_; clear ha a; intro a ha
            refine stepp ha 66 (.pointer (some ⟨p0, 6, none⟩)) KR KR ?_; clear ha a; intro a ha
            refine stepst ha HW 0 (b := p0) (C := #[.pointer (some ⟨p0_0, 0, none⟩), .int .i64 t4524.2.1.f1, .int .i64 t4524.2.1.f2, .int .i64 (IntKind.wrap .i64 (1 - t4524.2.1.f3)), .int .i64 t4524.2.1.f4.f2, .string a1, .slice A4539 t4524.2.1.f6.length c4540, .int .i64 t4524.2.1.f7, .bool t4524.2.1.f8, .bool t4524.2.1.f9]) (T := 57) KR 22 6 (.tmp 66) (.const (.slice none 0 0)) (.slice none 0 0) #[.pointer (some ⟨p0_0, 0, none⟩), .int .i64 t4524.2.1.f1, .int .i64 t4524.2.1.f2, .int .i64 (IntKind.wrap .i64 (1 - t4524.2.1.f3)), .int .i64 t4524.2.1.f4.f2, .string a1, .slice none 0 0, .int .i64 t4524.2.1.f7, .bool t4524.2.1.f8, .bool t4524.2.1.f9] rfl KR KR KR KR KR KR KR ?_; clear ha HW a; intro a W4544 HW ha
            refine stepp ha 67 (.pointer (some ⟨p0, 0, none⟩)) KR KR ?_; clear ha a; intro a ha
            refine stepp ha 68 (.pointer (some ⟨p0, 7, none⟩)) KR KR ?_; clear ha a; intro a ha
            refine stepst ha HW 0 (b := p0) (C := #[.pointer (some ⟨p0_0, 0, none⟩), .int .i64 t4524.2.1.f1, .int .i64 t4524.2.1.f2, .int .i64 (IntKind.wrap .i64 (1 - t4524.2.1.f3)), .int .i64 t4524.2.1.f4.f2, .string a1, .slice none 0 0, .int .i64 t4524.2.1.f7, .bool t4524.2.1.f8, .bool t4524.2.1.f9]) (T := 57) KR 3 7 (.tmp 68) (.tmp 60) (.int .i64 t4452) #[.pointer (some ⟨p0_0, 0, none⟩), .int .i64 t4524.2.1.f1, .int .i64 t4524.2.1.f2, .int .i64 (IntKind.wrap .i64 (1 - t4524.2.1.f3)), .int .i64 t4524.2.1.f4.f2, .string a1, .slice none 0 0, .int .i64 t4452, .bool t4524.2.1.f8, .bool t4524.2.1.f9] rfl KR KR KR KR KR KR KR ?_; clear ha HW a; intro a W4545 HW ha
            refine endl ?_
            refine thenN (hK4538 _ _ ?_); clear hK4538
            refine wp_seq_k (fun K4546 hK4547 => ?_)
            refine wp_region_lit ?_
            refine stepp ha 4 (.int .i64 0) KR KR ?_; clear ha a; intro a ha
            refine endl ?_
            refine thenN (hK4547 _ _ ?_); clear hK4547
            refine wp_ret ?_
            replace HW := HW.nilo 9 1
            replace HW : Wd w W4545 ((p0, .cells #[.pointer (some ⟨p0_0, 0, none⟩), .int .i64 t4524.2.1.f1, .int .i64 t4524.2.1.f2, .int .i64 (IntKind.wrap .i64 (1 - t4524.2.1.f3)), .int .i64 t4524.2.1.f4.f2, .string a1, .slice none 0 0, .int .i64 t4452, .bool t4524.2.1.f8, .bool t4524.2.1.f9] 57 (0, 0)) :: U4527 ++ (F ++ bs)) (⟨9, 1, .slice none 0 0, ([] : List ByteArray).length, encs encS ([] : List ByteArray)⟩ :: ⟨9, 1, .slice A4539 t4524.2.1.f6.length c4540, t4524.2.1.f6.length, encs encS t4524.2.1.f6⟩ :: os) := HW
            obtain ⟨U4548, hU4549, HW⟩ := T_journal_Journal.fold (x := (⟨(), t4524.2.1.f1, t4524.2.1.f2, IntKind.wrap .i64 (1 - t4524.2.1.f3), (⟨(), (), t4524.2.1.f4.f2⟩ : T_atomic_Int64), a1, ([] : List ByteArray), t4452, t4524.2.1.f8, t4524.2.1.f9⟩ : T_journal_Journal)) (Wd.segs (ss := [[(p0, .cells #[.pointer (some ⟨p0_0, 0, none⟩), .int .i64 t4524.2.1.f1, .int .i64 t4524.2.1.f2, .int .i64 (IntKind.wrap .i64 (1 - t4524.2.1.f3)), .int .i64 t4524.2.1.f4.f2, .string a1, .slice none 0 0, .int .i64 t4452, .bool t4524.2.1.f8, .bool t4524.2.1.f9] 57 (0, 0))], U4527, F]) (bt := bs) (m := [⟨9, 1, .slice none 0 0, ([] : List ByteArray).length, encs encS ([] : List ByteArray)⟩, ⟨9, 1, .slice A4539 t4524.2.1.f6.length c4540, t4524.2.1.f6.length, encs encS t4524.2.1.f6⟩]) (ot := os) [[(p0, .cells #[.pointer (some ⟨p0_0, 0, none⟩), .int .i64 t4524.2.1.f1, .int .i64 t4524.2.1.f2, .int .i64 (IntKind.wrap .i64 (1 - t4524.2.1.f3)), .int .i64 t4524.2.1.f4.f2, .string a1, .slice none 0 0, .int .i64 t4452, .bool t4524.2.1.f8, .bool t4524.2.1.f9] 57 (0, 0))], U4527, F] [⟨9, 1, .slice none 0 0, ([] : List ByteArray).length, encs encS ([] : List ByteArray)⟩, ⟨9, 1, .slice A4539 t4524.2.1.f6.length c4540, t4524.2.1.f6.length, encs encS t4524.2.1.f6⟩] HW [0, 1, 2] [] [0, 1] KR KR (by decide) KR)
            replace HW := Wd.segs (ss := [U4548, U4527, F]) (bt := bs) (m := [⟨9, 1, .slice A4539 t4524.2.1.f6.length c4540, t4524.2.1.f6.length, encs encS t4524.2.1.f6⟩]) (ot := os) [U4548, U4527, F] [⟨9, 1, .slice A4539 t4524.2.1.f6.length c4540, t4524.2.1.f6.length, encs encS t4524.2.1.f6⟩] HW [0, 1, 2] [] [0] KR KR (by decide) KR
            replace HW : Wd w W4545 (U4548 ++ (U4527 ++ (F ++ bs))) (⟨9, 1, .slice A4539 t4524.2.1.f6.length c4540, t4524.2.1.f6.length, encs encS t4524.2.1.f6⟩ :: os) := HW
            obtain rfl := Option.some.inj h
            exact finv ha _ _ rfl (.tmp (v := .int .i64 0) KR .nil) (.int .i64 0) rfl ⟨U4548, U4527, rfl, hU4549, hU4513, (Wd.segs (ss := [U4548, U4527, F]) (bt := bs) (m := [⟨9, 1, .slice A4539 t4524.2.1.f6.length c4540, t4524.2.1.f6.length, encs encS t4524.2.1.f6⟩]) (ot := os) [U4548, U4527, F] [] HW [0, 1, 2] [] [] KR KR (by decide) KR)⟩
          · skip
            replace h := ite_neg' h hp4534
            refine condT ha KR KR (t := (t4524.1 != 0)) (ineq_t hp4534) ?_
            refine wp_seq_k (fun K4535 hK4536 => ?_)
            refine wp_region_lit ?_
            refine stepp ha 49 (.int .i64 t4524.1) KR KR ?_; clear ha a; intro a ha
            refine stepp ha 4 (.int .i64 t4524.1) KR KR ?_; clear ha a; intro a ha
            refine endl ?_
            refine thenN (hK4536 _ _ ?_); clear hK4536
            refine wp_ret ?_
            refine thenR ?_
            obtain rfl := Option.some.inj h
            exact finv ha _ _ rfl (.tmp (v := .int .i64 t4524.1) KR .nil) (.int .i64 t4524.1) rfl ⟨U4526, U4527, rfl, hU4523, hU4513, (Wd.segs (ss := [U4526, U4527, F]) (bt := bs) (m := []) (ot := os) [U4526, U4527, F] [] HW [0, 1, 2] [] [] KR KR (by decide) KR)⟩
end Go.Proofs.YtokdiacjcbolfaaDoor.F
namespace Go.Proofs.YtokdiacjcbolfaaDoor.F
open Go Go.RowKit Go.Proofs.YtokdiacjcbolfaaDoor.X
set_option linter.unusedVariables false
set_option linter.unusedSimpArgs false
def headgatekeep_Zeros.f (a0 : Int) : Option ByteArray :=
  asrt (0 ≤ a0) (asrt (a0 ≤ 281474976710656) (some (strOfNums (List.replicate (a0 : Int).toNat (0 : Int)))))
set_option maxRecDepth 100000 in
set_option maxHeartbeats 4000000 in
theorem headgatekeep_Zeros.calls (a0 : Int)  (r : ByteArray) (w : World)  (h : headgatekeep_Zeros.f a0 = some r) :
    Calls Tryd.prog 20 #[.int .i64 a0] w (fun e W' => e = .returned (.string r) ∧ Wd w W' [] [] ) := by
  refine sxstart (n := 6) (l := [(0, .int .i64 a0)]) Tryd.func20 rfl rfl (Nat.le_of_ble_eq_true KR) (subsA_cons rfl (subsA_nil _)) ?_
  intro a ha
  have HW := Wd.refl w
  unfold headgatekeep_Zeros.f at h
  refine wp_seq_k (fun K4611 hK4612 => ?_)
  refine wp_region_lit ?_
  refine stepp ha 2 (.string (⟨#[]⟩ : ByteArray)) KR KR ?_; clear ha a; intro a ha
  refine endl ?_
  refine thenN (hK4612 _ _ ?_); clear hK4612
  refine wp_seq_k (fun K4613 hK4614 => ?_)
  refine wp_region_lit ?_
  refine stepp ha 3 (.int .i64 a0) KR KR ?_; clear ha a; intro a ha
  obtain ⟨hA4615, h_⟩ := asrt_some h; clear h; have h := h_; clear h_
  obtain ⟨hA4616, h_⟩ := asrt_some h; clear h; have h := h_; clear h_
  refine stepmk (encIK .u8) (0 : Int) ha HW 4 71 5 (.tmp 3) (.tmp 3) .i64 .i64 a0 (.int .u8 0) 1 rfl KR KR KR KR rfl rfl hA4615 (by have := hA4616; omega) (by have := hA4616; omega) KR ?_; clear ha HW a; intro b4617 a W4618 HW ha
  refine stepbt ha 5 71 9 5 (.tmp 4) (v := .slice (some ⟨b4617, 0, none⟩) (List.replicate (a0 : Int).toNat (0 : Int)).length ((a0 : Int).toNat)) (xs := List.replicate (a0 : Int).toNat (0 : Int)) (HW.rdo (i := 0) (q := ⟨5, 1, .slice (some ⟨b4617, 0, none⟩) (List.replicate (a0 : Int).toNat (0 : Int)).length ((a0 : Int).toNat), (List.replicate (a0 : Int).toNat (0 : Int)).length, encs (encIK .u8) (List.replicate (a0 : Int).toNat (0 : Int))⟩) KR) rfl KR KR KR KR KR ?_; clear ha a; intro a ha
  refine stepp ha 2 (.string (strOfNums (List.replicate (a0 : Int).toNat (0 : Int)))) KR KR ?_; clear ha a; intro a ha
  refine endl ?_
  refine thenN (hK4614 _ _ ?_); clear hK4614
  refine wp_ret ?_
  obtain rfl := Option.some.inj h
  exact finv ha _ _ rfl (.tmp (v := .string (strOfNums (List.replicate (a0 : Int).toNat (0 : Int)))) KR .nil) (.string (strOfNums (List.replicate (a0 : Int).toNat (0 : Int)))) rfl ⟨rfl, HW.pick [] [] (by decide) (by decide) rfl KR⟩
end Go.Proofs.YtokdiacjcbolfaaDoor.F
