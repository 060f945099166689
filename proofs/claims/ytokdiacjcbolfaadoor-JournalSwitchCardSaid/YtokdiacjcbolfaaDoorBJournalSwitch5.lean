import Derived.Test.YtokdiacjcbolfaaDoorBJournalSwitch4
set_option linter.unusedVariables false
set_option linter.unusedSimpArgs false
namespace Go.Proofs.YtokdiacjcbolfaaDoor.F
open Go Go.RowKit Go.Proofs.YtokdiacjcbolfaaDoor.X
set_option linter.unusedVariables false
set_option linter.unusedSimpArgs false
def q0s.f (K : Nat) (a0 : q00) (a0_0 : q04) (a1 : Int) (a2 : Int) (a3 : ByteArray) (a4 : Int) : Option (Int × q00 × q04) :=
 (q2a.f K (IntKind.wrap .u64 (IntKind.wrap .i64 (a0.f4.f2 + 1))) a3).bind fun t1317 => (if t1317.2 = 0 then ((q0v.f (⟨(), a0.f1, a0.f2, a0.f3, (⟨(), (), a0.f4.f2⟩ : q03), a0.f5, a0.f6, a0.f7, a0.f8, a0.f9⟩ : q00) a1 a2).bind fun t1334 => ((q0l.f K a0_0 t1334 t1317.1).bind fun t1338 => ((q0w.f (⟨(), a0.f1, a0.f2, a0.f3, (⟨(), (), a0.f4.f2⟩ : q03), a0.f5, a0.f6, a0.f7, a0.f8, a0.f9⟩ : q00) t1338.2 t1338.1).bind fun t1351 => (if t1351.1 = 0 then ((q0j.f K t1351.2.1 t1351.2.2).bind fun t1368 => (if t1368.1 = 0 then ((q0u.f K (IntKind.wrap .u64 (IntKind.wrap .i64 (a0.f4.f2 + 1))) 8).bind fun t1383 => (asrt (4 + t1383.size ≤ 9223372036854775807) ((q0u.f K (IntKind.wrap .u64 a1) 4).bind fun t1390 => (asrt (((⟨#[72, 71, 74, 67]⟩ : ByteArray) ++ t1383).size + t1390.size ≤ 9223372036854775807) ((q0u.f K (IntKind.wrap .u64 a4) 4).bind fun t1395 => (asrt ((((⟨#[72, 71, 74, 67]⟩ : ByteArray) ++ t1383) ++ t1390).size + t1395.size ≤ 9223372036854775807) ((q1g.f (⟨#[0]⟩ : ByteArray) (IntKind.wrap .i64 ((IntKind.wrap .i64 (512 - (((((⟨#[72, 71, 74, 67]⟩ : ByteArray) ++ t1383) ++ t1390) ++ t1395).size : Int))) - (t1383.size : Int)))).bind fun t1402 => (asrt (t1402.size + t1383.size ≤ 9223372036854775807) (asrt (((((⟨#[72, 71, 74, 67]⟩ : ByteArray) ++ t1383) ++ t1390) ++ t1395).size + (t1402 ++ t1383).size ≤ 9223372036854775807) ((q0l.f K t1368.2.2 (IntKind.wrap .i64 (t1368.2.1.f1 + (Int.tmod (IntKind.wrap .i64 (a0.f4.f2 + 1)) 2))) (((((⟨#[72, 71, 74, 67]⟩ : ByteArray) ++ t1383) ++ t1390) ++ t1395) ++ (t1402 ++ t1383))).bind fun t1415 => ((q0w.f (⟨(), t1368.2.1.f1, t1368.2.1.f2, t1368.2.1.f3, (⟨(), (), t1368.2.1.f4.f2⟩ : q03), t1368.2.1.f5, t1368.2.1.f6, t1368.2.1.f7, t1368.2.1.f8, t1368.2.1.f9⟩ : q00) t1415.2 t1415.1).bind fun t1428 => (if t1428.1 = 0 then (some (0, (⟨(), t1428.2.1.f1, t1428.2.1.f2, t1428.2.1.f3, (⟨(), (), IntKind.wrap .i64 (a0.f4.f2 + 1)⟩ : q03), t1428.2.1.f5, t1428.2.1.f6, t1428.2.1.f7, true, t1428.2.1.f9⟩ : q00), t1428.2.2)) else (some (t1428.1, t1428.2.1, t1428.2.2)))))))))))))) else (some (t1368.1, t1368.2.1, t1368.2.2)))) else (some (t1351.1, t1351.2.1, t1351.2.2)))))) else (some (t1317.2, (⟨(), a0.f1, a0.f2, a0.f3, (⟨(), (), a0.f4.f2⟩ : q03), a0.f5, a0.f6, a0.f7, a0.f8, a0.f9⟩ : q00), a0_0)))
set_option maxRecDepth 100000 in
set_option maxHeartbeats 4000000 in
theorem q0s.calls (K : Nat) (a0 : q00) (a0_0 : q04) (a1 : Int) (a2 : Int) (a3 : ByteArray) (a4 : Int) (p0 : Nat) (U0 : Blks) (p0_0 : Nat) (U0_0 : Blks)  (r : Int × q00 × q04) (w w1 : World) (F bs : Blks) (os : List OwnA) (hG1 : CA w 1 0 (encs (encIK .u32) q0h).toArray) (hU0 : q00.At p0 p0_0 a0 U0) (hU0_0 : q04.At p0_0  a0_0 U0_0) (HW : Wd w w1 (U0 ++ (U0_0 ++ (F ++ bs))) os) (h : q0s.f K a0 a0_0 a1 a2 a3 a4 = some r) :
  Calls Tryd.prog 27 #[.pointer (some ⟨p0, 0, none⟩), .int .i64 a1, .int .i64 a2, .string a3, .int .i64 a4] w1 (fun e W' => ∃ U0' : Blks, ∃ U0_0' : Blks, e = .returned (.int .i64 r.1) ∧ q00.At p0 p0_0 r.2.1 U0' ∧ q04.At p0_0  r.2.2 U0_0' ∧ Wd w W' (U0' ++ (U0_0' ++ (F ++ bs))) (os)) := by
 refine q17 (n := 104) (l := [(0, (ptr p0)), (1, .int .i64 a1), (2, .int .i64 a2), (3, .string a3), (4, .int .i64 a4)]) Tryd.func27 rfl rfl (Nat.le_of_ble_eq_true KR) (q07 rfl (q07 rfl (q07 rfl (q07 rfl (q07 rfl (q0q _)))))) ?_
 intro a ha
 replace HW : Wd w w1 (U0 ++ (U0_0 ++ (F ++ bs))) (os) := HW
 unfold q0s.f at h
 refine wp_seq_k (fun K1308 hK1309 => ?_)
 refine wp_region_lit ?_
 refine sp1 ha 10 (.int .i64 0) ?_; clear ha a; intro a ha
 refine endl (thenN (hK1309 _ _ (wp_seq_k fun K1310 hK1311 => wp_region_lit ?_))); clear hK1309
 refine sp3 ha 19 ((ptr p0)) 20 ((ptr p0)) 21 (.pointer (some ⟨p0, 4, none⟩)) ?_; clear ha a; intro a ha
 obtain ⟨A1312, c1313, HW⟩ := q00.unfold hU0 (HW)
 replace HW : Wd w w1 ((p0, .cells (ar1 p0_0 a0.f1 a0.f2 a0.f3 a0.f4.f2 a0.f5 A1312 a0.f6.length c1313 a0.f7 a0.f8 a0.f9) 57 (0, 0)) :: U0_0 ++ (F ++ bs)) ((rw0 A1312 a0.f6 c1313) :: os) := HW; clear hU0
 refine stepc ha 22 KR KR (atom_load (x := a0.f4.f2) (HW.cellAt (i := 0) (b := p0) (C := (ar1 p0_0 a0.f1 a0.f2 a0.f3 a0.f4.f2 a0.f5 A1312 a0.f6.length c1313 a0.f7 a0.f8 a0.f9)) (T := 57) KR 4 KR)) ?_; clear ha a; rintro e W_ ⟨rfl, rfl⟩; refine ⟨_, rfl, ?_⟩; intro a ha
 refine sp2 ha 23 (.int .i64 (IntKind.wrap .i64 (a0.f4.f2 + 1))) 11 (.int .i64 (IntKind.wrap .i64 (a0.f4.f2 + 1))) ?_; clear ha a; intro a ha
 refine endl (thenN (hK1311 _ _ (wp_seq_k fun K1315 hK1316 => wp_region_lit ?_))); clear hK1311
 refine sp3 ha 25 (.int .i64 (IntKind.wrap .i64 (a0.f4.f2 + 1))) 26 (.int .u64 (IntKind.wrap .u64 (IntKind.wrap .i64 (a0.f4.f2 + 1)))) 27 (.string a3) ?_; clear ha a; intro a ha
 obtain ⟨t1317, ht1318, h_⟩ := q08 h; replace h := h_; clear h_
 refine stepc ha 28 KR KR (q2a.calls K (IntKind.wrap .u64 (IntKind.wrap .i64 (a0.f4.f2 + 1))) a3 t1317 _ (HW.ca0 hG1) ht1318) ?_; clear ha a; rintro e W1319 ⟨rfl, HX1320⟩
 refine ⟨_, rfl, ?_⟩; intro a ha; replace HW := HW.callw HX1320; clear HX1320
 refine sp5 ha 24 (.tuple #[.string t1317.1, .int .i64 t1317.2]) 29 (.string t1317.1) 30 (.int .i64 t1317.2) 12 (.string t1317.1) 13 (.int .i64 t1317.2) ?_; clear ha a; intro a ha
 refine endl (thenN (hK1316 _ _ (wp_seq_k fun K1321 hK1322 => wp_seq_k fun K1323 hK1324 => wp_region_lit ?_))); clear hK1316
 refine sp2 ha 31 (.int .i64 t1317.2) 32 (.bool (t1317.2 != 0)) ?_; clear ha a; intro a ha
 refine endl (thenN (hK1324 _ _ ?_)); clear hK1324
 by_cases hp1325 : t1317.2 = 0
 ·
  replace h := q0b h hp1325
  refine condF ha KR KR (t := (t1317.2 != 0)) (q2f hp1325) ?_
  refine wp_skip ?_
  refine thenN (hK1322 _ _ (wp_seq_k fun K1330 hK1331 => wp_seq_k fun K1332 hK1333 => ?_)); clear hK1322
  obtain ⟨t1334, ht1335, h_⟩ := q08 h; replace h := h_; clear h_
  obtain ⟨t1338, ht1339, h_⟩ := q08 h; replace h := h_; clear h_
  refine regionE 11 10 KR [.fix ((ptr p0)), .fix ((ptr p0)), .fix ((ptr p0)), .fix ((ptr p0)), .fix ((ptr p0_0)), .fix ((ptr p0)), .fix (.int .i64 a1), .fix (.int .i64 a2), .fix (.int .i64 t1334), .fix (.string t1317.1), (.ws (fun x_ => .int .i64 t1338.1) w (fun x_ => ((p0, .cells (ar1 p0_0 a0.f1 a0.f2 a0.f3 a0.f4.f2 a0.f5 A1312 a0.f6.length c1313 a0.f7 a0.f8 a0.f9) 57 (0, 0)) :: (x_.2.2.getD 0 []) ++ (F ++ bs))) (fun x_ => ((rw0 A1312 a0.f6 c1313) :: os)) (fun x_ => q04.At p0_0  t1338.2 (x_.2.2.getD 0 []) ∧ True))] [false, false, false, false, false, false, false, false, false, false, false] KR (((p0, .cells (ar1 p0_0 a0.f1 a0.f2 a0.f3 a0.f4.f2 a0.f5 A1312 a0.f6.length c1313 a0.f7 a0.f8 a0.f9) 57 (0, 0)) :: F ++ bs), ((rw0 A1312 a0.f6 c1313) :: os)) (((p0, .cells (ar1 p0_0 a0.f1 a0.f2 a0.f3 a0.f4.f2 a0.f5 A1312 a0.f6.length c1313 a0.f7 a0.f8 a0.f9) 57 (0, 0)) :: U0_0 ++ (F ++ bs)), ((rw0 A1312 a0.f6 c1313) :: os)) ha HW (.ws (fun x_ => .int .i64 t1338.1) w (fun x_ => ((p0, .cells (ar1 p0_0 a0.f1 a0.f2 a0.f3 a0.f4.f2 a0.f5 A1312 a0.f6.length c1313 a0.f7 a0.f8 a0.f9) 57 (0, 0)) :: (x_.2.2.getD 0 []) ++ (F ++ bs))) (fun x_ => ((rw0 A1312 a0.f6 c1313) :: os)) (fun x_ => q04.At p0_0  t1338.2 (x_.2.2.getD 0 []) ∧ True)) KR (fun w_ h_ => (Wd.sg [[(p0, .cells (ar1 p0_0 a0.f1 a0.f2 a0.f3 a0.f4.f2 a0.f5 A1312 a0.f6.length c1313 a0.f7 a0.f8 a0.f9) 57 (0, 0))], U0_0, F] bs [(rw0 A1312 a0.f6 c1313)] os [[(p0, .cells (ar1 p0_0 a0.f1 a0.f2 a0.f3 a0.f4.f2 a0.f5 A1312 a0.f6.length c1313 a0.f7 a0.f8 a0.f9) 57 (0, 0))], F] [(rw0 A1312 a0.f6 c1313)] h_ [0, 2] [1] [0] KR KR (by decide) KR)) (fun v_ w_ h_ => by obtain ⟨⟨As1345, ns1346, Us1347⟩, _, h_, _⟩ := h_; exact (Wd.sg [[(p0, .cells (ar1 p0_0 a0.f1 a0.f2 a0.f3 a0.f4.f2 a0.f5 A1312 a0.f6.length c1313 a0.f7 a0.f8 a0.f9) 57 (0, 0))], (Us1347.getD 0 []), F] bs [(rw0 A1312 a0.f6 c1313)] os [[(p0, .cells (ar1 p0_0 a0.f1 a0.f2 a0.f3 a0.f4.f2 a0.f5 A1312 a0.f6.length c1313 a0.f7 a0.f8 a0.f9) 57 (0, 0))], F] [(rw0 A1312 a0.f6 c1313)] h_ [0, 2] [1] [0] KR KR (by decide) KR)) KR ?_ ?_
  ·
   refine ⟨?_, ?_, ?_, ?_, ?_, ?_, ?_, ?_, ?_, ?_, ?_, trivial⟩
   ·
    show OpOkX _ _ _ _ _ _ _ _ _ _
    intro a wr hn hd HW hs; have ha := q0a hn hd
    have ha := ha.add (seeE hs 0 ((ptr p0)) KR KR)
    refine yStep ha 34 KR ?_; intro l_ ha HK
    refine stepp ha 34 ((ptr p0)) KR KR ?_; intro ax hax; exact HK _ _ _ hax rfl (Below.refl _ _)
   ·
    show OpOkX _ _ _ _ _ _ _ _ _ _
    intro a wr hn hd HW hs; have ha := q0a hn hd
    have ha := ha.add (seeE hs 0 ((ptr p0)) KR KR)
    refine yStep ha 35 KR ?_; intro l_ ha HK
    refine stepp ha 35 ((ptr p0)) KR KR ?_; intro ax hax; exact HK _ _ _ hax rfl (Below.refl _ _)
   ·
    show OpOkX _ _ _ _ _ _ _ _ _ _
    intro a wr hn hd HW hs; have ha := q0a hn hd
    have ha := ha.add (seeF hs 35 1 ((ptr p0)) KR KR)
    refine yStep ha 36 KR ?_; intro l_ ha HK
    refine stepp ha 36 ((ptr p0)) KR KR ?_; intro ax hax; exact HK _ _ _ hax rfl (Below.refl _ _)
   ·
    show OpOkX _ _ _ _ _ _ _ _ _ _
    intro a wr hn hd HW hs; have ha := q0a hn hd
    have ha := ha.add (seeF hs 36 2 ((ptr p0)) KR KR)
    refine yStep ha 37 KR ?_; intro l_ ha HK
    refine stepp ha 37 ((ptr p0)) KR KR ?_; intro ax hax; exact HK _ _ _ hax rfl (Below.refl _ _)
   ·
    show OpOkX _ _ _ _ _ _ _ _ _ _
    intro a wr hn hd HW hs; have ha := q0a hn hd
    have ha := ha.add (seeF hs 37 3 ((ptr p0)) KR KR)
    refine yStep ha 38 KR ?_; intro l_ ha HK
    refine stepl ha 38 (HW.ca (i := 0) (b := p0) (C := (ar1 p0_0 a0.f1 a0.f2 a0.f3 a0.f4.f2 a0.f5 A1312 a0.f6.length c1313 a0.f7 a0.f8 a0.f9)) (T := 57) (fr := (0, 0)) KR) 25 0 (.tmp 37) ((ptr p0_0)) rfl KR KR KR ?_; intro ax hax; exact HK _ _ _ hax rfl (Below.refl _ _)
   ·
    show OpOkX _ _ _ _ _ _ _ _ _ _
    intro a wr hn hd HW hs; have ha := q0a hn hd
    have ha := ha.add (seeE hs 0 ((ptr p0)) KR KR)
    refine yStep ha 39 KR ?_; intro l_ ha HK
    refine stepp ha 39 ((ptr p0)) KR KR ?_; intro ax hax; exact HK _ _ _ hax rfl (Below.refl _ _)
   ·
    show OpOkX _ _ _ _ _ _ _ _ _ _
    intro a wr hn hd HW hs; have ha := q0a hn hd
    have ha := ha.add (seeE hs 1 (.int .i64 a1) KR KR)
    refine yStep ha 40 KR ?_; intro l_ ha HK
    refine stepp ha 40 (.int .i64 a1) KR KR ?_; intro ax hax; exact HK _ _ _ hax rfl (Below.refl _ _)
   ·
    show OpOkX _ _ _ _ _ _ _ _ _ _
    intro a wr hn hd HW hs; have ha := q0a hn hd
    have ha := ha.add (seeE hs 2 (.int .i64 a2) KR KR)
    refine yStep ha 41 KR ?_; intro l_ ha HK
    refine stepp ha 41 (.int .i64 a2) KR KR ?_; intro ax hax; exact HK _ _ _ hax rfl (Below.refl _ _)
   ·
    show OpOkX _ _ _ _ _ _ _ _ _ _
    intro a wr hn hd HW hs; have ha := q0a hn hd
    have ha := ha.add (seeF hs 39 5 ((ptr p0)) KR KR)
    have ha := ha.add (seeF hs 40 6 (.int .i64 a1) KR KR)
    have ha := ha.add (seeF hs 41 7 (.int .i64 a2) KR KR)
    refine yStep ha 42 KR ?_; intro l_ ha HK
    refine stepc ha 42 KR KR (q0v.calls (⟨(), a0.f1, a0.f2, a0.f3, (⟨(), (), a0.f4.f2⟩ : q03), a0.f5, a0.f6, a0.f7, a0.f8, a0.f9⟩ : q00) a1 a2 A1312 c1313 p0 p0_0 t1334 _ (HW.ca (i := 0) (b := p0) (C := (ar1 p0_0 a0.f1 a0.f2 a0.f3 a0.f4.f2 a0.f5 A1312 a0.f6.length c1313 a0.f7 a0.f8 a0.f9)) (T := 57) (fr := (0, 0)) KR) (HW.rdo (i := 0) (q := (rw0 A1312 a0.f6 c1313)) KR) ht1335) ?_; rintro e W1336 ⟨rfl, HX1337⟩
    refine ⟨_, rfl, ?_⟩; intro ax hax; exact HK _ _ _ hax rfl HX1337.below
   ·
    show OpOkX _ _ _ _ _ _ _ _ _ _
    intro a wr hn hd HW hs; have ha := q0a hn hd
    have ha := ha.add (seeE hs 12 (.string t1317.1) KR KR)
    refine yStep ha 43 KR ?_; intro l_ ha HK
    refine stepp ha 43 (.string t1317.1) KR KR ?_; intro ax hax; exact HK _ _ _ hax rfl (Below.refl _ _)
   ·
    show EffOkX _ _ _ _ _ _ _ _ _
    intro a wr hn hd HW hs; have ha := q0a hn hd
    have ha := ha.add (seeF hs 38 4 ((ptr p0_0)) KR KR)
    have ha := ha.add (seeF hs 42 8 (.int .i64 t1334) KR KR)
    have ha := ha.add (seeF hs 43 9 (.string t1317.1) KR KR)
    refine yStepA ha 44 KR ?_; intro l_ ha HK
    refine stepc ha 44 KR KR (q0l.calls K a0_0 t1334 t1317.1 p0_0 U0_0 t1338 _ _ F ([(p0, .cells (ar1 p0_0 a0.f1 a0.f2 a0.f3 a0.f4.f2 a0.f5 A1312 a0.f6.length c1313 a0.f7 a0.f8 a0.f9) 57 (0, 0))] ++ (bs)) ((rw0 A1312 a0.f6 c1313) :: os) hU0_0 (Wd.sg [[(p0, .cells (ar1 p0_0 a0.f1 a0.f2 a0.f3 a0.f4.f2 a0.f5 A1312 a0.f6.length c1313 a0.f7 a0.f8 a0.f9) 57 (0, 0))], U0_0, F] bs [(rw0 A1312 a0.f6 c1313)] os [U0_0, F, [(p0, .cells (ar1 p0_0 a0.f1 a0.f2 a0.f3 a0.f4.f2 a0.f5 A1312 a0.f6.length c1313 a0.f7 a0.f8 a0.f9) 57 (0, 0))]] [(rw0 A1312 a0.f6 c1313)] HW [1, 2, 0] [] [0] KR KR (by decide) KR) ht1339) ?_; rintro e W1341 ⟨U1340, rfl, hU0_0n, HX1342⟩
    refine ⟨_, rfl, ?_⟩; intro ax hax; exact HK _ _ _ hax ⟨([], [], [U1340]), rfl, Wd.sg [U1340, F, [(p0, .cells (ar1 p0_0 a0.f1 a0.f2 a0.f3 a0.f4.f2 a0.f5 A1312 a0.f6.length c1313 a0.f7 a0.f8 a0.f9) 57 (0, 0))]] bs [(rw0 A1312 a0.f6 c1313)] os [[(p0, .cells (ar1 p0_0 a0.f1 a0.f2 a0.f3 a0.f4.f2 a0.f5 A1312 a0.f6.length c1313 a0.f7 a0.f8 a0.f9) 57 (0, 0))], U1340, F] [(rw0 A1312 a0.f6 c1313)] HX1342 [2, 0, 1] [] [0] KR KR (by decide) KR, ⟨hU0_0n, trivial⟩⟩
  ·
   intro a W1348 ha hE_ he hf
   clear HW; obtain ⟨_, he_, ⟨As1345, ns1346, Us1347⟩, rfl, HW, hU0_0q, _⟩ := gotK (m := 11) (j := 10) (d := 44) (f := .ws (fun x_ => .int .i64 t1338.1) w (fun x_ => ((p0, .cells (ar1 p0_0 a0.f1 a0.f2 a0.f3 a0.f4.f2 a0.f5 A1312 a0.f6.length c1313 a0.f7 a0.f8 a0.f9) 57 (0, 0)) :: (x_.2.2.getD 0 []) ++ (F ++ bs))) (fun x_ => ((rw0 A1312 a0.f6 c1313) :: os)) (fun x_ => q04.At p0_0  t1338.2 (x_.2.2.getD 0 []) ∧ True)) hf KR KR KR; replace ha := ha.add he_; clear he_
   clear hU0_0; have hU0_0 : q04.At p0_0  t1338.2 (Us1347.getD 0 []) := hU0_0q; clear hU0_0q
   replace ha := ha.turn 44 (v := .int .i64 t1338.1) KR rfl
   replace HW : Wd w W1348 ((p0, .cells (ar1 p0_0 a0.f1 a0.f2 a0.f3 a0.f4.f2 a0.f5 A1312 a0.f6.length c1313 a0.f7 a0.f8 a0.f9) 57 (0, 0)) :: (Us1347.getD 0 []) ++ (F ++ bs)) ((rw0 A1312 a0.f6 c1313) :: os) := HW
   replace ha := ha.add (he 0 ((ptr p0)) KR KR)
   replace ha := ha.add (he 1 (.int .i64 a1) KR KR)
   replace ha := ha.add (he 4 (.int .i64 a4) KR KR)
   replace ha := ha.add (he 11 (.int .i64 (IntKind.wrap .i64 (a0.f4.f2 + 1))) KR KR)
   replace ha := ha.add (gotF (m := 11) (j := 0) (d := 34) (v := (ptr p0)) hf KR KR KR)
   clear he hf
   obtain ⟨U1349, hU1350, HW⟩ := q00.fold (x := (⟨(), a0.f1, a0.f2, a0.f3, (⟨(), (), a0.f4.f2⟩ : q03), a0.f5, a0.f6, a0.f7, a0.f8, a0.f9⟩ : q00)) (HW)
   replace HW := HW
   replace HW : Wd w W1348 (U1349 ++ ((Us1347.getD 0 []) ++ (F ++ bs))) (os) := HW
   obtain ⟨t1351, ht1352, h_⟩ := q08 h; replace h := h_; clear h_
   refine stepc ha 45 KR KR (q0w.calls (⟨(), a0.f1, a0.f2, a0.f3, (⟨(), (), a0.f4.f2⟩ : q03), a0.f5, a0.f6, a0.f7, a0.f8, a0.f9⟩ : q00) t1338.2 t1338.1 p0 U1349 p0_0 (Us1347.getD 0 []) t1351 _ _ F bs (os) hU1350 hU0_0 (HW) ht1352) ?_; clear ha a; rintro e W1355 ⟨U1353, U1354, rfl, hU1350n, hU0_0n, HX1356⟩
   refine ⟨_, rfl, ?_⟩; intro a ha; clear HW
   clear hU1350; have hU1350 := hU1350n; clear hU1350n
   clear hU0_0; have hU0_0 := hU0_0n; clear hU0_0n
   have HW : Wd w W1355 (U1353 ++ (U1354 ++ (F ++ bs))) (os) := HX1356; clear HX1356
   refine sp1 ha 14 (.int .i64 t1351.1) ?_; clear ha a; intro a ha
   refine endl (thenN (hK1333 _ _ (wp_seq_k fun K1359 hK1360 => wp_region_lit ?_))); clear hK1333
   refine sp2 ha 46 (.int .i64 t1351.1) 47 (.bool (t1351.1 != 0)) ?_; clear ha a; intro a ha
   refine endl (thenN (hK1360 _ _ ?_)); clear hK1360
   by_cases hp1361 : t1351.1 = 0
   ·
    replace h := q0b h hp1361
    refine condF ha KR KR (t := (t1351.1 != 0)) (q2f hp1361) ?_
    refine wp_skip ?_
    refine thenN (hK1331 _ _ (wp_seq_k fun K1364 hK1365 => wp_seq_k fun K1366 hK1367 => wp_region_lit ?_)); clear hK1331
    refine sp1 ha 49 ((ptr p0)) ?_; clear ha a; intro a ha
    obtain ⟨t1368, ht1369, h_⟩ := q08 h; replace h := h_; clear h_
    refine stepc ha 50 KR KR (q0j.calls K t1351.2.1 t1351.2.2 p0 U1353 p0_0 U1354 t1368 _ _ F bs (os) hU1350 hU0_0 (HW) ht1369) ?_; clear ha a; rintro e W1372 ⟨U1370, U1371, rfl, hU1350n, hU0_0n, HX1373⟩
    refine ⟨_, rfl, ?_⟩; intro a ha; clear HW
    clear hU1350; have hU1350 := hU1350n; clear hU1350n
    clear hU0_0; have hU0_0 := hU0_0n; clear hU0_0n
    have HW : Wd w W1372 (U1370 ++ (U1371 ++ (F ++ bs))) (os) := HX1373; clear HX1373
    refine sp1 ha 15 (.int .i64 t1368.1) ?_; clear ha a; intro a ha
    refine endl (thenN (hK1367 _ _ (wp_seq_k fun K1376 hK1377 => wp_region_lit ?_))); clear hK1367
    refine sp2 ha 51 (.int .i64 t1368.1) 52 (.bool (t1368.1 != 0)) ?_; clear ha a; intro a ha
    refine endl (thenN (hK1377 _ _ ?_)); clear hK1377
    by_cases hp1378 : t1368.1 = 0
    ·
     replace h := q0b h hp1378
     refine condF ha KR KR (t := (t1368.1 != 0)) (q2f hp1378) ?_
     refine wp_skip ?_
     refine thenN (hK1365 _ _ (wp_seq_k fun K1381 hK1382 => wp_region_lit ?_)); clear hK1365
     refine sp2 ha 54 (.int .i64 (IntKind.wrap .i64 (a0.f4.f2 + 1))) 55 (.int .u64 (IntKind.wrap .u64 (IntKind.wrap .i64 (a0.f4.f2 + 1)))) ?_; clear ha a; intro a ha
     obtain ⟨t1383, ht1384, h_⟩ := q08 h; replace h := h_; clear h_
     refine stepc ha 56 KR KR (q0u.calls K (IntKind.wrap .u64 (IntKind.wrap .i64 (a0.f4.f2 + 1))) 8 t1383 _ ht1384) ?_; clear ha a; rintro e W1385 ⟨rfl, HX1386⟩
     refine ⟨_, rfl, ?_⟩; intro a ha; replace HW := HW.callw HX1386; clear HX1386
     refine sp1 ha 16 (.string t1383) ?_; clear ha a; intro a ha
     refine endl (thenN (hK1382 _ _ (wp_seq_k fun K1387 hK1388 => wp_region_lit ?_))); clear hK1382
     refine sp1 ha 57 (.string t1383) ?_; clear ha a; intro a ha
     obtain ⟨hA1389, h_⟩ := q0d h; replace h := h_; clear h_
     refine stepsa ha 58 9 9 (.const (.string (⟨#[72, 71, 74, 67]⟩ : ByteArray))) (.tmp 57) (⟨#[72, 71, 74, 67]⟩ : ByteArray) t1383 rfl KR KR (show ((⟨#[72, 71, 74, 67]⟩ : ByteArray)).size + (t1383).size ≤ 9223372036854775807 from hA1389) KR ?_; clear ha a; intro a ha
     refine sp2 ha 59 (.int .i64 a1) 60 (.int .u64 (IntKind.wrap .u64 a1)) ?_; clear ha a; intro a ha
     obtain ⟨t1390, ht1391, h_⟩ := q08 h; replace h := h_; clear h_
     refine stepc ha 61 KR KR (q0u.calls K (IntKind.wrap .u64 a1) 4 t1390 _ ht1391) ?_; clear ha a; rintro e W1392 ⟨rfl, HX1393⟩
     refine ⟨_, rfl, ?_⟩; intro a ha; replace HW := HW.callw HX1393; clear HX1393
     obtain ⟨hA1394, h_⟩ := q0d h; replace h := h_; clear h_
     refine stepsa ha 62 9 9 (.tmp 58) (.tmp 61) ((⟨#[72, 71, 74, 67]⟩ : ByteArray) ++ t1383) t1390 rfl KR KR (show ((⟨#[72, 71, 74, 67]⟩ : ByteArray) ++ t1383).size + (t1390).size ≤ 9223372036854775807 from hA1394) KR ?_; clear ha a; intro a ha
     refine sp2 ha 63 (.int .i64 a4) 64 (.int .u64 (IntKind.wrap .u64 a4)) ?_; clear ha a; intro a ha
     obtain ⟨t1395, ht1396, h_⟩ := q08 h; replace h := h_; clear h_
     refine stepc ha 65 KR KR (q0u.calls K (IntKind.wrap .u64 a4) 4 t1395 _ ht1396) ?_; clear ha a; rintro e W1397 ⟨rfl, HX1398⟩
     refine ⟨_, rfl, ?_⟩; intro a ha; replace HW := HW.callw HX1398; clear HX1398
     obtain ⟨hA1399, h_⟩ := q0d h; replace h := h_; clear h_
     refine stepsa ha 66 9 9 (.tmp 62) (.tmp 65) (((⟨#[72, 71, 74, 67]⟩ : ByteArray) ++ t1383) ++ t1390) t1395 rfl KR KR (show (((⟨#[72, 71, 74, 67]⟩ : ByteArray) ++ t1383) ++ t1390).size + (t1395).size ≤ 9223372036854775807 from hA1399) KR ?_; clear ha a; intro a ha
     refine sp1 ha 17 (.string ((((⟨#[72, 71, 74, 67]⟩ : ByteArray) ++ t1383) ++ t1390) ++ t1395)) ?_; clear ha a; intro a ha
     refine endl (thenN (hK1388 _ _ (wp_seq_k fun K1400 hK1401 => wp_region_lit ?_))); clear hK1388
     refine sp6 ha 67 (.string ((((⟨#[72, 71, 74, 67]⟩ : ByteArray) ++ t1383) ++ t1390) ++ t1395)) 68 (.string ((((⟨#[72, 71, 74, 67]⟩ : ByteArray) ++ t1383) ++ t1390) ++ t1395)) 69 (.int .i64 (((((⟨#[72, 71, 74, 67]⟩ : ByteArray) ++ t1383) ++ t1390) ++ t1395).size : Int)) 70 (.int .i64 (IntKind.wrap .i64 (512 - (((((⟨#[72, 71, 74, 67]⟩ : ByteArray) ++ t1383) ++ t1390) ++ t1395).size : Int)))) 71 (.string t1383) 72 (.int .i64 (t1383.size : Int)) ?_; clear ha a; intro a ha
     refine sp1 ha 73 (.int .i64 (IntKind.wrap .i64 ((IntKind.wrap .i64 (512 - (((((⟨#[72, 71, 74, 67]⟩ : ByteArray) ++ t1383) ++ t1390) ++ t1395).size : Int))) - (t1383.size : Int)))) ?_; clear ha a; intro a ha
     obtain ⟨t1402, ht1403, h_⟩ := q08 h; replace h := h_; clear h_
     refine stepc ha 74 KR KR (q1g.calls (⟨#[0]⟩ : ByteArray) (IntKind.wrap .i64 ((IntKind.wrap .i64 (512 - (((((⟨#[72, 71, 74, 67]⟩ : ByteArray) ++ t1383) ++ t1390) ++ t1395).size : Int))) - (t1383.size : Int))) t1402 _ ht1403) ?_; clear ha a; rintro e W1404 ⟨rfl, HX1405⟩
     refine ⟨_, rfl, ?_⟩; intro a ha; replace HW := HW.callw HX1405; clear HX1405
     refine sp1 ha 75 (.string t1383) ?_; clear ha a; intro a ha
     obtain ⟨hA1406, h_⟩ := q0d h; replace h := h_; clear h_
     refine stepsa ha 76 9 9 (.tmp 74) (.tmp 75) t1402 t1383 rfl KR KR (show (t1402).size + (t1383).size ≤ 9223372036854775807 from hA1406) KR ?_; clear ha a; intro a ha
     obtain ⟨hA1407, h_⟩ := q0d h; replace h := h_; clear h_
     refine stepsa ha 77 9 9 (.tmp 67) (.tmp 76) ((((⟨#[72, 71, 74, 67]⟩ : ByteArray) ++ t1383) ++ t1390) ++ t1395) (t1402 ++ t1383) rfl KR KR (show ((((⟨#[72, 71, 74, 67]⟩ : ByteArray) ++ t1383) ++ t1390) ++ t1395).size + (t1402 ++ t1383).size ≤ 9223372036854775807 from hA1407) KR ?_; clear ha a; intro a ha
     refine sp1 ha 17 (.string (((((⟨#[72, 71, 74, 67]⟩ : ByteArray) ++ t1383) ++ t1390) ++ t1395) ++ (t1402 ++ t1383))) ?_; clear ha a; intro a ha
     refine endl (thenN (hK1401 _ _ (wp_seq_k fun K1408 hK1409 => wp_seq_k fun K1410 hK1411 => ?_))); clear hK1401
     obtain ⟨A1412, c1413, HW⟩ := q00.unfold hU1350 (HW)
     replace HW : Wd w W1404 ((p0, .cells (ar1 p0_0 t1368.2.1.f1 t1368.2.1.f2 t1368.2.1.f3 t1368.2.1.f4.f2 t1368.2.1.f5 A1412 t1368.2.1.f6.length c1413 t1368.2.1.f7 t1368.2.1.f8 t1368.2.1.f9) 57 (0, 0)) :: U1371 ++ (F ++ bs)) ((rw0 A1412 t1368.2.1.f6 c1413) :: os) := HW; clear hU1350
     obtain ⟨t1415, ht1416, h_⟩ := q08 h; replace h := h_; clear h_
     refine regionE 14 13 KR [.fix ((ptr p0)), .fix ((ptr p0)), .fix ((ptr p0)), .fix ((ptr p0)), .fix ((ptr p0_0)), .fix ((ptr p0)), .fix ((ptr p0)), .fix (.pointer (some ⟨p0, 1, none⟩)), .fix (.int .i64 t1368.2.1.f1), .fix (.int .i64 (IntKind.wrap .i64 (a0.f4.f2 + 1))), .fix (.int .i64 (Int.tmod (IntKind.wrap .i64 (a0.f4.f2 + 1)) 2)), .fix (.int .i64 (IntKind.wrap .i64 (t1368.2.1.f1 + (Int.tmod (IntKind.wrap .i64 (a0.f4.f2 + 1)) 2)))), .fix (.string (((((⟨#[72, 71, 74, 67]⟩ : ByteArray) ++ t1383) ++ t1390) ++ t1395) ++ (t1402 ++ t1383))), (.ws (fun x_ => .int .i64 t1415.1) w (fun x_ => ((p0, .cells (ar1 p0_0 t1368.2.1.f1 t1368.2.1.f2 t1368.2.1.f3 t1368.2.1.f4.f2 t1368.2.1.f5 A1412 t1368.2.1.f6.length c1413 t1368.2.1.f7 t1368.2.1.f8 t1368.2.1.f9) 57 (0, 0)) :: (x_.2.2.getD 0 []) ++ (F ++ bs))) (fun x_ => ((rw0 A1412 t1368.2.1.f6 c1413) :: os)) (fun x_ => q04.At p0_0  t1415.2 (x_.2.2.getD 0 []) ∧ True))] [false, false, false, false, false, false, false, false, false, false, false, false, false, false] KR (((p0, .cells (ar1 p0_0 t1368.2.1.f1 t1368.2.1.f2 t1368.2.1.f3 t1368.2.1.f4.f2 t1368.2.1.f5 A1412 t1368.2.1.f6.length c1413 t1368.2.1.f7 t1368.2.1.f8 t1368.2.1.f9) 57 (0, 0)) :: F ++ bs), ((rw0 A1412 t1368.2.1.f6 c1413) :: os)) (((p0, .cells (ar1 p0_0 t1368.2.1.f1 t1368.2.1.f2 t1368.2.1.f3 t1368.2.1.f4.f2 t1368.2.1.f5 A1412 t1368.2.1.f6.length c1413 t1368.2.1.f7 t1368.2.1.f8 t1368.2.1.f9) 57 (0, 0)) :: U1371 ++ (F ++ bs)), ((rw0 A1412 t1368.2.1.f6 c1413) :: os)) ha HW (.ws (fun x_ => .int .i64 t1415.1) w (fun x_ => ((p0, .cells (ar1 p0_0 t1368.2.1.f1 t1368.2.1.f2 t1368.2.1.f3 t1368.2.1.f4.f2 t1368.2.1.f5 A1412 t1368.2.1.f6.length c1413 t1368.2.1.f7 t1368.2.1.f8 t1368.2.1.f9) 57 (0, 0)) :: (x_.2.2.getD 0 []) ++ (F ++ bs))) (fun x_ => ((rw0 A1412 t1368.2.1.f6 c1413) :: os)) (fun x_ => q04.At p0_0  t1415.2 (x_.2.2.getD 0 []) ∧ True)) KR (fun w_ h_ => (Wd.sg [[(p0, .cells (ar1 p0_0 t1368.2.1.f1 t1368.2.1.f2 t1368.2.1.f3 t1368.2.1.f4.f2 t1368.2.1.f5 A1412 t1368.2.1.f6.length c1413 t1368.2.1.f7 t1368.2.1.f8 t1368.2.1.f9) 57 (0, 0))], U1371, F] bs [(rw0 A1412 t1368.2.1.f6 c1413)] os [[(p0, .cells (ar1 p0_0 t1368.2.1.f1 t1368.2.1.f2 t1368.2.1.f3 t1368.2.1.f4.f2 t1368.2.1.f5 A1412 t1368.2.1.f6.length c1413 t1368.2.1.f7 t1368.2.1.f8 t1368.2.1.f9) 57 (0, 0))], F] [(rw0 A1412 t1368.2.1.f6 c1413)] h_ [0, 2] [1] [0] KR KR (by decide) KR)) (fun v_ w_ h_ => by obtain ⟨⟨As1422, ns1423, Us1424⟩, _, h_, _⟩ := h_; exact (Wd.sg [[(p0, .cells (ar1 p0_0 t1368.2.1.f1 t1368.2.1.f2 t1368.2.1.f3 t1368.2.1.f4.f2 t1368.2.1.f5 A1412 t1368.2.1.f6.length c1413 t1368.2.1.f7 t1368.2.1.f8 t1368.2.1.f9) 57 (0, 0))], (Us1424.getD 0 []), F] bs [(rw0 A1412 t1368.2.1.f6 c1413)] os [[(p0, .cells (ar1 p0_0 t1368.2.1.f1 t1368.2.1.f2 t1368.2.1.f3 t1368.2.1.f4.f2 t1368.2.1.f5 A1412 t1368.2.1.f6.length c1413 t1368.2.1.f7 t1368.2.1.f8 t1368.2.1.f9) 57 (0, 0))], F] [(rw0 A1412 t1368.2.1.f6 c1413)] h_ [0, 2] [1] [0] KR KR (by decide) KR)) KR ?_ ?_
     ·
      refine ⟨?_, ?_, ?_, ?_, ?_, ?_, ?_, ?_, ?_, ?_, ?_, ?_, ?_, ?_, trivial⟩
      ·
       show OpOkX _ _ _ _ _ _ _ _ _ _
       intro a wr hn hd HW hs; have ha := q0a hn hd
       have ha := ha.add (seeE hs 0 ((ptr p0)) KR KR)
       refine yStep ha 78 KR ?_; intro l_ ha HK
       refine stepp ha 78 ((ptr p0)) KR KR ?_; intro ax hax; exact HK _ _ _ hax rfl (Below.refl _ _)
      ·
       show OpOkX _ _ _ _ _ _ _ _ _ _
       intro a wr hn hd HW hs; have ha := q0a hn hd
       have ha := ha.add (seeE hs 0 ((ptr p0)) KR KR)
       refine yStep ha 79 KR ?_; intro l_ ha HK
       refine stepp ha 79 ((ptr p0)) KR KR ?_; intro ax hax; exact HK _ _ _ hax rfl (Below.refl _ _)
      ·
       show OpOkX _ _ _ _ _ _ _ _ _ _
       intro a wr hn hd HW hs; have ha := q0a hn hd
       have ha := ha.add (seeF hs 79 1 ((ptr p0)) KR KR)
       refine yStep ha 80 KR ?_; intro l_ ha HK
       refine stepp ha 80 ((ptr p0)) KR KR ?_; intro ax hax; exact HK _ _ _ hax rfl (Below.refl _ _)
      ·
       show OpOkX _ _ _ _ _ _ _ _ _ _
       intro a wr hn hd HW hs; have ha := q0a hn hd
       have ha := ha.add (seeF hs 80 2 ((ptr p0)) KR KR)
       refine yStep ha 81 KR ?_; intro l_ ha HK
       refine stepp ha 81 ((ptr p0)) KR KR ?_; intro ax hax; exact HK _ _ _ hax rfl (Below.refl _ _)
      ·
       show OpOkX _ _ _ _ _ _ _ _ _ _
       intro a wr hn hd HW hs; have ha := q0a hn hd
       have ha := ha.add (seeF hs 81 3 ((ptr p0)) KR KR)
       refine yStep ha 82 KR ?_; intro l_ ha HK
       refine stepl ha 82 (HW.ca (i := 0) (b := p0) (C := (ar1 p0_0 t1368.2.1.f1 t1368.2.1.f2 t1368.2.1.f3 t1368.2.1.f4.f2 t1368.2.1.f5 A1412 t1368.2.1.f6.length c1413 t1368.2.1.f7 t1368.2.1.f8 t1368.2.1.f9)) (T := 57) (fr := (0, 0)) KR) 25 0 (.tmp 81) ((ptr p0_0)) rfl KR KR KR ?_; intro ax hax; exact HK _ _ _ hax rfl (Below.refl _ _)
      ·
       show OpOkX _ _ _ _ _ _ _ _ _ _
       intro a wr hn hd HW hs; have ha := q0a hn hd
       have ha := ha.add (seeE hs 0 ((ptr p0)) KR KR)
       refine yStep ha 83 KR ?_; intro l_ ha HK
       refine stepp ha 83 ((ptr p0)) KR KR ?_; intro ax hax; exact HK _ _ _ hax rfl (Below.refl _ _)
      ·
       show OpOkX _ _ _ _ _ _ _ _ _ _
       intro a wr hn hd HW hs; have ha := q0a hn hd
       have ha := ha.add (seeF hs 83 5 ((ptr p0)) KR KR)
       refine yStep ha 84 KR ?_; intro l_ ha HK
       refine stepp ha 84 ((ptr p0)) KR KR ?_; intro ax hax; exact HK _ _ _ hax rfl (Below.refl _ _)
      ·
       show OpOkX _ _ _ _ _ _ _ _ _ _
       intro a wr hn hd HW hs; have ha := q0a hn hd
       have ha := ha.add (seeF hs 84 6 ((ptr p0)) KR KR)
       refine yStep ha 85 KR ?_; intro l_ ha HK
       refine stepp ha 85 (.pointer (some ⟨p0, 1, none⟩)) KR KR ?_; intro ax hax; exact HK _ _ _ hax rfl (Below.refl _ _)
      ·
       show OpOkX _ _ _ _ _ _ _ _ _ _
       intro a wr hn hd HW hs; have ha := q0a hn hd
       have ha := ha.add (seeF hs 85 7 (.pointer (some ⟨p0, 1, none⟩)) KR KR)
       refine yStep ha 86 KR ?_; intro l_ ha HK
       refine stepl ha 86 (HW.ca (i := 0) (b := p0) (C := (ar1 p0_0 t1368.2.1.f1 t1368.2.1.f2 t1368.2.1.f3 t1368.2.1.f4.f2 t1368.2.1.f5 A1412 t1368.2.1.f6.length c1413 t1368.2.1.f7 t1368.2.1.f8 t1368.2.1.f9)) (T := 57) (fr := (0, 0)) KR) 3 1 (.tmp 85) (.int .i64 t1368.2.1.f1) rfl KR KR KR ?_; intro ax hax; exact HK _ _ _ hax rfl (Below.refl _ _)
      ·
       show OpOkX _ _ _ _ _ _ _ _ _ _
       intro a wr hn hd HW hs; have ha := q0a hn hd
       have ha := ha.add (seeE hs 11 (.int .i64 (IntKind.wrap .i64 (a0.f4.f2 + 1))) KR KR)
       refine yStep ha 87 KR ?_; intro l_ ha HK
       refine stepp ha 87 (.int .i64 (IntKind.wrap .i64 (a0.f4.f2 + 1))) KR KR ?_; intro ax hax; exact HK _ _ _ hax rfl (Below.refl _ _)
      ·
       show OpOkX _ _ _ _ _ _ _ _ _ _
       intro a wr hn hd HW hs; have ha := q0a hn hd
       have ha := ha.add (seeF hs 87 9 (.int .i64 (IntKind.wrap .i64 (a0.f4.f2 + 1))) KR KR)
       refine yStep ha 88 KR ?_; intro l_ ha HK
       refine stepp ha 88 (.int .i64 (Int.tmod (IntKind.wrap .i64 (a0.f4.f2 + 1)) 2)) KR KR ?_; intro ax hax; exact HK _ _ _ hax rfl (Below.refl _ _)
      ·
       show OpOkX _ _ _ _ _ _ _ _ _ _
       intro a wr hn hd HW hs; have ha := q0a hn hd
       have ha := ha.add (seeF hs 86 8 (.int .i64 t1368.2.1.f1) KR KR)
       have ha := ha.add (seeF hs 88 10 (.int .i64 (Int.tmod (IntKind.wrap .i64 (a0.f4.f2 + 1)) 2)) KR KR)
       refine yStep ha 89 KR ?_; intro l_ ha HK
       refine stepp ha 89 (.int .i64 (IntKind.wrap .i64 (t1368.2.1.f1 + (Int.tmod (IntKind.wrap .i64 (a0.f4.f2 + 1)) 2)))) KR KR ?_; intro ax hax; exact HK _ _ _ hax rfl (Below.refl _ _)
      ·
       show OpOkX _ _ _ _ _ _ _ _ _ _
       intro a wr hn hd HW hs; have ha := q0a hn hd
       have ha := ha.add (seeE hs 17 (.string (((((⟨#[72, 71, 74, 67]⟩ : ByteArray) ++ t1383) ++ t1390) ++ t1395) ++ (t1402 ++ t1383))) KR KR)
       refine yStep ha 90 KR ?_; intro l_ ha HK
       refine stepp ha 90 (.string (((((⟨#[72, 71, 74, 67]⟩ : ByteArray) ++ t1383) ++ t1390) ++ t1395) ++ (t1402 ++ t1383))) KR KR ?_; intro ax hax; exact HK _ _ _ hax rfl (Below.refl _ _)
      ·
       show EffOkX _ _ _ _ _ _ _ _ _
       intro a wr hn hd HW hs; have ha := q0a hn hd
       have ha := ha.add (seeF hs 82 4 ((ptr p0_0)) KR KR)
       have ha := ha.add (seeF hs 89 11 (.int .i64 (IntKind.wrap .i64 (t1368.2.1.f1 + (Int.tmod (IntKind.wrap .i64 (a0.f4.f2 + 1)) 2)))) KR KR)
       have ha := ha.add (seeF hs 90 12 (.string (((((⟨#[72, 71, 74, 67]⟩ : ByteArray) ++ t1383) ++ t1390) ++ t1395) ++ (t1402 ++ t1383))) KR KR)
       refine yStepA ha 91 KR ?_; intro l_ ha HK
       refine stepc ha 91 KR KR (q0l.calls K t1368.2.2 (IntKind.wrap .i64 (t1368.2.1.f1 + (Int.tmod (IntKind.wrap .i64 (a0.f4.f2 + 1)) 2))) (((((⟨#[72, 71, 74, 67]⟩ : ByteArray) ++ t1383) ++ t1390) ++ t1395) ++ (t1402 ++ t1383)) p0_0 U1371 t1415 _ _ F ([(p0, .cells (ar1 p0_0 t1368.2.1.f1 t1368.2.1.f2 t1368.2.1.f3 t1368.2.1.f4.f2 t1368.2.1.f5 A1412 t1368.2.1.f6.length c1413 t1368.2.1.f7 t1368.2.1.f8 t1368.2.1.f9) 57 (0, 0))] ++ (bs)) ((rw0 A1412 t1368.2.1.f6 c1413) :: os) hU0_0 (Wd.sg [[(p0, .cells (ar1 p0_0 t1368.2.1.f1 t1368.2.1.f2 t1368.2.1.f3 t1368.2.1.f4.f2 t1368.2.1.f5 A1412 t1368.2.1.f6.length c1413 t1368.2.1.f7 t1368.2.1.f8 t1368.2.1.f9) 57 (0, 0))], U1371, F] bs [(rw0 A1412 t1368.2.1.f6 c1413)] os [U1371, F, [(p0, .cells (ar1 p0_0 t1368.2.1.f1 t1368.2.1.f2 t1368.2.1.f3 t1368.2.1.f4.f2 t1368.2.1.f5 A1412 t1368.2.1.f6.length c1413 t1368.2.1.f7 t1368.2.1.f8 t1368.2.1.f9) 57 (0, 0))]] [(rw0 A1412 t1368.2.1.f6 c1413)] HW [1, 2, 0] [] [0] KR KR (by decide) KR) ht1416) ?_; rintro e W1418 ⟨U1417, rfl, hU0_0n, HX1419⟩
       refine ⟨_, rfl, ?_⟩; intro ax hax; exact HK _ _ _ hax ⟨([], [], [U1417]), rfl, Wd.sg [U1417, F, [(p0, .cells (ar1 p0_0 t1368.2.1.f1 t1368.2.1.f2 t1368.2.1.f3 t1368.2.1.f4.f2 t1368.2.1.f5 A1412 t1368.2.1.f6.length c1413 t1368.2.1.f7 t1368.2.1.f8 t1368.2.1.f9) 57 (0, 0))]] bs [(rw0 A1412 t1368.2.1.f6 c1413)] os [[(p0, .cells (ar1 p0_0 t1368.2.1.f1 t1368.2.1.f2 t1368.2.1.f3 t1368.2.1.f4.f2 t1368.2.1.f5 A1412 t1368.2.1.f6.length c1413 t1368.2.1.f7 t1368.2.1.f8 t1368.2.1.f9) 57 (0, 0))], U1417, F] [(rw0 A1412 t1368.2.1.f6 c1413)] HX1419 [2, 0, 1] [] [0] KR KR (by decide) KR, ⟨hU0_0n, trivial⟩⟩
     ·
      intro a W1425 ha hE_ he hf
      clear HW; obtain ⟨_, he_, ⟨As1422, ns1423, Us1424⟩, rfl, HW, hU0_0q, _⟩ := gotK (m := 14) (j := 13) (d := 91) (f := .ws (fun x_ => .int .i64 t1415.1) w (fun x_ => ((p0, .cells (ar1 p0_0 t1368.2.1.f1 t1368.2.1.f2 t1368.2.1.f3 t1368.2.1.f4.f2 t1368.2.1.f5 A1412 t1368.2.1.f6.length c1413 t1368.2.1.f7 t1368.2.1.f8 t1368.2.1.f9) 57 (0, 0)) :: (x_.2.2.getD 0 []) ++ (F ++ bs))) (fun x_ => ((rw0 A1412 t1368.2.1.f6 c1413) :: os)) (fun x_ => q04.At p0_0  t1415.2 (x_.2.2.getD 0 []) ∧ True)) hf KR KR KR; replace ha := ha.add he_; clear he_
      clear hU0_0; have hU0_0 : q04.At p0_0  t1415.2 (Us1424.getD 0 []) := hU0_0q; clear hU0_0q
      replace ha := ha.turn 91 (v := .int .i64 t1415.1) KR rfl
      replace HW : Wd w W1425 ((p0, .cells (ar1 p0_0 t1368.2.1.f1 t1368.2.1.f2 t1368.2.1.f3 t1368.2.1.f4.f2 t1368.2.1.f5 A1412 t1368.2.1.f6.length c1413 t1368.2.1.f7 t1368.2.1.f8 t1368.2.1.f9) 57 (0, 0)) :: (Us1424.getD 0 []) ++ (F ++ bs)) ((rw0 A1412 t1368.2.1.f6 c1413) :: os) := HW
      replace ha := ha.add (he 0 ((ptr p0)) KR KR)
      replace ha := ha.add (he 11 (.int .i64 (IntKind.wrap .i64 (a0.f4.f2 + 1))) KR KR)
      replace ha := ha.add (gotF (m := 14) (j := 0) (d := 78) (v := (ptr p0)) hf KR KR KR)
      clear he hf
      obtain ⟨U1426, hU1427, HW⟩ := q00.fold (x := (⟨(), t1368.2.1.f1, t1368.2.1.f2, t1368.2.1.f3, (⟨(), (), t1368.2.1.f4.f2⟩ : q03), t1368.2.1.f5, t1368.2.1.f6, t1368.2.1.f7, t1368.2.1.f8, t1368.2.1.f9⟩ : q00)) (HW)
      replace HW := HW
      replace HW : Wd w W1425 (U1426 ++ ((Us1424.getD 0 []) ++ (F ++ bs))) (os) := HW
      obtain ⟨t1428, ht1429, h_⟩ := q08 h; replace h := h_; clear h_
      refine stepc ha 92 KR KR (q0w.calls (⟨(), t1368.2.1.f1, t1368.2.1.f2, t1368.2.1.f3, (⟨(), (), t1368.2.1.f4.f2⟩ : q03), t1368.2.1.f5, t1368.2.1.f6, t1368.2.1.f7, t1368.2.1.f8, t1368.2.1.f9⟩ : q00) t1415.2 t1415.1 p0 U1426 p0_0 (Us1424.getD 0 []) t1428 _ _ F bs (os) hU1427 hU0_0 (HW) ht1429) ?_; clear ha a; rintro e W1432 ⟨U1430, U1431, rfl, hU1427n, hU0_0n, HX1433⟩
      refine ⟨_, rfl, ?_⟩; intro a ha; clear HW
      clear hU1427; have hU1427 := hU1427n; clear hU1427n
      clear hU0_0; have hU0_0 := hU0_0n; clear hU0_0n
      have HW : Wd w W1432 (U1430 ++ (U1431 ++ (F ++ bs))) (os) := HX1433; clear HX1433
      refine sp1 ha 18 (.int .i64 t1428.1) ?_; clear ha a; intro a ha
      refine endl (thenN (hK1411 _ _ (wp_seq_k fun K1436 hK1437 => wp_region_lit ?_))); clear hK1411
      refine sp2 ha 93 (.int .i64 t1428.1) 94 (.bool (t1428.1 != 0)) ?_; clear ha a; intro a ha
      refine endl (thenN (hK1437 _ _ ?_)); clear hK1437
      by_cases hp1438 : t1428.1 = 0
      ·
       replace h := q0b h hp1438
       refine condF ha KR KR (t := (t1428.1 != 0)) (q2f hp1438) ?_
       refine wp_skip ?_
       refine thenN (hK1409 _ _ (wp_seq_k fun K1441 hK1442 => wp_region_lit ?_)); clear hK1409
       refine sp4 ha 96 ((ptr p0)) 97 ((ptr p0)) 98 (.pointer (some ⟨p0, 4, none⟩)) 99 (.int .i64 (IntKind.wrap .i64 (a0.f4.f2 + 1))) ?_; clear ha a; intro a ha
       obtain ⟨A1443, c1444, HW⟩ := q00.unfold hU1427 (HW)
       replace HW : Wd w W1432 ((p0, .cells (ar1 p0_0 t1428.2.1.f1 t1428.2.1.f2 t1428.2.1.f3 t1428.2.1.f4.f2 t1428.2.1.f5 A1443 t1428.2.1.f6.length c1444 t1428.2.1.f7 t1428.2.1.f8 t1428.2.1.f9) 57 (0, 0)) :: U1431 ++ (F ++ bs)) ((rw0 A1443 t1428.2.1.f6 c1444) :: os) := HW; clear hU1427
       refine stepc ha 100 KR KR (atom_store (u := .int .i64 t1428.2.1.f4.f2) (y := (IntKind.wrap .i64 (a0.f4.f2 + 1))) (HW.cellAt (i := 0) (b := p0) (C := (ar1 p0_0 t1428.2.1.f1 t1428.2.1.f2 t1428.2.1.f3 t1428.2.1.f4.f2 t1428.2.1.f5 A1443 t1428.2.1.f6.length c1444 t1428.2.1.f7 t1428.2.1.f8 t1428.2.1.f9)) (T := 57) KR 4 KR) (HW.notFrozen (i := 0) (b := p0) (C := (ar1 p0_0 t1428.2.1.f1 t1428.2.1.f2 t1428.2.1.f3 t1428.2.1.f4.f2 t1428.2.1.f5 A1443 t1428.2.1.f6.length c1444 t1428.2.1.f7 t1428.2.1.f8 t1428.2.1.f9)) (T := 57) KR 4)) ?_; clear ha a; rintro e W1446 ⟨rfl, hW1447⟩; refine ⟨_, rfl, ?_⟩; intro a ha
       replace HW : Wd w W1446 ((p0, .cells (ar1 p0_0 t1428.2.1.f1 t1428.2.1.f2 t1428.2.1.f3 (IntKind.wrap .i64 (a0.f4.f2 + 1)) t1428.2.1.f5 A1443 t1428.2.1.f6.length c1444 t1428.2.1.f7 t1428.2.1.f8 t1428.2.1.f9) 57 (0, 0)) :: U1431 ++ (F ++ bs)) ((rw0 A1443 t1428.2.1.f6 c1444) :: os) := by rw [hW1447]; exact HW.setAt (i := 0) (b := p0) (C := (ar1 p0_0 t1428.2.1.f1 t1428.2.1.f2 t1428.2.1.f3 t1428.2.1.f4.f2 t1428.2.1.f5 A1443 t1428.2.1.f6.length c1444 t1428.2.1.f7 t1428.2.1.f8 t1428.2.1.f9)) (T := 57) KR 4 (.int .i64 (IntKind.wrap .i64 (a0.f4.f2 + 1))) (C' := (ar1 p0_0 t1428.2.1.f1 t1428.2.1.f2 t1428.2.1.f3 (IntKind.wrap .i64 (a0.f4.f2 + 1)) t1428.2.1.f5 A1443 t1428.2.1.f6.length c1444 t1428.2.1.f7 t1428.2.1.f8 t1428.2.1.f9)) KR
       clear hW1447
       refine endl (thenN (hK1442 _ _ (wp_seq_k fun K1448 hK1449 => wp_region_lit ?_))); clear hK1442
       refine sp3 ha 101 ((ptr p0)) 102 ((ptr p0)) 103 (.pointer (some ⟨p0, 8, none⟩)) ?_; clear ha a; intro a ha
       refine q26 ha HW 0 (b := p0) (C := (ar1 p0_0 t1428.2.1.f1 t1428.2.1.f2 t1428.2.1.f3 (IntKind.wrap .i64 (a0.f4.f2 + 1)) t1428.2.1.f5 A1443 t1428.2.1.f6.length c1444 t1428.2.1.f7 t1428.2.1.f8 t1428.2.1.f9)) (T := 57) KR 4 8 (.tmp 103) (.const (.bool true)) (.bool true) (ar1 p0_0 t1428.2.1.f1 t1428.2.1.f2 t1428.2.1.f3 (IntKind.wrap .i64 (a0.f4.f2 + 1)) t1428.2.1.f5 A1443 t1428.2.1.f6.length c1444 t1428.2.1.f7 true t1428.2.1.f9) rfl KR KR KR KR KR KR KR ?_; clear ha HW a; intro a W1450 HW ha
       refine endl (thenN (hK1449 _ _ (wp_seq_k fun K1451 hK1452 => wp_region_lit ?_))); clear hK1449
       refine sp1 ha 10 (.int .i64 0) ?_; clear ha a; intro a ha
       refine endl (thenN (hK1452 _ _ ?_)); clear hK1452
       refine wp_ret ?_
       obtain ⟨U1453, hU1454, HW⟩ := q00.fold (x := (⟨(), t1428.2.1.f1, t1428.2.1.f2, t1428.2.1.f3, (⟨(), (), IntKind.wrap .i64 (a0.f4.f2 + 1)⟩ : q03), t1428.2.1.f5, t1428.2.1.f6, t1428.2.1.f7, true, t1428.2.1.f9⟩ : q00)) (HW)
       replace HW := HW
       replace HW : Wd w W1450 (U1453 ++ (U1431 ++ (F ++ bs))) (os) := HW
       obtain rfl := Option.some.inj h
       exact finv ha _ _ rfl (.tmp (v := .int .i64 0) KR .nil) (.int .i64 0) rfl ⟨U1453, U1431, rfl, hU1454, hU0_0, (HW)⟩
      ·
       replace h := q0c h hp1438
       refine condT ha KR KR (t := (t1428.1 != 0)) (q2e hp1438) ?_
       refine wp_seq_k (fun K1439 hK1440 => ?_)
       refine wp_region_lit ?_
       refine sp2 ha 95 (.int .i64 t1428.1) 10 (.int .i64 t1428.1) ?_; clear ha a; intro a ha
       refine endl (thenN (hK1440 _ _ ?_)); clear hK1440
       refine wp_ret ?_
       refine thenR ?_
       obtain rfl := Option.some.inj h
       exact finv ha _ _ rfl (.tmp (v := .int .i64 t1428.1) KR .nil) (.int .i64 t1428.1) rfl ⟨U1430, U1431, rfl, hU1427, hU0_0, (HW)⟩
    ·
     replace h := q0c h hp1378
     refine condT ha KR KR (t := (t1368.1 != 0)) (q2e hp1378) ?_
     refine wp_seq_k (fun K1379 hK1380 => ?_)
     refine wp_region_lit ?_
     refine sp2 ha 53 (.int .i64 t1368.1) 10 (.int .i64 t1368.1) ?_; clear ha a; intro a ha
     refine endl (thenN (hK1380 _ _ ?_)); clear hK1380
     refine wp_ret ?_
     refine thenR ?_
     obtain rfl := Option.some.inj h
     exact finv ha _ _ rfl (.tmp (v := .int .i64 t1368.1) KR .nil) (.int .i64 t1368.1) rfl ⟨U1370, U1371, rfl, hU1350, hU0_0, (HW)⟩
   ·
    replace h := q0c h hp1361
    refine condT ha KR KR (t := (t1351.1 != 0)) (q2e hp1361) ?_
    refine wp_seq_k (fun K1362 hK1363 => ?_)
    refine wp_region_lit ?_
    refine sp2 ha 48 (.int .i64 t1351.1) 10 (.int .i64 t1351.1) ?_; clear ha a; intro a ha
    refine endl (thenN (hK1363 _ _ ?_)); clear hK1363
    refine wp_ret ?_
    refine thenR ?_
    obtain rfl := Option.some.inj h
    exact finv ha _ _ rfl (.tmp (v := .int .i64 t1351.1) KR .nil) (.int .i64 t1351.1) rfl ⟨U1353, U1354, rfl, hU1350, hU0_0, (HW)⟩
 ·
  replace h := q0c h hp1325
  refine condT ha KR KR (t := (t1317.2 != 0)) (q2e hp1325) ?_
  refine wp_seq_k (fun K1326 hK1327 => ?_)
  refine wp_region_lit ?_
  refine sp2 ha 33 (.int .i64 t1317.2) 10 (.int .i64 t1317.2) ?_; clear ha a; intro a ha
  refine endl (thenN (hK1327 _ _ ?_)); clear hK1327
  refine wp_ret ?_
  refine thenR ?_
  obtain ⟨U1328, hU1329, HW⟩ := q00.fold (x := (⟨(), a0.f1, a0.f2, a0.f3, (⟨(), (), a0.f4.f2⟩ : q03), a0.f5, a0.f6, a0.f7, a0.f8, a0.f9⟩ : q00)) (HW)
  replace HW := HW
  replace HW : Wd w W1319 (U1328 ++ (U0_0 ++ (F ++ bs))) (os) := HW
  obtain rfl := Option.some.inj h
  exact finv ha _ _ rfl (.tmp (v := .int .i64 t1317.2) KR .nil) (.int .i64 t1317.2) rfl ⟨U1328, U0_0, rfl, hU1329, hU0_0, (HW)⟩
def q1i.f (K : Nat) (a0 : q04) (a1 : Int) (a2 : Int) (a3 : ByteArray) : Option ((Option q00) × Int × q04) :=
 (q1h.f a0 a1 a2).bind fun t1484 => (optc t1484.1 (some ((none : Option q00), 1, t1484.2)) (fun x1495 => (if (a3.size : Int) > 65536 then (some ((none : Option q00), 2, t1484.2)) else ((q0x.f (a3.size : Int)).bind fun t1519 => (if t1519 > x1495.f2 then (some ((none : Option q00), 60, t1484.2)) else ((q1g.f (⟨#[0]⟩ : ByteArray) 1024).bind fun t1531 => ((q0l.f K t1484.2 a1 t1531).bind fun t1535 => (if t1535.1 = 0 then ((q0j.f K (⟨(), x1495.f1, x1495.f2, x1495.f3, (⟨(), (), x1495.f4.f2⟩ : q03), x1495.f5, x1495.f6, x1495.f7, x1495.f8, x1495.f9⟩ : q00) t1535.2).bind fun t1553 => (if t1553.1 = 0 then ((q0s.f K t1553.2.1 t1553.2.2 0 0 a3 1).bind fun t1570 => (if t1570.1 = 0 then ((q0j.f K t1570.2.1 t1570.2.2).bind fun t1587 => (if t1587.1 = 0 then ((q0x.f (a3.size : Int)).bind fun t1602 => (some ((some (⟨(), t1587.2.1.f1, t1587.2.1.f2, t1587.2.1.f3, (⟨(), (), t1587.2.1.f4.f2⟩ : q03), a3, t1587.2.1.f6, t1602, t1587.2.1.f8, t1587.2.1.f9⟩ : q00)), 0, t1587.2.2))) else (some ((none : Option q00), t1587.1, t1587.2.2)))) else (some ((none : Option q00), t1570.1, t1570.2.2)))) else (some ((none : Option q00), t1553.1, t1553.2.2)))) else (some ((none : Option q00), t1535.1, t1535.2))))))))))
set_option maxRecDepth 100000 in
set_option maxHeartbeats 4000000 in
theorem q1i.calls (K : Nat) (a0 : q04) (a1 : Int) (a2 : Int) (a3 : ByteArray) (p0 : Nat) (U0 : Blks)  (r : (Option q00) × Int × q04) (w w1 : World) (F bs : Blks) (os : List OwnA) (hG1 : CA w 1 0 (encs (encIK .u32) q0h).toArray) (hU0 : q04.At p0  a0 U0) (HW : Wd w w1 (U0 ++ (F ++ bs)) os) (h : q1i.f K a0 a1 a2 a3 = some r) :
  Calls Tryd.prog 9 #[.pointer (some ⟨p0, 0, none⟩), .int .i64 a1, .int .i64 a2, .string a3] w1 (fun e W' => ∃ p_0 : Value, ∃ U_0 : Blks, ∃ U0' : Blks, e = .returned (.tuple #[p_0, .int .i64 r.2.1]) ∧ OptAt (fun p_ x_ u_ => q00.At p_ p0 x_ u_) (r.1) p_0 U_0 ∧ q04.At p0  r.2.2 U0' ∧ Wd w W' (U_0 ++ (U0' ++ (F ++ bs))) (os)) := by
 refine q17 (n := 69) (l := [(0, (ptr p0)), (1, .int .i64 a1), (2, .int .i64 a2), (3, .string a3)]) Tryd.func9 rfl rfl (Nat.le_of_ble_eq_true KR) (q07 rfl (q07 rfl (q07 rfl (q07 rfl (q0q _))))) ?_
 intro a ha
 replace HW : Wd w w1 (U0 ++ (F ++ bs)) (os) := HW
 unfold q1i.f at h
 refine wp_seq_k (fun K1480 hK1481 => ?_)
 refine wp_region_lit ?_
 refine sp2 ha 8 (.pointer none) 9 (.int .i64 0) ?_; clear ha a; intro a ha
 refine endl (thenN (hK1481 _ _ (wp_seq_k fun K1482 hK1483 => wp_region_lit ?_))); clear hK1481
 refine sp3 ha 15 ((ptr p0)) 16 (.int .i64 a1) 17 (.int .i64 a2) ?_; clear ha a; intro a ha
 obtain ⟨t1484, ht1485, h_⟩ := q08 h; replace h := h_; clear h_
 refine stepc ha 18 KR KR (q1h.calls a0 a1 a2 p0 U0 t1484 _ _ F bs (os) hU0 (HW) ht1485) ?_; clear ha a; rintro e W1490 ⟨b1486v, U1487, U1489, rfl, hO1494n, hU0n, HX1491⟩
 refine ⟨_, rfl, ?_⟩; intro a ha; clear HW
 clear hU0; have hU0 := hU0n; clear hU0n
 have hO1494 := hO1494n; clear hO1494n
 rcases e1496 : t1484.1 with _ | x1495
 ·
  rw [e1496] at h hO1494; replace h := optc_n h
  obtain ⟨hO1494v, hO1494u⟩ := hO1494; subst hO1494v; subst hO1494u
  have HW : Wd w W1490 (U1489 ++ (F ++ bs)) (os) := Wd.sg [([] : Blks), U1489, F] bs [] os [U1489, F] [] HX1491 [1, 2] [0] [] KR KR (by decide) KR; clear HX1491
  refine sp1 ha 10 (.pointer none) ?_; clear ha a; intro a ha
  refine endl (thenN (hK1483 _ _ (wp_seq_k fun K1499 hK1500 => ?_))); clear hK1483
  refine wp_block ?_
  refine wp_seq_k (fun K1501 hK1502 => ?_)
  refine wp_region_lit ?_
  refine sp3 ha 20 (.pointer none) 21 (.bool true) 19 (.bool true) ?_; clear ha a; intro a ha
  refine endl (thenN (hK1502 _ _ ?_)); clear hK1502
  refine condT ha KR KR (t := true) (rfl) ?_
  refine wp_seq_k (fun K1503 hK1504 => ?_)
  refine wp_region_lit ?_
  refine sp2 ha 8 (.pointer none) 9 (.int .i64 1) ?_; clear ha a; intro a ha
  refine endl (thenN (hK1504 _ _ ?_)); clear hK1504
  refine wp_ret ?_
  refine blkR ?_
  refine thenR ?_
  obtain rfl := Option.some.inj h
  exact finv ha _ _ rfl (.tmp (v := .pointer none) KR (.tmp (v := .int .i64 1) KR .nil)) (.tuple #[.pointer none, .int .i64 1]) rfl ⟨.pointer none, [], U1489, rfl, ⟨rfl, rfl⟩, hU0, (HW)⟩
 ·
  rw [e1496] at h hO1494; replace h := optc_s h
  obtain ⟨b1497, hO1494v, hU1498⟩ := hO1494; subst hO1494v
  have HW : Wd w W1490 (U1487 ++ (U1489 ++ (F ++ bs))) (os) := HX1491; clear HX1491
  refine sp1 ha 10 ((ptr b1497)) ?_; clear ha a; intro a ha
  refine endl (thenN (hK1483 _ _ (wp_seq_k fun K1505 hK1506 => ?_))); clear hK1483
  refine wp_block ?_
  refine wp_seq_k (fun K1507 hK1508 => ?_)
  refine wp_region_lit ?_
  refine sp3 ha 20 ((ptr b1497)) 21 (.bool false) 19 (.bool false) ?_; clear ha a; intro a ha
  refine endl (thenN (hK1508 _ _ ?_)); clear hK1508
  refine condF ha KR KR (t := false) (rfl) ?_
  refine wp_seq_k (fun K1509 hK1510 => ?_)
  refine wp_region_lit ?_
  refine sp4 ha 23 (.string a3) 24 (.int .i64 (a3.size : Int)) 25 (.bool (decide ((a3.size : Int) > 65536))) 22 (.bool (decide ((a3.size : Int) > 65536))) ?_; clear ha a; intro a ha
  refine endl (thenN (hK1510 _ _ ?_)); clear hK1510
  by_cases hp1511 : (a3.size : Int) > 65536
  ·
   replace h := q0b h hp1511
   refine condT ha KR KR (t := decide ((a3.size : Int) > 65536)) (decide_eq_true hp1511) ?_
   refine wp_seq_k (fun K1512 hK1513 => ?_)
   refine wp_region_lit ?_
   refine sp2 ha 8 (.pointer none) 9 (.int .i64 2) ?_; clear ha a; intro a ha
   refine endl (thenN (hK1513 _ _ ?_)); clear hK1513
   refine wp_ret ?_
   refine blkR ?_
   refine thenR ?_
   obtain rfl := Option.some.inj h
   exact finv ha _ _ rfl (.tmp (v := .pointer none) KR (.tmp (v := .int .i64 2) KR .nil)) (.tuple #[.pointer none, .int .i64 2]) rfl ⟨.pointer none, [], U1489, rfl, ⟨rfl, rfl⟩, hU0, (Wd.sg [U1487, U1489, F] bs [] os [U1489, F] [] HW [1, 2] [0] [] KR KR (by decide) KR)⟩
  ·
   replace h := q0c h hp1511
   refine condF ha KR KR (t := decide ((a3.size : Int) > 65536)) (decide_eq_false hp1511) ?_
   refine wp_seq_k (fun K1514 hK1515 => ?_)
   obtain ⟨A1516, c1517, HW⟩ := q00.unfold hU1498 (HW)
   replace HW : Wd w W1490 ((b1497, .cells (ar1 p0 x1495.f1 x1495.f2 x1495.f3 x1495.f4.f2 x1495.f5 A1516 x1495.f6.length c1517 x1495.f7 x1495.f8 x1495.f9) 57 (0, 0)) :: U1489 ++ (F ++ bs)) ((rw0 A1516 x1495.f6 c1517) :: os) := HW; clear hU1498
   obtain ⟨t1519, ht1520, h_⟩ := q08 h; replace h := h_; clear h_
   refine q2z 9 KR KR ha HW [.fix (.string a3), .fix (.int .i64 (a3.size : Int)), .fix (.int .i64 t1519), .fix ((ptr b1497)), .fix ((ptr b1497)), .fix (.pointer (some ⟨b1497, 2, none⟩)), .fix (.int .i64 x1495.f2), .fix (.bool (decide (t1519 > x1495.f2))), .fix (.bool (decide (t1519 > x1495.f2)))] ?_ ?_
   ·
    refine ⟨?_, ?_, ?_, ?_, ?_, ?_, ?_, ?_, ?_, trivial⟩
    ·
     intro a wr hn hd HW hs; have ha := q0a hn hd
     have ha := ha.add (seeE hs 3 (.string a3) KR KR)
     refine yStep ha 27 KR ?_; intro l_ ha HK
     refine stepp ha 27 (.string a3) KR KR ?_; intro ax hax; exact HK _ _ _ hax rfl (Below.refl _ _)
    ·
     intro a wr hn hd HW hs; have ha := q0a hn hd
     have ha := ha.add (seeF hs 27 0 (.string a3) KR KR)
     refine yStep ha 28 KR ?_; intro l_ ha HK
     refine stepp ha 28 (.int .i64 (a3.size : Int)) KR KR ?_; intro ax hax; exact HK _ _ _ hax rfl (Below.refl _ _)
    ·
     intro a wr hn hd HW hs; have ha := q0a hn hd
     have ha := ha.add (seeF hs 28 1 (.int .i64 (a3.size : Int)) KR KR)
     refine yStep ha 29 KR ?_; intro l_ ha HK
     refine stepc ha 29 KR KR (q0x.calls (a3.size : Int) t1519 _ ht1520) ?_; rintro e W1521 ⟨rfl, HX1522⟩
     refine ⟨_, rfl, ?_⟩; intro ax hax; exact HK _ _ _ hax rfl HX1522.below
    ·
     intro a wr hn hd HW hs; have ha := q0a hn hd
     have ha := ha.add (seeE hs 10 ((ptr b1497)) KR KR)
     refine yStep ha 30 KR ?_; intro l_ ha HK
     refine stepp ha 30 ((ptr b1497)) KR KR ?_; intro ax hax; exact HK _ _ _ hax rfl (Below.refl _ _)
    ·
     intro a wr hn hd HW hs; have ha := q0a hn hd
     have ha := ha.add (seeF hs 30 3 ((ptr b1497)) KR KR)
     refine yStep ha 31 KR ?_; intro l_ ha HK
     refine stepp ha 31 ((ptr b1497)) KR KR ?_; intro ax hax; exact HK _ _ _ hax rfl (Below.refl _ _)
    ·
     intro a wr hn hd HW hs; have ha := q0a hn hd
     have ha := ha.add (seeF hs 31 4 ((ptr b1497)) KR KR)
     refine yStep ha 32 KR ?_; intro l_ ha HK
     refine stepp ha 32 (.pointer (some ⟨b1497, 2, none⟩)) KR KR ?_; intro ax hax; exact HK _ _ _ hax rfl (Below.refl _ _)
    ·
     intro a wr hn hd HW hs; have ha := q0a hn hd
     have ha := ha.add (seeF hs 32 5 (.pointer (some ⟨b1497, 2, none⟩)) KR KR)
     refine yStep ha 33 KR ?_; intro l_ ha HK
     refine stepl ha 33 (HW.ca (i := 0) (b := b1497) (C := (ar1 p0 x1495.f1 x1495.f2 x1495.f3 x1495.f4.f2 x1495.f5 A1516 x1495.f6.length c1517 x1495.f7 x1495.f8 x1495.f9)) (T := 57) (fr := (0, 0)) KR) 3 2 (.tmp 32) (.int .i64 x1495.f2) rfl KR KR KR ?_; intro ax hax; exact HK _ _ _ hax rfl (Below.refl _ _)
    ·
     intro a wr hn hd HW hs; have ha := q0a hn hd
     have ha := ha.add (seeF hs 29 2 (.int .i64 t1519) KR KR)
     have ha := ha.add (seeF hs 33 6 (.int .i64 x1495.f2) KR KR)
     refine yStep ha 34 KR ?_; intro l_ ha HK
     refine stepp ha 34 (.bool (decide (t1519 > x1495.f2))) KR KR ?_; intro ax hax; exact HK _ _ _ hax rfl (Below.refl _ _)
    ·
     intro a wr hn hd HW hs; have ha := q0a hn hd
     have ha := ha.add (seeF hs 34 7 (.bool (decide (t1519 > x1495.f2))) KR KR)
     refine yStep ha 26 KR ?_; intro l_ ha HK
     refine stepp ha 26 (.bool (decide (t1519 > x1495.f2))) KR KR ?_; intro ax hax; exact HK _ _ _ hax rfl (Below.refl _ _)
   ·
    intro a W1523 ha HW he hf
    replace ha := ha.add (he 0 ((ptr p0)) KR KR)
    replace ha := ha.add (he 1 (.int .i64 a1) KR KR)
    replace ha := ha.add (he 3 (.string a3) KR KR)
    replace ha := ha.add (he 10 ((ptr b1497)) KR KR)
    replace ha := ha.add (gotF (m := 9) (j := 8) (d := 26) (v := .bool (decide (t1519 > x1495.f2))) hf KR KR KR)
    clear he hf
    refine endl (thenN (hK1515 _ _ ?_)); clear hK1515
    by_cases hp1524 : t1519 > x1495.f2
    ·
     replace h := q0b h hp1524
     refine condT ha KR KR (t := decide (t1519 > x1495.f2)) (decide_eq_true hp1524) ?_
     refine wp_seq_k (fun K1525 hK1526 => ?_)
     refine wp_region_lit ?_
     refine sp2 ha 8 (.pointer none) 9 (.int .i64 60) ?_; clear ha a; intro a ha
     refine endl (thenN (hK1526 _ _ ?_)); clear hK1526
     refine wp_ret ?_
     refine blkR ?_
     refine thenR ?_
     obtain rfl := Option.some.inj h
     exact finv ha _ _ rfl (.tmp (v := .pointer none) KR (.tmp (v := .int .i64 60) KR .nil)) (.tuple #[.pointer none, .int .i64 60]) rfl ⟨.pointer none, [], U1489, rfl, ⟨rfl, rfl⟩, hU0, (Wd.sg [[(b1497, .cells (ar1 p0 x1495.f1 x1495.f2 x1495.f3 x1495.f4.f2 x1495.f5 A1516 x1495.f6.length c1517 x1495.f7 x1495.f8 x1495.f9) 57 (0, 0))], U1489, F] bs [(rw0 A1516 x1495.f6 c1517)] os [U1489, F] [] HW [1, 2] [0] [] KR KR (by decide) KR)⟩
    ·
     replace h := q0c h hp1524
     refine condF ha KR KR (t := decide (t1519 > x1495.f2)) (decide_eq_false hp1524) ?_
     refine wp_skip ?_
     refine blkN ?_
     refine thenN (hK1506 _ _ (wp_seq_k fun K1527 hK1528 => wp_seq_k fun K1529 hK1530 => wp_region_lit ?_)); clear hK1506
     refine sp2 ha 35 ((ptr p0)) 36 (.int .i64 a1) ?_; clear ha a; intro a ha
     obtain ⟨t1531, ht1532, h_⟩ := q08 h; replace h := h_; clear h_
     refine stepc ha 37 KR KR (q1g.calls (⟨#[0]⟩ : ByteArray) 1024 t1531 _ ht1532) ?_; clear ha a; rintro e W1533 ⟨rfl, HX1534⟩
     refine ⟨_, rfl, ?_⟩; intro a ha; replace HW := HW.callw HX1534; clear HX1534
     obtain ⟨t1535, ht1536, h_⟩ := q08 h; replace h := h_; clear h_
     refine stepc ha 38 KR KR (q0l.calls K t1484.2 a1 t1531 p0 U1489 t1535 _ _ F ([(b1497, .cells (ar1 p0 x1495.f1 x1495.f2 x1495.f3 x1495.f4.f2 x1495.f5 A1516 x1495.f6.length c1517 x1495.f7 x1495.f8 x1495.f9) 57 (0, 0))] ++ (bs)) ((rw0 A1516 x1495.f6 c1517) :: os) hU0 (Wd.sg [[(b1497, .cells (ar1 p0 x1495.f1 x1495.f2 x1495.f3 x1495.f4.f2 x1495.f5 A1516 x1495.f6.length c1517 x1495.f7 x1495.f8 x1495.f9) 57 (0, 0))], U1489, F] bs [(rw0 A1516 x1495.f6 c1517)] os [U1489, F, [(b1497, .cells (ar1 p0 x1495.f1 x1495.f2 x1495.f3 x1495.f4.f2 x1495.f5 A1516 x1495.f6.length c1517 x1495.f7 x1495.f8 x1495.f9) 57 (0, 0))]] [(rw0 A1516 x1495.f6 c1517)] HW [1, 2, 0] [] [0] KR KR (by decide) KR) ht1536) ?_; clear ha a; rintro e W1538 ⟨U1537, rfl, hU0n, HX1539⟩
     refine ⟨_, rfl, ?_⟩; intro a ha; clear HW
     clear hU0; have hU0 := hU0n; clear hU0n
     have HW : Wd w W1538 ((b1497, .cells (ar1 p0 x1495.f1 x1495.f2 x1495.f3 x1495.f4.f2 x1495.f5 A1516 x1495.f6.length c1517 x1495.f7 x1495.f8 x1495.f9) 57 (0, 0)) :: U1537 ++ (F ++ bs)) ((rw0 A1516 x1495.f6 c1517) :: os) := Wd.sg [U1537, F, [(b1497, .cells (ar1 p0 x1495.f1 x1495.f2 x1495.f3 x1495.f4.f2 x1495.f5 A1516 x1495.f6.length c1517 x1495.f7 x1495.f8 x1495.f9) 57 (0, 0))]] bs [(rw0 A1516 x1495.f6 c1517)] os [[(b1497, .cells (ar1 p0 x1495.f1 x1495.f2 x1495.f3 x1495.f4.f2 x1495.f5 A1516 x1495.f6.length c1517 x1495.f7 x1495.f8 x1495.f9) 57 (0, 0))], U1537, F] [(rw0 A1516 x1495.f6 c1517)] HX1539 [2, 0, 1] [] [0] KR KR (by decide) KR; clear HX1539
     refine sp1 ha 11 (.int .i64 t1535.1) ?_; clear ha a; intro a ha
     refine endl (thenN (hK1530 _ _ (wp_seq_k fun K1542 hK1543 => wp_region_lit ?_))); clear hK1530
     refine sp2 ha 39 (.int .i64 t1535.1) 40 (.bool (t1535.1 != 0)) ?_; clear ha a; intro a ha
     refine endl (thenN (hK1543 _ _ ?_)); clear hK1543
     by_cases hp1544 : t1535.1 = 0
     ·
      replace h := q0b h hp1544
      refine condF ha KR KR (t := (t1535.1 != 0)) (q2f hp1544) ?_
      refine wp_skip ?_
      refine thenN (hK1528 _ _ (wp_seq_k fun K1547 hK1548 => wp_seq_k fun K1549 hK1550 => wp_region_lit ?_)); clear hK1528
      refine sp1 ha 42 ((ptr b1497)) ?_; clear ha a; intro a ha
      obtain ⟨U1551, hU1552, HW⟩ := q00.fold (x := (⟨(), x1495.f1, x1495.f2, x1495.f3, (⟨(), (), x1495.f4.f2⟩ : q03), x1495.f5, x1495.f6, x1495.f7, x1495.f8, x1495.f9⟩ : q00)) (HW)
      replace HW := HW
      replace HW : Wd w W1538 (U1551 ++ (U1537 ++ (F ++ bs))) (os) := HW
      obtain ⟨t1553, ht1554, h_⟩ := q08 h; replace h := h_; clear h_
      refine stepc ha 43 KR KR (q0j.calls K (⟨(), x1495.f1, x1495.f2, x1495.f3, (⟨(), (), x1495.f4.f2⟩ : q03), x1495.f5, x1495.f6, x1495.f7, x1495.f8, x1495.f9⟩ : q00) t1535.2 b1497 U1551 p0 U1537 t1553 _ _ F bs (os) hU1552 hU0 (HW) ht1554) ?_; clear ha a; rintro e W1557 ⟨U1555, U1556, rfl, hU1552n, hU0n, HX1558⟩
      refine ⟨_, rfl, ?_⟩; intro a ha; clear HW
      clear hU1552; have hU1552 := hU1552n; clear hU1552n
      clear hU0; have hU0 := hU0n; clear hU0n
      have HW : Wd w W1557 (U1555 ++ (U1556 ++ (F ++ bs))) (os) := HX1558; clear HX1558
      refine sp1 ha 12 (.int .i64 t1553.1) ?_; clear ha a; intro a ha
      refine endl (thenN (hK1550 _ _ (wp_seq_k fun K1561 hK1562 => wp_region_lit ?_))); clear hK1550
      refine sp2 ha 44 (.int .i64 t1553.1) 45 (.bool (t1553.1 != 0)) ?_; clear ha a; intro a ha
      refine endl (thenN (hK1562 _ _ ?_)); clear hK1562
      by_cases hp1563 : t1553.1 = 0
      ·
       replace h := q0b h hp1563
       refine condF ha KR KR (t := (t1553.1 != 0)) (q2f hp1563) ?_
       refine wp_skip ?_
       refine thenN (hK1548 _ _ (wp_seq_k fun K1566 hK1567 => wp_seq_k fun K1568 hK1569 => wp_region_lit ?_)); clear hK1548
       refine sp2 ha 47 ((ptr b1497)) 48 (.string a3) ?_; clear ha a; intro a ha
       obtain ⟨t1570, ht1571, h_⟩ := q08 h; replace h := h_; clear h_
       refine stepc ha 49 KR KR (q0s.calls K t1553.2.1 t1553.2.2 0 0 a3 1 b1497 U1555 p0 U1556 t1570 _ _ F bs (os) hG1 hU1552 hU0 (HW) ht1571) ?_; clear ha a; rintro e W1574 ⟨U1572, U1573, rfl, hU1552n, hU0n, HX1575⟩
       refine ⟨_, rfl, ?_⟩; intro a ha; clear HW
       clear hU1552; have hU1552 := hU1552n; clear hU1552n
       clear hU0; have hU0 := hU0n; clear hU0n
       have HW : Wd w W1574 (U1572 ++ (U1573 ++ (F ++ bs))) (os) := HX1575; clear HX1575
       refine sp1 ha 13 (.int .i64 t1570.1) ?_; clear ha a; intro a ha
       refine endl (thenN (hK1569 _ _ (wp_seq_k fun K1578 hK1579 => wp_region_lit ?_))); clear hK1569
       refine sp2 ha 50 (.int .i64 t1570.1) 51 (.bool (t1570.1 != 0)) ?_; clear ha a; intro a ha
       refine endl (thenN (hK1579 _ _ ?_)); clear hK1579
       by_cases hp1580 : t1570.1 = 0
       ·
        replace h := q0b h hp1580
        refine condF ha KR KR (t := (t1570.1 != 0)) (q2f hp1580) ?_
        refine wp_skip ?_
        refine thenN (hK1567 _ _ (wp_seq_k fun K1583 hK1584 => wp_seq_k fun K1585 hK1586 => wp_region_lit ?_)); clear hK1567
        refine sp1 ha 53 ((ptr b1497)) ?_; clear ha a; intro a ha
        obtain ⟨t1587, ht1588, h_⟩ := q08 h; replace h := h_; clear h_
        refine stepc ha 54 KR KR (q0j.calls K t1570.2.1 t1570.2.2 b1497 U1572 p0 U1573 t1587 _ _ F bs (os) hU1552 hU0 (HW) ht1588) ?_; clear ha a; rintro e W1591 ⟨U1589, U1590, rfl, hU1552n, hU0n, HX1592⟩
        refine ⟨_, rfl, ?_⟩; intro a ha; clear HW
        clear hU1552; have hU1552 := hU1552n; clear hU1552n
        clear hU0; have hU0 := hU0n; clear hU0n
        have HW : Wd w W1591 (U1589 ++ (U1590 ++ (F ++ bs))) (os) := HX1592; clear HX1592
        refine sp1 ha 14 (.int .i64 t1587.1) ?_; clear ha a; intro a ha
        refine endl (thenN (hK1586 _ _ (wp_seq_k fun K1595 hK1596 => wp_region_lit ?_))); clear hK1586
        refine sp2 ha 55 (.int .i64 t1587.1) 56 (.bool (t1587.1 != 0)) ?_; clear ha a; intro a ha
        refine endl (thenN (hK1596 _ _ ?_)); clear hK1596
        by_cases hp1597 : t1587.1 = 0
        ·
         replace h := q0b h hp1597
         refine condF ha KR KR (t := (t1587.1 != 0)) (q2f hp1597) ?_
         refine wp_skip ?_
         refine thenN (hK1584 _ _ (wp_seq_k fun K1600 hK1601 => wp_region_lit ?_)); clear hK1584
         refine sp5 ha 58 ((ptr b1497)) 59 ((ptr b1497)) 60 (.string a3) 61 (.string a3) 62 (.int .i64 (a3.size : Int)) ?_; clear ha a; intro a ha
         obtain ⟨t1602, ht1603, h_⟩ := q08 h; replace h := h_; clear h_
         refine stepc ha 63 KR KR (q0x.calls (a3.size : Int) t1602 _ ht1603) ?_; clear ha a; rintro e W1604 ⟨rfl, HX1605⟩
         refine ⟨_, rfl, ?_⟩; intro a ha; replace HW := HW.callw HX1605; clear HX1605
         refine sp2 ha 64 ((ptr b1497)) 65 (.pointer (some ⟨b1497, 5, none⟩)) ?_; clear ha a; intro a ha
         obtain ⟨A1606, c1607, HW⟩ := q00.unfold hU1552 (HW)
         replace HW : Wd w W1604 ((b1497, .cells (ar1 p0 t1587.2.1.f1 t1587.2.1.f2 t1587.2.1.f3 t1587.2.1.f4.f2 t1587.2.1.f5 A1606 t1587.2.1.f6.length c1607 t1587.2.1.f7 t1587.2.1.f8 t1587.2.1.f9) 57 (0, 0)) :: U1590 ++ (F ++ bs)) ((rw0 A1606 t1587.2.1.f6 c1607) :: os) := HW; clear hU1552
         refine q26 ha HW 0 (b := b1497) (C := (ar1 p0 t1587.2.1.f1 t1587.2.1.f2 t1587.2.1.f3 t1587.2.1.f4.f2 t1587.2.1.f5 A1606 t1587.2.1.f6.length c1607 t1587.2.1.f7 t1587.2.1.f8 t1587.2.1.f9)) (T := 57) KR 9 5 (.tmp 65) (.tmp 60) (.string a3) (ar1 p0 t1587.2.1.f1 t1587.2.1.f2 t1587.2.1.f3 t1587.2.1.f4.f2 a3 A1606 t1587.2.1.f6.length c1607 t1587.2.1.f7 t1587.2.1.f8 t1587.2.1.f9) rfl KR KR KR KR KR KR KR ?_; clear ha HW a; intro a W1609 HW ha
         refine sp2 ha 66 ((ptr b1497)) 67 (.pointer (some ⟨b1497, 7, none⟩)) ?_; clear ha a; intro a ha
         refine q26 ha HW 0 (b := b1497) (C := (ar1 p0 t1587.2.1.f1 t1587.2.1.f2 t1587.2.1.f3 t1587.2.1.f4.f2 a3 A1606 t1587.2.1.f6.length c1607 t1587.2.1.f7 t1587.2.1.f8 t1587.2.1.f9)) (T := 57) KR 3 7 (.tmp 67) (.tmp 63) (.int .i64 t1602) (ar1 p0 t1587.2.1.f1 t1587.2.1.f2 t1587.2.1.f3 t1587.2.1.f4.f2 a3 A1606 t1587.2.1.f6.length c1607 t1602 t1587.2.1.f8 t1587.2.1.f9) rfl KR KR KR KR KR KR KR ?_; clear ha HW a; intro a W1610 HW ha
         refine endl (thenN (hK1601 _ _ (wp_seq_k fun K1611 hK1612 => wp_region_lit ?_))); clear hK1601
         refine sp3 ha 68 ((ptr b1497)) 8 ((ptr b1497)) 9 (.int .i64 0) ?_; clear ha a; intro a ha
         refine endl (thenN (hK1612 _ _ ?_)); clear hK1612
         refine wp_ret ?_
         obtain ⟨U1613, hU1614, HW⟩ := q00.fold (x := (⟨(), t1587.2.1.f1, t1587.2.1.f2, t1587.2.1.f3, (⟨(), (), t1587.2.1.f4.f2⟩ : q03), a3, t1587.2.1.f6, t1602, t1587.2.1.f8, t1587.2.1.f9⟩ : q00)) (HW)
         replace HW := HW
         replace HW : Wd w W1610 (U1613 ++ (U1590 ++ (F ++ bs))) (os) := HW
         obtain rfl := Option.some.inj h
         exact finv ha _ _ rfl (.tmp (v := (ptr b1497)) KR (.tmp (v := .int .i64 0) KR .nil)) (.tuple #[(ptr b1497), .int .i64 0]) rfl ⟨(ptr b1497), U1613, U1590, rfl, ⟨b1497, rfl, hU1614⟩, hU0, (HW)⟩
        ·
         replace h := q0c h hp1597
         refine condT ha KR KR (t := (t1587.1 != 0)) (q2e hp1597) ?_
         refine wp_seq_k (fun K1598 hK1599 => ?_)
         refine wp_region_lit ?_
         refine sp3 ha 57 (.int .i64 t1587.1) 8 (.pointer none) 9 (.int .i64 t1587.1) ?_; clear ha a; intro a ha
         refine endl (thenN (hK1599 _ _ ?_)); clear hK1599
         refine wp_ret ?_
         refine thenR ?_
         obtain rfl := Option.some.inj h
         exact finv ha _ _ rfl (.tmp (v := .pointer none) KR (.tmp (v := .int .i64 t1587.1) KR .nil)) (.tuple #[.pointer none, .int .i64 t1587.1]) rfl ⟨.pointer none, [], U1590, rfl, ⟨rfl, rfl⟩, hU0, (Wd.sg [U1589, U1590, F] bs [] os [U1590, F] [] HW [1, 2] [0] [] KR KR (by decide) KR)⟩
       ·
        replace h := q0c h hp1580
        refine condT ha KR KR (t := (t1570.1 != 0)) (q2e hp1580) ?_
        refine wp_seq_k (fun K1581 hK1582 => ?_)
        refine wp_region_lit ?_
        refine sp3 ha 52 (.int .i64 t1570.1) 8 (.pointer none) 9 (.int .i64 t1570.1) ?_; clear ha a; intro a ha
        refine endl (thenN (hK1582 _ _ ?_)); clear hK1582
        refine wp_ret ?_
        refine thenR ?_
        obtain rfl := Option.some.inj h
        exact finv ha _ _ rfl (.tmp (v := .pointer none) KR (.tmp (v := .int .i64 t1570.1) KR .nil)) (.tuple #[.pointer none, .int .i64 t1570.1]) rfl ⟨.pointer none, [], U1573, rfl, ⟨rfl, rfl⟩, hU0, (Wd.sg [U1572, U1573, F] bs [] os [U1573, F] [] HW [1, 2] [0] [] KR KR (by decide) KR)⟩
      ·
       replace h := q0c h hp1563
       refine condT ha KR KR (t := (t1553.1 != 0)) (q2e hp1563) ?_
       refine wp_seq_k (fun K1564 hK1565 => ?_)
       refine wp_region_lit ?_
       refine sp3 ha 46 (.int .i64 t1553.1) 8 (.pointer none) 9 (.int .i64 t1553.1) ?_; clear ha a; intro a ha
       refine endl (thenN (hK1565 _ _ ?_)); clear hK1565
       refine wp_ret ?_
       refine thenR ?_
       obtain rfl := Option.some.inj h
       exact finv ha _ _ rfl (.tmp (v := .pointer none) KR (.tmp (v := .int .i64 t1553.1) KR .nil)) (.tuple #[.pointer none, .int .i64 t1553.1]) rfl ⟨.pointer none, [], U1556, rfl, ⟨rfl, rfl⟩, hU0, (Wd.sg [U1555, U1556, F] bs [] os [U1556, F] [] HW [1, 2] [0] [] KR KR (by decide) KR)⟩
     ·
      replace h := q0c h hp1544
      refine condT ha KR KR (t := (t1535.1 != 0)) (q2e hp1544) ?_
      refine wp_seq_k (fun K1545 hK1546 => ?_)
      refine wp_region_lit ?_
      refine sp3 ha 41 (.int .i64 t1535.1) 8 (.pointer none) 9 (.int .i64 t1535.1) ?_; clear ha a; intro a ha
      refine endl (thenN (hK1546 _ _ ?_)); clear hK1546
      refine wp_ret ?_
      refine thenR ?_
      obtain rfl := Option.some.inj h
      exact finv ha _ _ rfl (.tmp (v := .pointer none) KR (.tmp (v := .int .i64 t1535.1) KR .nil)) (.tuple #[.pointer none, .int .i64 t1535.1]) rfl ⟨.pointer none, [], U1537, rfl, ⟨rfl, rfl⟩, hU0, (Wd.sg [[(b1497, .cells (ar1 p0 x1495.f1 x1495.f2 x1495.f3 x1495.f4.f2 x1495.f5 A1516 x1495.f6.length c1517 x1495.f7 x1495.f8 x1495.f9) 57 (0, 0))], U1537, F] bs [(rw0 A1516 x1495.f6 c1517)] os [U1537, F] [] HW [1, 2] [0] [] KR KR (by decide) KR)⟩
def q1e.f (a0 : q00) : Option Int :=
 some (IntKind.wrap .i64 (a0.f2 - a0.f7))
set_option maxRecDepth 100000 in
set_option maxHeartbeats 4000000 in
theorem q1e.calls (a0 : q00) (A0_0 : Option Addr) (c0_0 : Nat) (cb0 : Nat) (cb1 : Nat) (r : Int) (w : World) (hc0 : CA w cb0 0 #[.pointer (some ⟨cb1, 0, none⟩), .int .i64 a0.f1, .int .i64 a0.f2, .int .i64 a0.f3, .int .i64 a0.f4.f2, .string a0.f5, .slice A0_0 a0.f6.length c0_0, .int .i64 a0.f7, .bool a0.f8, .bool a0.f9]) (hr0_0 : Rd 1 w (.slice A0_0 a0.f6.length c0_0) a0.f6.length (encs encS a0.f6)) (h : q1e.f a0 = some r) :
  Calls Tryd.prog 19 #[.pointer (some ⟨cb0, 0, none⟩)] w (fun e W' => e = .returned (.int .i64 r) ∧ Wd w W' [] [] ) := by
 refine q17 (n := 14) (l := [(0, (ptr cb0))]) Tryd.func19 rfl rfl (Nat.le_of_ble_eq_true KR) (q07 rfl (q0q _)) ?_
 intro a ha
 have HW := Wd.refl w
 unfold q1e.f at h
 refine wp_seq_k (fun K1669 hK1670 => ?_)
 refine wp_region_lit ?_
 refine sp1 ha 2 (.int .i64 0) ?_; clear ha a; intro a ha
 refine endl (thenN (hK1670 _ _ (wp_seq_k fun K1671 hK1672 => wp_seq_k fun K1673 hK1674 => wp_region_lit ?_))); clear hK1670
 refine sp2 ha 3 ((ptr cb0)) 4 (.bool false) ?_; clear ha a; intro a ha
 refine endl (thenN (hK1674 _ _ ?_)); clear hK1674
 refine condF ha KR KR (t := false) (rfl) ?_
 refine wp_skip ?_
 refine thenN (hK1672 _ _ (wp_seq_k fun K1675 hK1676 => ?_)); clear hK1672
 refine q2z 9 KR KR ha HW [.fix ((ptr cb0)), .fix ((ptr cb0)), .fix (.pointer (some ⟨cb0, 2, none⟩)), .fix (.int .i64 a0.f2), .fix ((ptr cb0)), .fix ((ptr cb0)), .fix (.pointer (some ⟨cb0, 7, none⟩)), .fix (.int .i64 a0.f7), .fix (.int .i64 (IntKind.wrap .i64 (a0.f2 - a0.f7)))] ?_ ?_
 ·
  refine ⟨?_, ?_, ?_, ?_, ?_, ?_, ?_, ?_, ?_, trivial⟩
  ·
   intro a wr hn hd HW hs; have ha := q0a hn hd
   have ha := ha.add (seeE hs 0 ((ptr cb0)) KR KR)
   refine yStep ha 5 KR ?_; intro l_ ha HK
   refine stepp ha 5 ((ptr cb0)) KR KR ?_; intro ax hax; exact HK _ _ _ hax rfl (Below.refl _ _)
  ·
   intro a wr hn hd HW hs; have ha := q0a hn hd
   have ha := ha.add (seeF hs 5 0 ((ptr cb0)) KR KR)
   refine yStep ha 6 KR ?_; intro l_ ha HK
   refine stepp ha 6 ((ptr cb0)) KR KR ?_; intro ax hax; exact HK _ _ _ hax rfl (Below.refl _ _)
  ·
   intro a wr hn hd HW hs; have ha := q0a hn hd
   have ha := ha.add (seeF hs 6 1 ((ptr cb0)) KR KR)
   refine yStep ha 7 KR ?_; intro l_ ha HK
   refine stepp ha 7 (.pointer (some ⟨cb0, 2, none⟩)) KR KR ?_; intro ax hax; exact HK _ _ _ hax rfl (Below.refl _ _)
  ·
   intro a wr hn hd HW hs; have ha := q0a hn hd
   have ha := ha.add (seeF hs 7 2 (.pointer (some ⟨cb0, 2, none⟩)) KR KR)
   refine yStep ha 8 KR ?_; intro l_ ha HK
   refine stepl ha 8 (HW.ca0 hc0) 3 2 (.tmp 7) (.int .i64 a0.f2) rfl KR KR KR ?_; intro ax hax; exact HK _ _ _ hax rfl (Below.refl _ _)
  ·
   intro a wr hn hd HW hs; have ha := q0a hn hd
   have ha := ha.add (seeE hs 0 ((ptr cb0)) KR KR)
   refine yStep ha 9 KR ?_; intro l_ ha HK
   refine stepp ha 9 ((ptr cb0)) KR KR ?_; intro ax hax; exact HK _ _ _ hax rfl (Below.refl _ _)
  ·
   intro a wr hn hd HW hs; have ha := q0a hn hd
   have ha := ha.add (seeF hs 9 4 ((ptr cb0)) KR KR)
   refine yStep ha 10 KR ?_; intro l_ ha HK
   refine stepp ha 10 ((ptr cb0)) KR KR ?_; intro ax hax; exact HK _ _ _ hax rfl (Below.refl _ _)
  ·
   intro a wr hn hd HW hs; have ha := q0a hn hd
   have ha := ha.add (seeF hs 10 5 ((ptr cb0)) KR KR)
   refine yStep ha 11 KR ?_; intro l_ ha HK
   refine stepp ha 11 (.pointer (some ⟨cb0, 7, none⟩)) KR KR ?_; intro ax hax; exact HK _ _ _ hax rfl (Below.refl _ _)
  ·
   intro a wr hn hd HW hs; have ha := q0a hn hd
   have ha := ha.add (seeF hs 11 6 (.pointer (some ⟨cb0, 7, none⟩)) KR KR)
   refine yStep ha 12 KR ?_; intro l_ ha HK
   refine stepl ha 12 (HW.ca0 hc0) 3 7 (.tmp 11) (.int .i64 a0.f7) rfl KR KR KR ?_; intro ax hax; exact HK _ _ _ hax rfl (Below.refl _ _)
  ·
   intro a wr hn hd HW hs; have ha := q0a hn hd
   have ha := ha.add (seeF hs 8 3 (.int .i64 a0.f2) KR KR)
   have ha := ha.add (seeF hs 12 7 (.int .i64 a0.f7) KR KR)
   refine yStep ha 13 KR ?_; intro l_ ha HK
   refine stepp ha 13 (.int .i64 (IntKind.wrap .i64 (a0.f2 - a0.f7))) KR KR ?_; intro ax hax; exact HK _ _ _ hax rfl (Below.refl _ _)
 ·
  intro a W1677 ha HW he hf
  replace ha := ha.add (gotF (m := 9) (j := 8) (d := 13) (v := .int .i64 (IntKind.wrap .i64 (a0.f2 - a0.f7))) hf KR KR KR)
  clear he hf
  refine sp1 ha 2 (.int .i64 (IntKind.wrap .i64 (a0.f2 - a0.f7))) ?_; clear ha a; intro a ha
  refine endl (thenN (hK1676 _ _ ?_)); clear hK1676
  refine wp_ret ?_
  obtain rfl := Option.some.inj h
  exact finv ha _ _ rfl (.tmp (v := .int .i64 (IntKind.wrap .i64 (a0.f2 - a0.f7))) KR .nil) (.int .i64 (IntKind.wrap .i64 (a0.f2 - a0.f7))) rfl ⟨rfl, HW.pick [] [] (by decide) (by decide) rfl KR⟩
end Go.Proofs.YtokdiacjcbolfaaDoor.F
namespace Go.Proofs.YtokdiacjcbolfaaDoor.F
open Go Go.RowKit Go.Proofs.YtokdiacjcbolfaaDoor.X
set_option linter.unusedVariables false
set_option linter.unusedSimpArgs false
def q12.f (K : Nat) (a0 : q00) (a0_0 : q04) (a1 : ByteArray) : Option (Int × q00 × q04) :=
 (q0x.f (a1.size : Int)).bind fun t1718 => (if a0.f9 = true then (some (41, (⟨(), a0.f1, a0.f2, a0.f3, (⟨(), (), a0.f4.f2⟩ : q03), a0.f5, a0.f6, a0.f7, a0.f8, a0.f9⟩ : q00), a0_0)) else (if (a1.size : Int) > 65536 then (some (2, (⟨(), a0.f1, a0.f2, a0.f3, (⟨(), (), a0.f4.f2⟩ : q03), a0.f5, a0.f6, a0.f7, a0.f8, a0.f9⟩ : q00), a0_0)) else ((q1e.f (⟨(), a0.f1, a0.f2, a0.f3, (⟨(), (), a0.f4.f2⟩ : q03), a0.f5, a0.f6, a0.f7, a0.f8, a0.f9⟩ : q00)).bind fun t1745 => (if t1718 > t1745 then (some (60, (⟨(), a0.f1, a0.f2, a0.f3, (⟨(), (), a0.f4.f2⟩ : q03), a0.f5, a0.f6, a0.f7, a0.f8, a0.f9⟩ : q00), a0_0)) else ((q0s.f K (⟨(), a0.f1, a0.f2, a0.f3, (⟨(), (), a0.f4.f2⟩ : q03), a0.f5, a0.f6, a0.f7, a0.f8, a0.f9⟩ : q00) a0_0 a0.f3 a0.f7 a1 (IntKind.wrap .i64 ((a0.f6.length : Int) + 2))).bind fun t1761 => (if t1761.1 = 0 then (asrt (t1761.2.1.f6.length + ([a1] : List ByteArray).length ≤ 8796093022208) (some (0, (⟨(), t1761.2.1.f1, t1761.2.1.f2, t1761.2.1.f3, (⟨(), (), t1761.2.1.f4.f2⟩ : q03), t1761.2.1.f5, t1761.2.1.f6 ++ ([a1] : List ByteArray), IntKind.wrap .i64 (t1761.2.1.f7 + t1718), t1761.2.1.f8, t1761.2.1.f9⟩ : q00), t1761.2.2))) else (some (t1761.1, t1761.2.1, t1761.2.2))))))))
set_option maxRecDepth 100000 in
set_option maxHeartbeats 4000000 in
theorem q12.calls (K : Nat) (a0 : q00) (a0_0 : q04) (a1 : ByteArray) (p0 : Nat) (U0 : Blks) (p0_0 : Nat) (U0_0 : Blks)  (r : Int × q00 × q04) (w w1 : World) (F bs : Blks) (os : List OwnA) (hG1 : CA w 1 0 (encs (encIK .u32) q0h).toArray) (hU0 : q00.At p0 p0_0 a0 U0) (hU0_0 : q04.At p0_0  a0_0 U0_0) (HW : Wd w w1 (U0 ++ (U0_0 ++ (F ++ bs))) os) (h : q12.f K a0 a0_0 a1 = some r) :
  Calls Tryd.prog 12 #[.pointer (some ⟨p0, 0, none⟩), .string a1] w1 (fun e W' => ∃ U0' : Blks, ∃ U0_0' : Blks, e = .returned (.int .i64 r.1) ∧ q00.At p0 p0_0 r.2.1 U0' ∧ q04.At p0_0  r.2.2 U0_0' ∧ Wd w W' (U0' ++ (U0_0' ++ (F ++ bs))) (os)) := by
 refine q17 (n := 65) (l := [(0, (ptr p0)), (1, .string a1)]) Tryd.func12 rfl rfl (Nat.le_of_ble_eq_true KR) (q07 rfl (q07 rfl (q0q _))) ?_
 intro a ha
 replace HW : Wd w w1 (U0 ++ (U0_0 ++ (F ++ bs))) (os) := HW
 unfold q12.f at h
 refine wp_seq_k (fun K1714 hK1715 => ?_)
 refine wp_region_lit ?_
 refine sp1 ha 4 (.int .i64 0) ?_; clear ha a; intro a ha
 refine endl (thenN (hK1715 _ _ (wp_seq_k fun K1716 hK1717 => wp_region_lit ?_))); clear hK1715
 refine sp2 ha 7 (.string a1) 8 (.int .i64 (a1.size : Int)) ?_; clear ha a; intro a ha
 obtain ⟨t1718, ht1719, h_⟩ := q08 h; replace h := h_; clear h_
 refine stepc ha 9 KR KR (q0x.calls (a1.size : Int) t1718 _ ht1719) ?_; clear ha a; rintro e W1720 ⟨rfl, HX1721⟩
 refine ⟨_, rfl, ?_⟩; intro a ha; replace HW := HW.callw HX1721; clear HX1721
 refine sp1 ha 5 (.int .i64 t1718) ?_; clear ha a; intro a ha
 refine endl (thenN (hK1717 _ _ (wp_seq_k fun K1722 hK1723 => ?_))); clear hK1717
 refine wp_block ?_
 refine wp_seq_k (fun K1724 hK1725 => ?_)
 refine wp_region_lit ?_
 refine sp3 ha 11 ((ptr p0)) 12 (.bool false) 10 (.bool false) ?_; clear ha a; intro a ha
 refine endl (thenN (hK1725 _ _ ?_)); clear hK1725
 refine condF ha KR KR (t := false) (rfl) ?_
 refine wp_seq_k (fun K1726 hK1727 => ?_)
 refine wp_region_lit ?_
 refine sp3 ha 14 ((ptr p0)) 15 ((ptr p0)) 16 (.pointer (some ⟨p0, 9, none⟩)) ?_; clear ha a; intro a ha
 obtain ⟨A1728, c1729, HW⟩ := q00.unfold hU0 (HW)
 replace HW : Wd w W1720 ((p0, .cells (ar1 p0_0 a0.f1 a0.f2 a0.f3 a0.f4.f2 a0.f5 A1728 a0.f6.length c1729 a0.f7 a0.f8 a0.f9) 57 (0, 0)) :: U0_0 ++ (F ++ bs)) ((rw0 A1728 a0.f6 c1729) :: os) := HW; clear hU0
 refine stepl ha 17 (HW.ca (i := 0) (b := p0) (C := (ar1 p0_0 a0.f1 a0.f2 a0.f3 a0.f4.f2 a0.f5 A1728 a0.f6.length c1729 a0.f7 a0.f8 a0.f9)) (T := 57) (fr := (0, 0)) KR) 4 9 (.tmp 16) (.bool a0.f9) rfl KR KR KR ?_; clear ha a; intro a ha
 refine sp1 ha 13 (.bool a0.f9) ?_; clear ha a; intro a ha
 refine endl (thenN (hK1727 _ _ ?_)); clear hK1727
 by_cases hp1731 : a0.f9 = true
 ·
  replace h := q0b h hp1731
  refine condT ha KR KR (t := a0.f9) (hp1731) ?_
  refine wp_seq_k (fun K1732 hK1733 => ?_)
  refine wp_region_lit ?_
  refine sp1 ha 4 (.int .i64 41) ?_; clear ha a; intro a ha
  refine endl (thenN (hK1733 _ _ ?_)); clear hK1733
  refine wp_ret ?_
  refine blkR ?_
  refine thenR ?_
  obtain ⟨U1734, hU1735, HW⟩ := q00.fold (x := (⟨(), a0.f1, a0.f2, a0.f3, (⟨(), (), a0.f4.f2⟩ : q03), a0.f5, a0.f6, a0.f7, a0.f8, a0.f9⟩ : q00)) (HW)
  replace HW := HW
  replace HW : Wd w W1720 (U1734 ++ (U0_0 ++ (F ++ bs))) (os) := HW
  obtain rfl := Option.some.inj h
  exact finv ha _ _ rfl (.tmp (v := .int .i64 41) KR .nil) (.int .i64 41) rfl ⟨U1734, U0_0, rfl, hU1735, hU0_0, (HW)⟩
 ·
  replace h := q0c h hp1731
  refine condF ha KR KR (t := a0.f9) (q2w hp1731) ?_
  refine wp_seq_k (fun K1736 hK1737 => ?_)
  refine wp_region_lit ?_
  refine sp4 ha 19 (.string a1) 20 (.int .i64 (a1.size : Int)) 21 (.bool (decide ((a1.size : Int) > 65536))) 18 (.bool (decide ((a1.size : Int) > 65536))) ?_; clear ha a; intro a ha
  refine endl (thenN (hK1737 _ _ ?_)); clear hK1737
  by_cases hp1738 : (a1.size : Int) > 65536
  ·
   replace h := q0b h hp1738
   refine condT ha KR KR (t := decide ((a1.size : Int) > 65536)) (decide_eq_true hp1738) ?_
   refine wp_seq_k (fun K1739 hK1740 => ?_)
   refine wp_region_lit ?_
   refine sp1 ha 4 (.int .i64 2) ?_; clear ha a; intro a ha
   refine endl (thenN (hK1740 _ _ ?_)); clear hK1740
   refine wp_ret ?_
   refine blkR ?_
   refine thenR ?_
   obtain ⟨U1741, hU1742, HW⟩ := q00.fold (x := (⟨(), a0.f1, a0.f2, a0.f3, (⟨(), (), a0.f4.f2⟩ : q03), a0.f5, a0.f6, a0.f7, a0.f8, a0.f9⟩ : q00)) (HW)
   replace HW := HW
   replace HW : Wd w W1720 (U1741 ++ (U0_0 ++ (F ++ bs))) (os) := HW
   obtain rfl := Option.some.inj h
   exact finv ha _ _ rfl (.tmp (v := .int .i64 2) KR .nil) (.int .i64 2) rfl ⟨U1741, U0_0, rfl, hU1742, hU0_0, (HW)⟩
  ·
   replace h := q0c h hp1738
   refine condF ha KR KR (t := decide ((a1.size : Int) > 65536)) (decide_eq_false hp1738) ?_
   refine wp_seq_k (fun K1743 hK1744 => ?_)
   refine wp_region_lit ?_
   refine sp2 ha 23 (.int .i64 t1718) 24 ((ptr p0)) ?_; clear ha a; intro a ha
   obtain ⟨t1745, ht1746, h_⟩ := q08 h; replace h := h_; clear h_
   refine stepc ha 25 KR KR (q1e.calls (⟨(), a0.f1, a0.f2, a0.f3, (⟨(), (), a0.f4.f2⟩ : q03), a0.f5, a0.f6, a0.f7, a0.f8, a0.f9⟩ : q00) A1728 c1729 p0 p0_0 t1745 _ (HW.ca (i := 0) (b := p0) (C := (ar1 p0_0 a0.f1 a0.f2 a0.f3 a0.f4.f2 a0.f5 A1728 a0.f6.length c1729 a0.f7 a0.f8 a0.f9)) (T := 57) (fr := (0, 0)) KR) (HW.rdo (i := 0) (q := (rw0 A1728 a0.f6 c1729)) KR) ht1746) ?_; clear ha a; rintro e W1747 ⟨rfl, HX1748⟩
   refine ⟨_, rfl, ?_⟩; intro a ha; replace HW := HW.callw HX1748; clear HX1748
   refine sp2 ha 26 (.bool (decide (t1718 > t1745))) 22 (.bool (decide (t1718 > t1745))) ?_; clear ha a; intro a ha
   refine endl (thenN (hK1744 _ _ ?_)); clear hK1744
   by_cases hp1749 : t1718 > t1745
   ·
    replace h := q0b h hp1749
    refine condT ha KR KR (t := decide (t1718 > t1745)) (decide_eq_true hp1749) ?_
    refine wp_seq_k (fun K1750 hK1751 => ?_)
    refine wp_region_lit ?_
    refine sp1 ha 4 (.int .i64 60) ?_; clear ha a; intro a ha
    refine endl (thenN (hK1751 _ _ ?_)); clear hK1751
    refine wp_ret ?_
    refine blkR ?_
    refine thenR ?_
    obtain ⟨U1752, hU1753, HW⟩ := q00.fold (x := (⟨(), a0.f1, a0.f2, a0.f3, (⟨(), (), a0.f4.f2⟩ : q03), a0.f5, a0.f6, a0.f7, a0.f8, a0.f9⟩ : q00)) (HW)
    replace HW := HW
    replace HW : Wd w W1747 (U1752 ++ (U0_0 ++ (F ++ bs))) (os) := HW
    obtain rfl := Option.some.inj h
    exact finv ha _ _ rfl (.tmp (v := .int .i64 60) KR .nil) (.int .i64 60) rfl ⟨U1752, U0_0, rfl, hU1753, hU0_0, (HW)⟩
   ·
    replace h := q0c h hp1749
    refine condF ha KR KR (t := decide (t1718 > t1745)) (decide_eq_false hp1749) ?_
    refine wp_skip ?_
    refine blkN ?_
    refine thenN (hK1723 _ _ (wp_seq_k fun K1754 hK1755 => wp_seq_k fun K1756 hK1757 => ?_)); clear hK1723
    refine regionGT 16 KR KR ha HW [.fix ((ptr p0)), .fix ((ptr p0)), .fix ((ptr p0)), .fix (.pointer (some ⟨p0, 3, none⟩)), .fix (.int .i64 a0.f3), .fix ((ptr p0)), .fix ((ptr p0)), .fix (.pointer (some ⟨p0, 7, none⟩)), .fix (.int .i64 a0.f7), .fix (.string a1), .fix ((ptr p0)), .fix ((ptr p0)), .fix (.pointer (some ⟨p0, 6, none⟩)), .fix (.slice A1728 a0.f6.length c1729), .fix (.int .i64 (a0.f6.length : Int)), .fix (.int .i64 (IntKind.wrap .i64 ((a0.f6.length : Int) + 2)))] ?_ ?_
    ·
     refine ⟨?_, ?_, ?_, ?_, ?_, ?_, ?_, ?_, ?_, ?_, ?_, ?_, ?_, ?_, ?_, ?_, trivial⟩
     ·
      intro a wr hn hd HW hs; have ha := q0a hn hd
      have ha := ha.add (seeE hs 0 ((ptr p0)) KR KR)
      refine yStep ha 27 KR ?_; intro l_ ha HK
      refine stepp ha 27 ((ptr p0)) KR KR ?_; intro ax hax; exact HK _ _ _ hax rfl (Below.refl _ _)
     ·
      intro a wr hn hd HW hs; have ha := q0a hn hd
      have ha := ha.add (seeE hs 0 ((ptr p0)) KR KR)
      refine yStep ha 28 KR ?_; intro l_ ha HK
      refine stepp ha 28 ((ptr p0)) KR KR ?_; intro ax hax; exact HK _ _ _ hax rfl (Below.refl _ _)
     ·
      intro a wr hn hd HW hs; have ha := q0a hn hd
      have ha := ha.add (seeF hs 28 1 ((ptr p0)) KR KR)
      refine yStep ha 29 KR ?_; intro l_ ha HK
      refine stepp ha 29 ((ptr p0)) KR KR ?_; intro ax hax; exact HK _ _ _ hax rfl (Below.refl _ _)
     ·
      intro a wr hn hd HW hs; have ha := q0a hn hd
      have ha := ha.add (seeF hs 29 2 ((ptr p0)) KR KR)
      refine yStep ha 30 KR ?_; intro l_ ha HK
      refine stepp ha 30 (.pointer (some ⟨p0, 3, none⟩)) KR KR ?_; intro ax hax; exact HK _ _ _ hax rfl (Below.refl _ _)
     ·
      intro a wr hn hd HW hs; have ha := q0a hn hd
      have ha := ha.add (seeF hs 30 3 (.pointer (some ⟨p0, 3, none⟩)) KR KR)
      refine yStep ha 31 KR ?_; intro l_ ha HK
      refine stepl ha 31 (HW.ca (i := 0) (b := p0) (C := (ar1 p0_0 a0.f1 a0.f2 a0.f3 a0.f4.f2 a0.f5 A1728 a0.f6.length c1729 a0.f7 a0.f8 a0.f9)) (T := 57) (fr := (0, 0)) KR) 3 3 (.tmp 30) (.int .i64 a0.f3) rfl KR KR KR ?_; intro ax hax; exact HK _ _ _ hax rfl (Below.refl _ _)
     ·
      intro a wr hn hd HW hs; have ha := q0a hn hd
      have ha := ha.add (seeE hs 0 ((ptr p0)) KR KR)
      refine yStep ha 32 KR ?_; intro l_ ha HK
      refine stepp ha 32 ((ptr p0)) KR KR ?_; intro ax hax; exact HK _ _ _ hax rfl (Below.refl _ _)
     ·
      intro a wr hn hd HW hs; have ha := q0a hn hd
      have ha := ha.add (seeF hs 32 5 ((ptr p0)) KR KR)
      refine yStep ha 33 KR ?_; intro l_ ha HK
      refine stepp ha 33 ((ptr p0)) KR KR ?_; intro ax hax; exact HK _ _ _ hax rfl (Below.refl _ _)
     ·
      intro a wr hn hd HW hs; have ha := q0a hn hd
      have ha := ha.add (seeF hs 33 6 ((ptr p0)) KR KR)
      refine yStep ha 34 KR ?_; intro l_ ha HK
      refine stepp ha 34 (.pointer (some ⟨p0, 7, none⟩)) KR KR ?_; intro ax hax; exact HK _ _ _ hax rfl (Below.refl _ _)
     ·
      intro a wr hn hd HW hs; have ha := q0a hn hd
      have ha := ha.add (seeF hs 34 7 (.pointer (some ⟨p0, 7, none⟩)) KR KR)
      refine yStep ha 35 KR ?_; intro l_ ha HK
      refine stepl ha 35 (HW.ca (i := 0) (b := p0) (C := (ar1 p0_0 a0.f1 a0.f2 a0.f3 a0.f4.f2 a0.f5 A1728 a0.f6.length c1729 a0.f7 a0.f8 a0.f9)) (T := 57) (fr := (0, 0)) KR) 3 7 (.tmp 34) (.int .i64 a0.f7) rfl KR KR KR ?_; intro ax hax; exact HK _ _ _ hax rfl (Below.refl _ _)
     ·
      intro a wr hn hd HW hs; have ha := q0a hn hd
      have ha := ha.add (seeE hs 1 (.string a1) KR KR)
      refine yStep ha 36 KR ?_; intro l_ ha HK
      refine stepp ha 36 (.string a1) KR KR ?_; intro ax hax; exact HK _ _ _ hax rfl (Below.refl _ _)
     ·
      intro a wr hn hd HW hs; have ha := q0a hn hd
      have ha := ha.add (seeE hs 0 ((ptr p0)) KR KR)
      refine yStep ha 37 KR ?_; intro l_ ha HK
      refine stepp ha 37 ((ptr p0)) KR KR ?_; intro ax hax; exact HK _ _ _ hax rfl (Below.refl _ _)
     ·
      intro a wr hn hd HW hs; have ha := q0a hn hd
      have ha := ha.add (seeF hs 37 10 ((ptr p0)) KR KR)
      refine yStep ha 38 KR ?_; intro l_ ha HK
      refine stepp ha 38 ((ptr p0)) KR KR ?_; intro ax hax; exact HK _ _ _ hax rfl (Below.refl _ _)
     ·
      intro a wr hn hd HW hs; have ha := q0a hn hd
      have ha := ha.add (seeF hs 38 11 ((ptr p0)) KR KR)
      refine yStep ha 39 KR ?_; intro l_ ha HK
      refine stepp ha 39 (.pointer (some ⟨p0, 6, none⟩)) KR KR ?_; intro ax hax; exact HK _ _ _ hax rfl (Below.refl _ _)
     ·
      intro a wr hn hd HW hs; have ha := q0a hn hd
      have ha := ha.add (seeF hs 39 12 (.pointer (some ⟨p0, 6, none⟩)) KR KR)
      refine yStep ha 40 KR ?_; intro l_ ha HK
      refine stepl ha 40 (HW.ca (i := 0) (b := p0) (C := (ar1 p0_0 a0.f1 a0.f2 a0.f3 a0.f4.f2 a0.f5 A1728 a0.f6.length c1729 a0.f7 a0.f8 a0.f9)) (T := 57) (fr := (0, 0)) KR) 22 6 (.tmp 39) (.slice A1728 a0.f6.length c1729) rfl KR KR KR ?_; intro ax hax; exact HK _ _ _ hax rfl (Below.refl _ _)
     ·
      intro a wr hn hd HW hs; have ha := q0a hn hd
      have ha := ha.add (seeF hs 40 13 (.slice A1728 a0.f6.length c1729) KR KR)
      refine yStep ha 41 KR ?_; intro l_ ha HK
      refine stepp ha 41 (.int .i64 (a0.f6.length : Int)) KR KR ?_; intro ax hax; exact HK _ _ _ hax rfl (Below.refl _ _)
     ·
      intro a wr hn hd HW hs; have ha := q0a hn hd
      have ha := ha.add (seeF hs 41 14 (.int .i64 (a0.f6.length : Int)) KR KR)
      refine yStep ha 42 KR ?_; intro l_ ha HK
      refine stepp ha 42 (.int .i64 (IntKind.wrap .i64 ((a0.f6.length : Int) + 2))) KR KR ?_; intro ax hax; exact HK _ _ _ hax rfl (Below.refl _ _)
    ·
     intro a W1758 ha HW he hf
     replace ha := ha.add (he 0 ((ptr p0)) KR KR)
     replace ha := ha.add (he 1 (.string a1) KR KR)
     replace ha := ha.add (he 5 (.int .i64 t1718) KR KR)
     replace ha := ha.add (gotF (m := 16) (j := 0) (d := 27) (v := (ptr p0)) hf KR KR KR)
     replace ha := ha.add (gotF (m := 16) (j := 4) (d := 31) (v := .int .i64 a0.f3) hf KR KR KR)
     replace ha := ha.add (gotF (m := 16) (j := 8) (d := 35) (v := .int .i64 a0.f7) hf KR KR KR)
     replace ha := ha.add (gotF (m := 16) (j := 9) (d := 36) (v := .string a1) hf KR KR KR)
     replace ha := ha.add (gotF (m := 16) (j := 15) (d := 42) (v := .int .i64 (IntKind.wrap .i64 ((a0.f6.length : Int) + 2))) hf KR KR KR)
     clear he hf
     obtain ⟨U1759, hU1760, HW⟩ := q00.fold (x := (⟨(), a0.f1, a0.f2, a0.f3, (⟨(), (), a0.f4.f2⟩ : q03), a0.f5, a0.f6, a0.f7, a0.f8, a0.f9⟩ : q00)) (HW)
     replace HW := HW
     replace HW : Wd w W1758 (U1759 ++ (U0_0 ++ (F ++ bs))) (os) := HW
     obtain ⟨t1761, ht1762, h_⟩ := q08 h; replace h := h_; clear h_
     refine stepc ha 43 KR KR (q0s.calls K (⟨(), a0.f1, a0.f2, a0.f3, (⟨(), (), a0.f4.f2⟩ : q03), a0.f5, a0.f6, a0.f7, a0.f8, a0.f9⟩ : q00) a0_0 a0.f3 a0.f7 a1 (IntKind.wrap .i64 ((a0.f6.length : Int) + 2)) p0 U1759 p0_0 U0_0 t1761 _ _ F bs (os) hG1 hU1760 hU0_0 (HW) ht1762) ?_; clear ha a; rintro e W1765 ⟨U1763, U1764, rfl, hU1760n, hU0_0n, HX1766⟩
     refine ⟨_, rfl, ?_⟩; intro a ha; clear HW
     clear hU1760; have hU1760 := hU1760n; clear hU1760n
     clear hU0_0; have hU0_0 := hU0_0n; clear hU0_0n
     have HW : Wd w W1765 (U1763 ++ (U1764 ++ (F ++ bs))) (os) := HX1766; clear HX1766
     refine sp1 ha 6 (.int .i64 t1761.1) ?_; clear ha a; intro a ha
     refine endl (thenN (hK1757 _ _ (wp_seq_k fun K1769 hK1770 => wp_region_lit ?_))); clear hK1757
     refine sp2 ha 44 (.int .i64 t1761.1) 45 (.bool (t1761.1 != 0)) ?_; clear ha a; intro a ha
     refine endl (thenN (hK1770 _ _ ?_)); clear hK1770
     by_cases hp1771 : t1761.1 = 0
     ·
      replace h := q0b h hp1771
      refine condF ha KR KR (t := (t1761.1 != 0)) (q2f hp1771) ?_
      refine wp_skip ?_
      refine thenN (hK1755 _ _ (wp_seq_k fun K1774 hK1775 => wp_region_lit ?_)); clear hK1755
      refine sp4 ha 47 ((ptr p0)) 48 ((ptr p0)) 49 ((ptr p0)) 50 (.pointer (some ⟨p0, 6, none⟩)) ?_; clear ha a; intro a ha
      obtain ⟨A1776, c1777, HW⟩ := q00.unfold hU1760 (HW)
      replace HW : Wd w W1765 ((p0, .cells (ar1 p0_0 t1761.2.1.f1 t1761.2.1.f2 t1761.2.1.f3 t1761.2.1.f4.f2 t1761.2.1.f5 A1776 t1761.2.1.f6.length c1777 t1761.2.1.f7 t1761.2.1.f8 t1761.2.1.f9) 57 (0, 0)) :: U1764 ++ (F ++ bs)) ((rw0 A1776 t1761.2.1.f6 c1777) :: os) := HW; clear hU1760
      refine stepl ha 51 (HW.ca (i := 0) (b := p0) (C := (ar1 p0_0 t1761.2.1.f1 t1761.2.1.f2 t1761.2.1.f3 t1761.2.1.f4.f2 t1761.2.1.f5 A1776 t1761.2.1.f6.length c1777 t1761.2.1.f7 t1761.2.1.f8 t1761.2.1.f9)) (T := 57) (fr := (0, 0)) KR) 22 6 (.tmp 50) (.slice A1776 t1761.2.1.f6.length c1777) rfl KR KR KR ?_; clear ha a; intro a ha
      refine sp1 ha 52 (.string a1) ?_; clear ha a; intro a ha
      refine stepbs ha HW 53 9 1 1 #[.string a1] [.string a1] (by decide) KR KR KR KR ?_; clear ha HW a; intro b1779 a W1780 HW ha
      replace HW : Wd w W1780 ((p0, .cells (ar1 p0_0 t1761.2.1.f1 t1761.2.1.f2 t1761.2.1.f3 t1761.2.1.f4.f2 t1761.2.1.f5 A1776 t1761.2.1.f6.length c1777 t1761.2.1.f7 t1761.2.1.f8 t1761.2.1.f9) 57 (0, 0)) :: U1764 ++ (F ++ bs)) ((rw0 (some ⟨b1779, 0, none⟩) ([a1] : List ByteArray) 1) :: (rw0 A1776 t1761.2.1.f6 c1777) :: os) := HW
      replace ha := ha.turn 53 (v := .slice (some ⟨b1779, 0, none⟩) ([a1] : List ByteArray).length 1) KR rfl
      obtain ⟨hA1782, h_⟩ := q0d h; replace h := h_; clear h_
      refine stepape encS ha HW 54 1 22 9 (.tmp 51) (.tmp 53) (.string (⟨#[]⟩ : ByteArray)) 1 16 (.slice A1776 t1761.2.1.f6.length c1777) t1761.2.1.f6 (.slice (some ⟨b1779, 0, none⟩) ([a1] : List ByteArray).length 1) ([a1] : List ByteArray) KR rfl KR KR (HW.rdo (i := 0) (q := (rw0 (some ⟨b1779, 0, none⟩) ([a1] : List ByteArray) 1)) KR) (fun _ => rfl) KR KR KR (by decide) (by have := hA1782; unfold maxLen; omega) (by have := hA1782; omega) KR ?_; clear ha HW a; intro A1783 c1784 a W1785 HW ha
      refine sp2 ha 55 ((ptr p0)) 56 (.pointer (some ⟨p0, 6, none⟩)) ?_; clear ha a; intro a ha
      refine q26 ha HW 0 (b := p0) (C := (ar1 p0_0 t1761.2.1.f1 t1761.2.1.f2 t1761.2.1.f3 t1761.2.1.f4.f2 t1761.2.1.f5 A1776 t1761.2.1.f6.length c1777 t1761.2.1.f7 t1761.2.1.f8 t1761.2.1.f9)) (T := 57) KR 22 6 (.tmp 56) (.tmp 54) (.slice A1783 (t1761.2.1.f6 ++ ([a1] : List ByteArray)).length c1784) (ar1 p0_0 t1761.2.1.f1 t1761.2.1.f2 t1761.2.1.f3 t1761.2.1.f4.f2 t1761.2.1.f5 A1783 ((t1761.2.1.f6 ++ ([a1] : List ByteArray)).length) c1784 t1761.2.1.f7 t1761.2.1.f8 t1761.2.1.f9) rfl KR KR KR KR KR KR KR ?_; clear ha HW a; intro a W1788 HW ha
      refine endl (thenN (hK1775 _ _ (wp_seq_k fun K1789 hK1790 => wp_region_lit ?_))); clear hK1775
      refine sp3 ha 57 ((ptr p0)) 58 ((ptr p0)) 59 (.pointer (some ⟨p0, 7, none⟩)) ?_; clear ha a; intro a ha
      refine stepl ha 60 (HW.ca (i := 0) (b := p0) (C := (ar1 p0_0 t1761.2.1.f1 t1761.2.1.f2 t1761.2.1.f3 t1761.2.1.f4.f2 t1761.2.1.f5 A1783 ((t1761.2.1.f6 ++ ([a1] : List ByteArray)).length) c1784 t1761.2.1.f7 t1761.2.1.f8 t1761.2.1.f9)) (T := 57) (fr := (0, 0)) KR) 3 7 (.tmp 59) (.int .i64 t1761.2.1.f7) rfl KR KR KR ?_; clear ha a; intro a ha
      refine sp4 ha 61 (.int .i64 t1718) 62 (.int .i64 (IntKind.wrap .i64 (t1761.2.1.f7 + t1718))) 63 ((ptr p0)) 64 (.pointer (some ⟨p0, 7, none⟩)) ?_; clear ha a; intro a ha
      refine q26 ha HW 0 (b := p0) (C := (ar1 p0_0 t1761.2.1.f1 t1761.2.1.f2 t1761.2.1.f3 t1761.2.1.f4.f2 t1761.2.1.f5 A1783 ((t1761.2.1.f6 ++ ([a1] : List ByteArray)).length) c1784 t1761.2.1.f7 t1761.2.1.f8 t1761.2.1.f9)) (T := 57) KR 3 7 (.tmp 64) (.tmp 62) (.int .i64 (IntKind.wrap .i64 (t1761.2.1.f7 + t1718))) (ar1 p0_0 t1761.2.1.f1 t1761.2.1.f2 t1761.2.1.f3 t1761.2.1.f4.f2 t1761.2.1.f5 A1783 ((t1761.2.1.f6 ++ ([a1] : List ByteArray)).length) c1784 (IntKind.wrap .i64 (t1761.2.1.f7 + t1718)) t1761.2.1.f8 t1761.2.1.f9) rfl KR KR KR KR KR KR KR ?_; clear ha HW a; intro a W1791 HW ha
      refine endl (thenN (hK1790 _ _ (wp_seq_k fun K1792 hK1793 => wp_region_lit ?_))); clear hK1790
      refine sp1 ha 4 (.int .i64 0) ?_; clear ha a; intro a ha
      refine endl (thenN (hK1793 _ _ ?_)); clear hK1793
      refine wp_ret ?_
      obtain ⟨U1794, hU1795, HW⟩ := q00.fold (x := (⟨(), t1761.2.1.f1, t1761.2.1.f2, t1761.2.1.f3, (⟨(), (), t1761.2.1.f4.f2⟩ : q03), t1761.2.1.f5, t1761.2.1.f6 ++ ([a1] : List ByteArray), IntKind.wrap .i64 (t1761.2.1.f7 + t1718), t1761.2.1.f8, t1761.2.1.f9⟩ : q00)) (Wd.sg [[(p0, .cells (ar1 p0_0 t1761.2.1.f1 t1761.2.1.f2 t1761.2.1.f3 t1761.2.1.f4.f2 t1761.2.1.f5 A1783 ((t1761.2.1.f6 ++ ([a1] : List ByteArray)).length) c1784 (IntKind.wrap .i64 (t1761.2.1.f7 + t1718)) t1761.2.1.f8 t1761.2.1.f9) 57 (0, 0))], U1764, F] bs [(rw0 (some ⟨b1779, 0, none⟩) ([a1] : List ByteArray) 1), (rw0 A1783 (t1761.2.1.f6 ++ ([a1] : List ByteArray)) c1784)] os [[(p0, .cells (ar1 p0_0 t1761.2.1.f1 t1761.2.1.f2 t1761.2.1.f3 t1761.2.1.f4.f2 t1761.2.1.f5 A1783 ((t1761.2.1.f6 ++ ([a1] : List ByteArray)).length) c1784 (IntKind.wrap .i64 (t1761.2.1.f7 + t1718)) t1761.2.1.f8 t1761.2.1.f9) 57 (0, 0))], U1764, F] [(rw0 A1783 (t1761.2.1.f6 ++ ([a1] : List ByteArray)) c1784), (rw0 (some ⟨b1779, 0, none⟩) ([a1] : List ByteArray) 1)] HW [0, 1, 2] [] [1, 0] KR KR (by decide) KR)
      replace HW := HW
      replace HW : Wd w W1791 (U1794 ++ (U1764 ++ (F ++ bs))) ((rw0 (some ⟨b1779, 0, none⟩) ([a1] : List ByteArray) 1) :: os) := HW
      obtain rfl := Option.some.inj h
      exact finv ha _ _ rfl (.tmp (v := .int .i64 0) KR .nil) (.int .i64 0) rfl ⟨U1794, U1764, rfl, hU1795, hU0_0, (Wd.sg [U1794, U1764, F] bs [(rw0 (some ⟨b1779, 0, none⟩) ([a1] : List ByteArray) 1)] os [U1794, U1764, F] [] HW [0, 1, 2] [] [] KR KR (by decide) KR)⟩
     ·
      replace h := q0c h hp1771
      refine condT ha KR KR (t := (t1761.1 != 0)) (q2e hp1771) ?_
      refine wp_seq_k (fun K1772 hK1773 => ?_)
      refine wp_region_lit ?_
      refine sp2 ha 46 (.int .i64 t1761.1) 4 (.int .i64 t1761.1) ?_; clear ha a; intro a ha
      refine endl (thenN (hK1773 _ _ ?_)); clear hK1773
      refine wp_ret ?_
      refine thenR ?_
      obtain rfl := Option.some.inj h
      exact finv ha _ _ rfl (.tmp (v := .int .i64 t1761.1) KR .nil) (.int .i64 t1761.1) rfl ⟨U1763, U1764, rfl, hU1760, hU0_0, (HW)⟩
def q11.f (a0 : q00) : Option (List ByteArray) :=
 asrt (([] : List ByteArray).length + a0.f6.length ≤ 8796093022208) (some (([] : List ByteArray) ++ a0.f6))
set_option maxRecDepth 100000 in
set_option maxHeartbeats 4000000 in
theorem q11.calls (a0 : q00) (A0_0 : Option Addr) (c0_0 : Nat) (cb0 : Nat) (cb1 : Nat) (r : List ByteArray) (w : World) (hc0 : CA w cb0 0 #[.pointer (some ⟨cb1, 0, none⟩), .int .i64 a0.f1, .int .i64 a0.f2, .int .i64 a0.f3, .int .i64 a0.f4.f2, .string a0.f5, .slice A0_0 a0.f6.length c0_0, .int .i64 a0.f7, .bool a0.f8, .bool a0.f9]) (hr0_0 : Rd 1 w (.slice A0_0 a0.f6.length c0_0) a0.f6.length (encs encS a0.f6)) (h : q11.f a0 = some r) :
  Calls Tryd.prog 16 #[.pointer (some ⟨cb0, 0, none⟩)] w (fun e W' => ∃ A_0 c_0, e = .returned (.slice A_0 r.length c_0) ∧ Wd w W' [] [⟨9, 1, .slice A_0 r.length c_0, r.length, encs encS r⟩] ) := by
 refine q17 (n := 10) (l := [(0, (ptr cb0))]) Tryd.func16 rfl rfl (Nat.le_of_ble_eq_true KR) (q07 rfl (q0q _)) ?_
 intro a ha
 have HW := Wd.refl w
 unfold q11.f at h
 refine wp_seq_k (fun K3625 hK3626 => ?_)
 refine wp_region_lit ?_
 refine sp1 ha 2 (.slice none 0 0) ?_; clear ha a; intro a ha
 refine endl (thenN (hK3626 _ _ (wp_seq_k fun K3627 hK3628 => wp_seq_k fun K3629 hK3630 => wp_region_lit ?_))); clear hK3626
 refine sp2 ha 3 ((ptr cb0)) 4 (.bool false) ?_; clear ha a; intro a ha
 refine endl (thenN (hK3630 _ _ ?_)); clear hK3630
 refine condF ha KR KR (t := false) (rfl) ?_
 refine wp_skip ?_
 refine thenN (hK3628 _ _ (wp_seq_k fun K3631 hK3632 => wp_region_lit ?_)); clear hK3628
 refine sp3 ha 5 ((ptr cb0)) 6 ((ptr cb0)) 7 (.pointer (some ⟨cb0, 6, none⟩)) ?_; clear ha a; intro a ha
 refine stepl ha 8 (HW.ca0 hc0) 22 6 (.tmp 7) (.slice A0_0 a0.f6.length c0_0) rfl KR KR KR ?_; clear ha a; intro a ha
 replace HW := HW.nilo 9 1
 replace HW : Wd w w [] [⟨9, 1, .slice none 0 0, ([] : List ByteArray).length, encs encS ([] : List ByteArray)⟩] := HW
 obtain ⟨hA3634, h_⟩ := q0d h; replace h := h_; clear h_
 refine stepape encS ha HW 9 0 22 9 (.const (.slice none 0 0)) (.tmp 8) (.string (⟨#[]⟩ : ByteArray)) 1 16 (.slice none 0 0) ([] : List ByteArray) (.slice A0_0 a0.f6.length c0_0) a0.f6 KR rfl KR KR ((HW.rd0 hr0_0)) (fun _ => rfl) KR KR KR (by decide) (by have := hA3634; unfold maxLen; omega) (by have := hA3634; omega) KR ?_; clear ha HW a; intro A3635 c3636 a W3637 HW ha
 refine sp1 ha 2 (.slice A3635 (([] : List ByteArray) ++ a0.f6).length c3636) ?_; clear ha a; intro a ha
 refine endl (thenN (hK3632 _ _ ?_)); clear hK3632
 refine wp_ret ?_
 obtain rfl := Option.some.inj h
 exact finv ha _ _ rfl (.tmp (v := .slice A3635 (([] : List ByteArray) ++ a0.f6).length c3636) KR .nil) (.slice A3635 (([] : List ByteArray) ++ a0.f6).length c3636) rfl ⟨A3635, c3636, rfl, HW.pick [] [0] (by decide) (by decide) rfl KR⟩
end Go.Proofs.YtokdiacjcbolfaaDoor.F
namespace Go.Proofs.YtokdiacjcbolfaaDoor.F
open Go Go.RowKit Go.Proofs.YtokdiacjcbolfaaDoor.X
set_option linter.unusedVariables false
set_option linter.unusedSimpArgs false
def q06.j0 (K : Nat) (again3246 : Int → Int → Int → q00 → q04 → Option ((Option q00) × Int × q04)) (x3247 : Int) (x3248 : Int) (x3249 : Int) (x3250 : q00) (x3253 : q04) (t3282 : Int × Int × Int × Int) (x3298 : Bool) : Option ((Option q00) × Int × q04) :=
 if x3298 = true then (again3246 t3282.1 t3282.2.2.1 (IntKind.wrap .i64 (x3249 + 1)) (⟨(), x3250.f1, x3250.f2, t3282.2.1, (⟨(), (), x3250.f4.f2⟩ : q03), x3250.f5, x3250.f6, x3250.f7, x3250.f8, x3250.f9⟩ : q00) (⟨x3253.f0, x3253.f1, x3253.f2, (⟨(), (), x3253.f3.f2⟩ : q03), x3253.f4, x3253.f5, x3253.f6⟩ : q04)) else (again3246 x3247 x3248 (IntKind.wrap .i64 (x3249 + 1)) (⟨(), x3250.f1, x3250.f2, x3250.f3, (⟨(), (), x3250.f4.f2⟩ : q03), x3250.f5, x3250.f6, x3250.f7, x3250.f8, x3250.f9⟩ : q00) (⟨x3253.f0, x3253.f1, x3253.f2, (⟨(), (), x3253.f3.f2⟩ : q03), x3253.f4, x3253.f5, x3253.f6⟩ : q04))
def q06.j1 (K : Nat) (again3508 : ByteArray → Int → ByteArray → (List ByteArray) → Int → Option ((Option q00) × Int × q04)) (x3509 : ByteArray) (x3510 : Int) (x3516 : Int) (t3531 : Int × ByteArray × Int × Int) (x3560 : ByteArray) (x3561 : List ByteArray) : Option ((Option q00) × Int × q04) :=
 asrt (0 ≤ t3531.2.2.1) (asrt (t3531.2.2.1 ≤ (x3509.size : Int)) (again3508 (x3509.extract (t3531.2.2.1 : Int).toNat (x3509).size) (IntKind.wrap .i64 (x3510 + 1)) x3560 x3561 (IntKind.wrap .i64 (x3516 + (IntKind.wrap .i64 (Int.tdiv t3531.2.2.1 512))))))
def q06.b1 (K : Nat) (x3247 : Int) (x3248 : Int) (x3250 : q00) (x3253 : q04) (again3508 : ByteArray → Int → ByteArray → (List ByteArray) → Int → Option ((Option q00) × Int × q04)) (x3509 : ByteArray) (x3510 : Int) (x3511 : ByteArray) (x3512 : List ByteArray) (x3516 : Int) : Option ((Option q00) × Int × q04) :=
 if x3510 < x3248 then ((q2k.f K x3509).bind fun t3531 => (if t3531.2.2.2 = 0 then (if x3510 = 0 then (q06.j1 K again3508 x3509 x3510 x3516 t3531 t3531.2.1 x3512) else (asrt (x3512.length + ([t3531.2.1] : List ByteArray).length ≤ 8796093022208) (q06.j1 K again3508 x3509 x3510 x3516 t3531 x3511 (x3512 ++ ([t3531.2.1] : List ByteArray))))) else (some ((none : Option q00), 61, (⟨x3253.f0, x3253.f1, x3253.f2, (⟨(), (), x3253.f3.f2⟩ : q03), x3253.f4, x3253.f5, x3253.f6⟩ : q04))))) else ((q0j.f K (⟨(), x3250.f1, x3250.f2, x3250.f3, (⟨(), (), x3247⟩ : q03), x3511, x3512, x3516, x3250.f8, x3250.f9⟩ : q00) (⟨x3253.f0, x3253.f1, x3253.f2, (⟨(), (), x3253.f3.f2⟩ : q03), x3253.f4, x3253.f5, x3253.f6⟩ : q04)).bind fun t3579 => (if t3579.1 = 0 then (some ((some t3579.2.1), 0, t3579.2.2)) else (some ((none : Option q00), t3579.1, t3579.2.2))))
def q06.l1 (K : Nat) (x3247 : Int) (x3248 : Int) (x3250 : q00) (x3253 : q04) : Nat → ByteArray → Int → ByteArray → (List ByteArray) → Int → Option ((Option q00) × Int × q04)
 | 0, _, _, _, _, _ => none
 | k_ + 1, x3509, x3510, x3511, x3512, x3516 => q06.b1 K x3247 x3248 x3250 x3253 (q06.l1 K x3247 x3248 x3250 x3253 k_) x3509 x3510 x3511 x3512 x3516
def q06.b0 (K : Nat) (again3246 : Int → Int → Int → q00 → q04 → Option ((Option q00) × Int × q04)) (x3247 : Int) (x3248 : Int) (x3249 : Int) (x3250 : q00) (x3253 : q04) : Option ((Option q00) × Int × q04) :=
 if x3249 < 2 then ((q1a.f K (⟨(), x3250.f1, x3250.f2, x3250.f3, (⟨(), (), x3250.f4.f2⟩ : q03), x3250.f5, x3250.f6, x3250.f7, x3250.f8, x3250.f9⟩ : q00) (⟨x3253.f0, x3253.f1, x3253.f2, (⟨(), (), x3253.f3.f2⟩ : q03), x3253.f4, x3253.f5, x3253.f6⟩ : q04) x3249).bind fun t3282 => (if t3282.2.2.2 = 0 then (if t3282.1 > x3247 then (q06.j0 K again3246 x3247 x3248 x3249 x3250 x3253 t3282 ((Int.tmod t3282.1 2) == x3249)) else (q06.j0 K again3246 x3247 x3248 x3249 x3250 x3253 t3282 false)) else (some ((none : Option q00), t3282.2.2.2, (⟨x3253.f0, x3253.f1, x3253.f2, (⟨(), (), x3253.f3.f2⟩ : q03), x3253.f4, x3253.f5, x3253.f6⟩ : q04))))) else (if x3247 = 0 then (some ((none : Option q00), 61, x3253)) else ((q0v.f (⟨(), x3250.f1, x3250.f2, x3250.f3, (⟨(), (), x3247⟩ : q03), x3250.f5, x3250.f6, x3250.f7, x3250.f8, x3250.f9⟩ : q00) x3250.f3 0).bind fun t3335 => ((q0n.f K (⟨x3253.f0, x3253.f1, x3253.f2, (⟨(), (), x3253.f3.f2⟩ : q03), x3253.f4, x3253.f5, x3253.f6⟩ : q04) t3335 x3250.f2).bind fun t3339 => (if t3339.2 = 0 then (q06.l1 K x3247 x3248 x3250 x3253 K t3339.1 0 x3250.f5 x3250.f6 x3250.f7) else (some ((none : Option q00), t3339.2, (⟨x3253.f0, x3253.f1, x3253.f2, (⟨(), (), x3253.f3.f2⟩ : q03), x3253.f4, x3253.f5, x3253.f6⟩ : q04)))))))
def q06.l0 (K : Nat)  : Nat → Int → Int → Int → q00 → q04 → Option ((Option q00) × Int × q04)
 | 0, _, _, _, _, _ => none
 | k_ + 1, x3247, x3248, x3249, x3250, x3253 => q06.b0 K  (q06.l0 K  k_) x3247 x3248 x3249 x3250 x3253
def q06.f (K : Nat) (a0 : q04) (a1 : Int) (a2 : Int) : Option ((Option q00) × Int × q04) :=
 (q1h.f a0 a1 a2).bind fun t3103 => (optc t3103.1 (some ((none : Option q00), 1, t3103.2)) (fun x3114 => (q06.l0 K  K 0 0 0 x3114 t3103.2)))
set_option maxRecDepth 100000 in
set_option maxHeartbeats 4000000 in
theorem q06.calls (K : Nat) (a0 : q04) (a1 : Int) (a2 : Int) (p0 : Nat) (U0 : Blks)  (r : (Option q00) × Int × q04) (w w1 : World) (F bs : Blks) (os : List OwnA) (hG1 : CA w 1 0 (encs (encIK .u32) q0h).toArray) (hU0 : q04.At p0  a0 U0) (HW : Wd w w1 (U0 ++ (F ++ bs)) os) (h : q06.f K a0 a1 a2 = some r) :
  Calls Tryd.prog 14 #[.pointer (some ⟨p0, 0, none⟩), .int .i64 a1, .int .i64 a2] w1 (fun e W' => ∃ p_0 : Value, ∃ U_0 : Blks, ∃ U0' : Blks, e = .returned (.tuple #[p_0, .int .i64 r.2.1]) ∧ OptAt (fun p_ x_ u_ => q00.At p_ p0 x_ u_) (r.1) p_0 U_0 ∧ q04.At p0  r.2.2 U0' ∧ Wd w W' (U_0 ++ (U0' ++ (F ++ bs))) (os)) := by
 refine q17 (n := 133) (l := [(0, (ptr p0)), (1, .int .i64 a1), (2, .int .i64 a2)]) Tryd.func14 rfl rfl (Nat.le_of_ble_eq_true KR) (q07 rfl (q07 rfl (q07 rfl (q0q _)))) ?_
 intro a ha
 replace HW : Wd w w1 (U0 ++ (F ++ bs)) (os) := HW
 unfold q06.f at h
 refine wp_seq_k (fun K3099 hK3100 => ?_)
 refine wp_region_lit ?_
 refine sp2 ha 6 (.pointer none) 7 (.int .i64 0) ?_; clear ha a; intro a ha
 refine endl (thenN (hK3100 _ _ (wp_seq_k fun K3101 hK3102 => wp_region_lit ?_))); clear hK3100
 refine sp3 ha 24 ((ptr p0)) 25 (.int .i64 a1) 26 (.int .i64 a2) ?_; clear ha a; intro a ha
 obtain ⟨t3103, ht3104, h_⟩ := q08 h; replace h := h_; clear h_
 refine stepc ha 27 KR KR (q1h.calls a0 a1 a2 p0 U0 t3103 _ _ F bs (os) hU0 (HW) ht3104) ?_; clear ha a; rintro e W3109 ⟨b3105v, U3106, U3108, rfl, hO3113n, hU0n, HX3110⟩
 refine ⟨_, rfl, ?_⟩; intro a ha; clear HW
 clear hU0; have hU0 := hU0n; clear hU0n
 have hO3113 := hO3113n; clear hO3113n
 rcases e3115 : t3103.1 with _ | x3114
 ·
  rw [e3115] at h hO3113; replace h := optc_n h
  obtain ⟨hO3113v, hO3113u⟩ := hO3113; subst hO3113v; subst hO3113u
  have HW : Wd w W3109 (U3108 ++ (F ++ bs)) (os) := Wd.sg [([] : Blks), U3108, F] bs [] os [U3108, F] [] HX3110 [1, 2] [0] [] KR KR (by decide) KR; clear HX3110
  refine sp1 ha 8 (.pointer none) ?_; clear ha a; intro a ha
  refine endl (thenN (hK3102 _ _ (wp_seq_k fun K3118 hK3119 => wp_seq_k fun K3120 hK3121 => wp_region_lit ?_))); clear hK3102
  refine sp2 ha 28 (.pointer none) 29 (.bool true) ?_; clear ha a; intro a ha
  refine endl (thenN (hK3121 _ _ ?_)); clear hK3121
  refine condT ha KR KR (t := true) (rfl) ?_
  refine wp_seq_k (fun K3122 hK3123 => ?_)
  refine wp_region_lit ?_
  refine sp2 ha 6 (.pointer none) 7 (.int .i64 1) ?_; clear ha a; intro a ha
  refine endl (thenN (hK3123 _ _ ?_)); clear hK3123
  refine wp_ret ?_
  refine thenR ?_
  obtain rfl := Option.some.inj h
  exact finv ha _ _ rfl (.tmp (v := .pointer none) KR (.tmp (v := .int .i64 1) KR .nil)) (.tuple #[.pointer none, .int .i64 1]) rfl ⟨.pointer none, [], U3108, rfl, ⟨rfl, rfl⟩, hU0, (HW)⟩
 ·
  rw [e3115] at h hO3113; replace h := optc_s h
  obtain ⟨b3116, hO3113v, hU3117⟩ := hO3113; subst hO3113v
  have HW : Wd w W3109 (U3106 ++ (U3108 ++ (F ++ bs))) (os) := HX3110; clear HX3110
  refine sp1 ha 8 ((ptr b3116)) ?_; clear ha a; intro a ha
  refine endl (thenN (hK3102 _ _ (wp_seq_k fun K3124 hK3125 => wp_seq_k fun K3126 hK3127 => wp_region_lit ?_))); clear hK3102
  refine sp2 ha 28 ((ptr b3116)) 29 (.bool false) ?_; clear ha a; intro a ha
  refine endl (thenN (hK3127 _ _ ?_)); clear hK3127
  refine condF ha KR KR (t := false) (rfl) ?_
  refine wp_skip ?_
  refine thenN (hK3125 _ _ (wp_seq_k fun K3128 hK3129 => wp_region_lit ?_)); clear hK3125
  refine sp2 ha 9 (.int .i64 0) 10 (.int .i64 0) ?_; clear ha a; intro a ha
  refine endl (thenN (hK3129 _ _ (wp_seq_k fun K3130 hK3131 => wp_seq_k fun K3132 hK3133 => wp_region_lit ?_))); clear hK3129
  refine sp1 ha 30 (.int .i64 0) ?_; clear ha a; intro a ha
  refine endl (thenN (hK3133 _ _ ?_)); clear hK3133
  refine wp_block ?_
  refine loopk (fun k => fun a W3256 => ∃ (x3247 : Int), ∃ (x3248 : Int), ∃ (x3249 : Int), ∃ (x3250 : q00), ∃ (U3251 : Blks), ∃ (x3253 : q04), ∃ (U3254 : Blks), q06.l0 K  k x3247 x3248 x3249 x3250 x3253 = some r ∧ Has 133 [(0, (ptr p0)), (8, (ptr b3116)), (9, .int .i64 x3247), (10, .int .i64 x3248), (30, .int .i64 x3249)] a ∧ Wd w W3256 (U3251 ++ (U3254 ++ (F ++ bs))) (os) ∧ q00.At b3116 p0 x3250 U3251 ∧ q04.At p0  x3253 U3254) K ?_ ?_
  ·
   exact ⟨0, 0, 0, x3114, U3106, t3103.2, U3108, h, ha.sub (q05 KR (q05 KR (q05 KR (q05 KR (q05 KR (q0t _)))))), (HW), hU3117, hU0⟩
  ·
   intro k a W3256 hI
   obtain ⟨x3247, x3248, x3249, x3250, U3251, x3253, U3254, h, ha, HW, hU3252, hU3255⟩ := hI
   cases k with
   | zero => exact (q1n (show none = some r from h)).elim
   | succ k3257 =>
    replace h : q06.b0 K  (q06.l0 K  k3257) x3247 x3248 x3249 x3250 x3253 = some r := h
    obtain ⟨again3246, hag3258⟩ : ∃ g_, g_ = q06.l0 K  k3257 := ⟨_, rfl⟩
    rw [← hag3258] at h
    unfold q06.b0 at h
    refine wp_seq_k (fun K3259 hK3260 => ?_)
    refine wp_region_lit ?_
    refine sp1 ha 31 (.bool (decide (x3249 < 2))) ?_; clear ha a; intro a ha
    refine endl (thenN (hK3260 _ _ (wp_seq_k fun K3261 hK3262 => ?_))); clear hK3260
    by_cases hp3263 : x3249 < 2
    ·
     replace h := q0b h hp3263
     refine condT ha KR KR (t := decide (x3249 < 2)) (decide_eq_true hp3263) ?_
     refine wp_skip ?_
     refine thenN (hK3262 _ _ (wp_seq_k fun K3264 hK3265 => ?_)); clear hK3262
     refine wp_block ?_
     refine wp_seq_k (fun K3266 hK3267 => ?_)
     refine wp_region_lit ?_
     refine sp2 ha 32 (.int .i64 x3249) 11 (.int .i64 x3249) ?_; clear ha a; intro a ha
     refine endl (thenN (hK3267 _ _ (wp_seq_k fun K3268 hK3269 => wp_region_lit ?_))); clear hK3267
     refine sp2 ha 34 ((ptr b3116)) 35 (.int .i64 x3249) ?_; clear ha a; intro a ha
     obtain ⟨A3270, c3271, HW⟩ := q00.unfold hU3252 (HW)
     replace HW : Wd w W3256 ((b3116, .cells (ar1 p0 x3250.f1 x3250.f2 x3250.f3 x3250.f4.f2 x3250.f5 A3270 x3250.f6.length c3271 x3250.f7 x3250.f8 x3250.f9) 57 (0, 0)) :: U3254 ++ (F ++ bs)) ((rw0 A3270 x3250.f6 c3271) :: os) := HW; clear hU3252
     obtain ⟨A3273, c3274, A3276, c3277, A3279, c3280, HW⟩ := q04.unfold hU3255 (Wd.sg [[(b3116, .cells (ar1 p0 x3250.f1 x3250.f2 x3250.f3 x3250.f4.f2 x3250.f5 A3270 x3250.f6.length c3271 x3250.f7 x3250.f8 x3250.f9) 57 (0, 0))], U3254, F] bs [(rw0 A3270 x3250.f6 c3271)] os [U3254, [(b3116, .cells (ar1 p0 x3250.f1 x3250.f2 x3250.f3 x3250.f4.f2 x3250.f5 A3270 x3250.f6.length c3271 x3250.f7 x3250.f8 x3250.f9) 57 (0, 0))], F] [(rw0 A3270 x3250.f6 c3271)] HW [1, 0, 2] [] [0] KR KR (by decide) KR)
     replace HW : Wd w W3256 ((p0, .cells (ar0 A3273 x3253.f0.length c3274 A3276 x3253.f1.length c3277 A3279 x3253.f2.length c3280 x3253.f3.f2 x3253.f4 x3253.f5 x3253.f6) 53 (0, 0)) :: (b3116, .cells (ar1 p0 x3250.f1 x3250.f2 x3250.f3 x3250.f4.f2 x3250.f5 A3270 x3250.f6.length c3271 x3250.f7 x3250.f8 x3250.f9) 57 (0, 0)) :: F ++ bs) ((rw0 A3273 x3253.f0 c3274) :: (rw0 A3276 x3253.f1 c3277) :: (rw1 A3279 x3253.f2 c3280) :: (rw0 A3270 x3250.f6 c3271) :: os) := HW; clear hU3255
     obtain ⟨t3282, ht3283, h_⟩ := q08 h; replace h := h_; clear h_
     refine stepc ha 36 KR KR (q1a.calls K (⟨(), x3250.f1, x3250.f2, x3250.f3, (⟨(), (), x3250.f4.f2⟩ : q03), x3250.f5, x3250.f6, x3250.f7, x3250.f8, x3250.f9⟩ : q00) (⟨x3253.f0, x3253.f1, x3253.f2, (⟨(), (), x3253.f3.f2⟩ : q03), x3253.f4, x3253.f5, x3253.f6⟩ : q04) x3249 A3270 c3271 A3273 c3274 A3276 c3277 A3279 c3280 b3116 p0 t3282 _ (HW.ca (i := 1) (b := b3116) (C := (ar1 p0 x3250.f1 x3250.f2 x3250.f3 x3250.f4.f2 x3250.f5 A3270 x3250.f6.length c3271 x3250.f7 x3250.f8 x3250.f9)) (T := 57) (fr := (0, 0)) KR) (HW.ca (i := 0) (b := p0) (C := (ar0 A3273 x3253.f0.length c3274 A3276 x3253.f1.length c3277 A3279 x3253.f2.length c3280 x3253.f3.f2 x3253.f4 x3253.f5 x3253.f6)) (T := 53) (fr := (0, 0)) KR) (HW.rdo (i := 3) (q := (rw0 A3270 x3250.f6 c3271)) KR) (HW.rdo (i := 0) (q := (rw0 A3273 x3253.f0 c3274)) KR) (HW.rdo (i := 1) (q := (rw0 A3276 x3253.f1 c3277)) KR) (HW.rdo (i := 2) (q := (rw1 A3279 x3253.f2 c3280)) KR) ht3283) ?_; clear ha a; rintro e W3284 ⟨rfl, HX3285⟩
     refine ⟨_, rfl, ?_⟩; intro a ha; replace HW := HW.callw HX3285; clear HX3285
     refine sp6 ha 33 (.tuple #[.int .i64 t3282.1, .int .i64 t3282.2.1, .int .i64 t3282.2.2.1, .int .i64 t3282.2.2.2]) 37 (.int .i64 t3282.1) 38 (.int .i64 t3282.2.1) 39 (.int .i64 t3282.2.2.1) 40 (.int .i64 t3282.2.2.2) 12 (.int .i64 t3282.1) ?_; clear ha a; intro a ha
     refine sp3 ha 13 (.int .i64 t3282.2.1) 14 (.int .i64 t3282.2.2.1) 15 (.int .i64 t3282.2.2.2) ?_; clear ha a; intro a ha
     refine endl (thenN (hK3269 _ _ (wp_seq_k fun K3286 hK3287 => wp_seq_k fun K3288 hK3289 => wp_region_lit ?_))); clear hK3269
     refine sp2 ha 41 (.int .i64 t3282.2.2.2) 42 (.bool (t3282.2.2.2 != 0)) ?_; clear ha a; intro a ha
     refine endl (thenN (hK3289 _ _ ?_)); clear hK3289
     by_cases hp3290 : t3282.2.2.2 = 0
     ·
      replace h := q0b h hp3290
      refine condF ha KR KR (t := (t3282.2.2.2 != 0)) (q2f hp3290) ?_
      refine wp_skip ?_
      refine thenN (hK3287 _ _ (wp_seq_k fun K3295 hK3296 => ?_)); clear hK3287
      refine cutn (fun a W3299 => ∃ (x3298 : Bool), q06.j0 K again3246 x3247 x3248 x3249 x3250 x3253 t3282 x3298 = some r ∧ Has 133 [(0, (ptr p0)), (8, (ptr b3116)), (9, .int .i64 x3247), (10, .int .i64 x3248), (12, .int .i64 t3282.1), (13, .int .i64 t3282.2.1), (14, .int .i64 t3282.2.2.1), (30, .int .i64 x3249), (52, .bool x3298)] a ∧ Wd w W3299 ((p0, .cells (ar0 A3273 x3253.f0.length c3274 A3276 x3253.f1.length c3277 A3279 x3253.f2.length c3280 x3253.f3.f2 x3253.f4 x3253.f5 x3253.f6) 53 (0, 0)) :: (b3116, .cells (ar1 p0 x3250.f1 x3250.f2 x3250.f3 x3250.f4.f2 x3250.f5 A3270 x3250.f6.length c3271 x3250.f7 x3250.f8 x3250.f9) 57 (0, 0)) :: F ++ bs) ((rw0 A3273 x3253.f0 c3274) :: (rw0 A3276 x3253.f1 c3277) :: (rw1 A3279 x3253.f2 c3280) :: (rw0 A3270 x3250.f6 c3271) :: os)) ?_ ?_
      ·
       refine wp_region_lit ?_
       refine sp4 ha 44 (.int .i64 t3282.1) 45 (.int .i64 x3247) 46 (.bool (decide (t3282.1 > x3247))) 47 (.bool (decide (t3282.1 > x3247))) ?_; clear ha a; intro a ha
       by_cases hp3297 : t3282.1 > x3247
       ·
        replace h := q0b h hp3297
        replace ha := ha.bool 47 KR (decide_eq_true hp3297)
        refine sp5 ha 48 (.int .i64 t3282.1) 49 (.int .i64 (Int.tmod t3282.1 2)) 50 (.int .i64 x3249) 51 (.bool ((Int.tmod t3282.1 2) == x3249)) 52 (.bool ((Int.tmod t3282.1 2) == x3249)) ?_; clear ha a; intro a ha
        refine endl ?_
        exact thenN ⟨((Int.tmod t3282.1 2) == x3249), h, ha.sub (q05 KR (q05 KR (q05 KR (q05 KR (q05 KR (q05 KR (q05 KR (q05 KR (q05 KR (q0t _)))))))))), (HW)⟩
       ·
        replace h := q0c h hp3297
        replace ha := ha.bool 47 KR (decide_eq_false hp3297)
        refine stepo ha 48 KR ?_; clear ha a; intro a ha
        refine stepo ha 49 KR ?_; clear ha a; intro a ha
        refine stepo ha 50 KR ?_; clear ha a; intro a ha
        refine stepo ha 51 KR ?_; clear ha a; intro a ha
        refine sp1 ha 52 (.bool false) ?_; clear ha a; intro a ha
        refine endl ?_
        exact thenN ⟨false, h, ha.sub (q05 KR (q05 KR (q05 KR (q05 KR (q05 KR (q05 KR (q05 KR (q05 KR (q05 KR (q0t _)))))))))), (HW)⟩
      ·
       intro a W3299 hJ
       obtain ⟨x3298, h, ha, HW⟩ := hJ
       replace h : q06.j0 K again3246 x3247 x3248 x3249 x3250 x3253 t3282 x3298 = some r := h
       unfold q06.j0 at h
       refine hK3296 _ _ ?_; clear hK3296
       by_cases hp3300 : x3298 = true
       ·
        replace h := q0b h hp3300
        refine condT ha KR KR (t := x3298) (hp3300) ?_
        refine wp_region_lit ?_
        refine sp6 ha 53 ((ptr b3116)) 54 (.int .i64 t3282.1) 55 (.int .i64 t3282.2.2.1) 56 (.int .i64 t3282.2.1) 9 (.int .i64 t3282.1) 10 (.int .i64 t3282.2.2.1) ?_; clear ha a; intro a ha
        refine sp2 ha 57 ((ptr b3116)) 58 (.pointer (some ⟨b3116, 3, none⟩)) ?_; clear ha a; intro a ha
        refine q26 ha HW 1 (b := b3116) (C := (ar1 p0 x3250.f1 x3250.f2 x3250.f3 x3250.f4.f2 x3250.f5 A3270 x3250.f6.length c3271 x3250.f7 x3250.f8 x3250.f9)) (T := 57) KR 3 3 (.tmp 58) (.tmp 56) (.int .i64 t3282.2.1) (ar1 p0 x3250.f1 x3250.f2 t3282.2.1 x3250.f4.f2 x3250.f5 A3270 x3250.f6.length c3271 x3250.f7 x3250.f8 x3250.f9) rfl KR KR KR KR KR KR KR ?_; clear ha HW a; intro a W3301 HW ha
        refine endl ?_
        refine blkN ?_
        refine thenN (hK3265 _ _ (wp_region_lit ?_)); clear hK3265
        refine sp2 ha 59 (.int .i64 (IntKind.wrap .i64 (x3249 + 1))) 30 (.int .i64 (IntKind.wrap .i64 (x3249 + 1))) ?_; clear ha a; intro a ha
        refine endl ?_
        obtain ⟨U3302, hU3303, HW⟩ := q00.fold (x := (⟨(), x3250.f1, x3250.f2, t3282.2.1, (⟨(), (), x3250.f4.f2⟩ : q03), x3250.f5, x3250.f6, x3250.f7, x3250.f8, x3250.f9⟩ : q00)) (Wd.sg [[(p0, .cells (ar0 A3273 x3253.f0.length c3274 A3276 x3253.f1.length c3277 A3279 x3253.f2.length c3280 x3253.f3.f2 x3253.f4 x3253.f5 x3253.f6) 53 (0, 0))], [(b3116, .cells (ar1 p0 x3250.f1 x3250.f2 t3282.2.1 x3250.f4.f2 x3250.f5 A3270 x3250.f6.length c3271 x3250.f7 x3250.f8 x3250.f9) 57 (0, 0))], F] bs [(rw0 A3273 x3253.f0 c3274), (rw0 A3276 x3253.f1 c3277), (rw1 A3279 x3253.f2 c3280), (rw0 A3270 x3250.f6 c3271)] os [[(b3116, .cells (ar1 p0 x3250.f1 x3250.f2 t3282.2.1 x3250.f4.f2 x3250.f5 A3270 x3250.f6.length c3271 x3250.f7 x3250.f8 x3250.f9) 57 (0, 0))], [(p0, .cells (ar0 A3273 x3253.f0.length c3274 A3276 x3253.f1.length c3277 A3279 x3253.f2.length c3280 x3253.f3.f2 x3253.f4 x3253.f5 x3253.f6) 53 (0, 0))], F] [(rw0 A3270 x3250.f6 c3271), (rw0 A3273 x3253.f0 c3274), (rw0 A3276 x3253.f1 c3277), (rw1 A3279 x3253.f2 c3280)] HW [1, 0, 2] [] [3, 0, 1, 2] KR KR (by decide) KR)
        replace HW := Wd.sg [U3302, [(p0, .cells (ar0 A3273 x3253.f0.length c3274 A3276 x3253.f1.length c3277 A3279 x3253.f2.length c3280 x3253.f3.f2 x3253.f4 x3253.f5 x3253.f6) 53 (0, 0))], F] bs [(rw0 A3273 x3253.f0 c3274), (rw0 A3276 x3253.f1 c3277), (rw1 A3279 x3253.f2 c3280)] os [[(p0, .cells (ar0 A3273 x3253.f0.length c3274 A3276 x3253.f1.length c3277 A3279 x3253.f2.length c3280 x3253.f3.f2 x3253.f4 x3253.f5 x3253.f6) 53 (0, 0))], U3302, F] [(rw0 A3273 x3253.f0 c3274), (rw0 A3276 x3253.f1 c3277), (rw1 A3279 x3253.f2 c3280)] HW [1, 0, 2] [] [0, 1, 2] KR KR (by decide) KR
        replace HW : Wd w W3301 ((p0, .cells (ar0 A3273 x3253.f0.length c3274 A3276 x3253.f1.length c3277 A3279 x3253.f2.length c3280 x3253.f3.f2 x3253.f4 x3253.f5 x3253.f6) 53 (0, 0)) :: U3302 ++ (F ++ bs)) ((rw0 A3273 x3253.f0 c3274) :: (rw0 A3276 x3253.f1 c3277) :: (rw1 A3279 x3253.f2 c3280) :: os) := HW
        obtain ⟨U3304, hU3305, HW⟩ := q04.fold (x := (⟨x3253.f0, x3253.f1, x3253.f2, (⟨(), (), x3253.f3.f2⟩ : q03), x3253.f4, x3253.f5, x3253.f6⟩ : q04)) (HW)
        replace HW := HW
        replace HW : Wd w W3301 (U3304 ++ (U3302 ++ (F ++ bs))) (os) := HW
        exact thenN ⟨k3257, Nat.lt_succ_self k3257, t3282.1, t3282.2.2.1, IntKind.wrap .i64 (x3249 + 1), (⟨(), x3250.f1, x3250.f2, t3282.2.1, (⟨(), (), x3250.f4.f2⟩ : q03), x3250.f5, x3250.f6, x3250.f7, x3250.f8, x3250.f9⟩ : q00), U3302, (⟨x3253.f0, x3253.f1, x3253.f2, (⟨(), (), x3253.f3.f2⟩ : q03), x3253.f4, x3253.f5, x3253.f6⟩ : q04), U3304, (by rw [← hag3258]; exact h), ha.sub (q05 KR (q05 KR (q05 KR (q05 KR (q05 KR (q0t _)))))), (Wd.sg [U3304, U3302, F] bs [] os [U3302, U3304, F] [] HW [1, 0, 2] [] [] KR KR (by decide) KR), hU3303, hU3305⟩
       ·
        replace h := q0c h hp3300
        refine condF ha KR KR (t := x3298) (q2w hp3300) ?_
        refine wp_skip ?_
        refine blkN ?_
        refine thenN (hK3265 _ _ (wp_region_lit ?_)); clear hK3265
        refine sp2 ha 59 (.int .i64 (IntKind.wrap .i64 (x3249 + 1))) 30 (.int .i64 (IntKind.wrap .i64 (x3249 + 1))) ?_; clear ha a; intro a ha
        refine endl ?_
        obtain ⟨U3306, hU3307, HW⟩ := q00.fold (x := (⟨(), x3250.f1, x3250.f2, x3250.f3, (⟨(), (), x3250.f4.f2⟩ : q03), x3250.f5, x3250.f6, x3250.f7, x3250.f8, x3250.f9⟩ : q00)) (Wd.sg [[(p0, .cells (ar0 A3273 x3253.f0.length c3274 A3276 x3253.f1.length c3277 A3279 x3253.f2.length c3280 x3253.f3.f2 x3253.f4 x3253.f5 x3253.f6) 53 (0, 0))], [(b3116, .cells (ar1 p0 x3250.f1 x3250.f2 x3250.f3 x3250.f4.f2 x3250.f5 A3270 x3250.f6.length c3271 x3250.f7 x3250.f8 x3250.f9) 57 (0, 0))], F] bs [(rw0 A3273 x3253.f0 c3274), (rw0 A3276 x3253.f1 c3277), (rw1 A3279 x3253.f2 c3280), (rw0 A3270 x3250.f6 c3271)] os [[(b3116, .cells (ar1 p0 x3250.f1 x3250.f2 x3250.f3 x3250.f4.f2 x3250.f5 A3270 x3250.f6.length c3271 x3250.f7 x3250.f8 x3250.f9) 57 (0, 0))], [(p0, .cells (ar0 A3273 x3253.f0.length c3274 A3276 x3253.f1.length c3277 A3279 x3253.f2.length c3280 x3253.f3.f2 x3253.f4 x3253.f5 x3253.f6) 53 (0, 0))], F] [(rw0 A3270 x3250.f6 c3271), (rw0 A3273 x3253.f0 c3274), (rw0 A3276 x3253.f1 c3277), (rw1 A3279 x3253.f2 c3280)] HW [1, 0, 2] [] [3, 0, 1, 2] KR KR (by decide) KR)
        replace HW := Wd.sg [U3306, [(p0, .cells (ar0 A3273 x3253.f0.length c3274 A3276 x3253.f1.length c3277 A3279 x3253.f2.length c3280 x3253.f3.f2 x3253.f4 x3253.f5 x3253.f6) 53 (0, 0))], F] bs [(rw0 A3273 x3253.f0 c3274), (rw0 A3276 x3253.f1 c3277), (rw1 A3279 x3253.f2 c3280)] os [[(p0, .cells (ar0 A3273 x3253.f0.length c3274 A3276 x3253.f1.length c3277 A3279 x3253.f2.length c3280 x3253.f3.f2 x3253.f4 x3253.f5 x3253.f6) 53 (0, 0))], U3306, F] [(rw0 A3273 x3253.f0 c3274), (rw0 A3276 x3253.f1 c3277), (rw1 A3279 x3253.f2 c3280)] HW [1, 0, 2] [] [0, 1, 2] KR KR (by decide) KR
        replace HW : Wd w W3299 ((p0, .cells (ar0 A3273 x3253.f0.length c3274 A3276 x3253.f1.length c3277 A3279 x3253.f2.length c3280 x3253.f3.f2 x3253.f4 x3253.f5 x3253.f6) 53 (0, 0)) :: U3306 ++ (F ++ bs)) ((rw0 A3273 x3253.f0 c3274) :: (rw0 A3276 x3253.f1 c3277) :: (rw1 A3279 x3253.f2 c3280) :: os) := HW
        obtain ⟨U3308, hU3309, HW⟩ := q04.fold (x := (⟨x3253.f0, x3253.f1, x3253.f2, (⟨(), (), x3253.f3.f2⟩ : q03), x3253.f4, x3253.f5, x3253.f6⟩ : q04)) (HW)
        replace HW := HW
        replace HW : Wd w W3299 (U3308 ++ (U3306 ++ (F ++ bs))) (os) := HW
        exact thenN ⟨k3257, Nat.lt_succ_self k3257, x3247, x3248, IntKind.wrap .i64 (x3249 + 1), (⟨(), x3250.f1, x3250.f2, x3250.f3, (⟨(), (), x3250.f4.f2⟩ : q03), x3250.f5, x3250.f6, x3250.f7, x3250.f8, x3250.f9⟩ : q00), U3306, (⟨x3253.f0, x3253.f1, x3253.f2, (⟨(), (), x3253.f3.f2⟩ : q03), x3253.f4, x3253.f5, x3253.f6⟩ : q04), U3308, (by rw [← hag3258]; exact h), ha.sub (q05 KR (q05 KR (q05 KR (q05 KR (q05 KR (q0t _)))))), (Wd.sg [U3308, U3306, F] bs [] os [U3306, U3308, F] [] HW [1, 0, 2] [] [] KR KR (by decide) KR), hU3307, hU3309⟩
     ·
      replace h := q0c h hp3290
      refine condT ha KR KR (t := (t3282.2.2.2 != 0)) (q2e hp3290) ?_
      refine wp_seq_k (fun K3291 hK3292 => ?_)
      refine wp_region_lit ?_
      refine sp3 ha 43 (.int .i64 t3282.2.2.2) 6 (.pointer none) 7 (.int .i64 t3282.2.2.2) ?_; clear ha a; intro a ha
      refine endl (thenN (hK3292 _ _ ?_)); clear hK3292
      refine wp_ret ?_
      refine thenR ?_
      refine blkR ?_
      refine thenR ?_
      refine thenR ?_
      refine blkR ?_
      refine thenR ?_
      obtain ⟨U3293, hU3294, HW⟩ := q04.fold (x := (⟨x3253.f0, x3253.f1, x3253.f2, (⟨(), (), x3253.f3.f2⟩ : q03), x3253.f4, x3253.f5, x3253.f6⟩ : q04)) (HW)
      replace HW := Wd.sg [U3293, [(b3116, .cells (ar1 p0 x3250.f1 x3250.f2 x3250.f3 x3250.f4.f2 x3250.f5 A3270 x3250.f6.length c3271 x3250.f7 x3250.f8 x3250.f9) 57 (0, 0))], F] bs [(rw0 A3270 x3250.f6 c3271)] os [[(b3116, .cells (ar1 p0 x3250.f1 x3250.f2 x3250.f3 x3250.f4.f2 x3250.f5 A3270 x3250.f6.length c3271 x3250.f7 x3250.f8 x3250.f9) 57 (0, 0))], U3293, F] [(rw0 A3270 x3250.f6 c3271)] HW [1, 0, 2] [] [0] KR KR (by decide) KR
      replace HW : Wd w W3284 ((b3116, .cells (ar1 p0 x3250.f1 x3250.f2 x3250.f3 x3250.f4.f2 x3250.f5 A3270 x3250.f6.length c3271 x3250.f7 x3250.f8 x3250.f9) 57 (0, 0)) :: U3293 ++ (F ++ bs)) ((rw0 A3270 x3250.f6 c3271) :: os) := HW
      obtain rfl := Option.some.inj h
      exact finv ha _ _ rfl (.tmp (v := .pointer none) KR (.tmp (v := .int .i64 t3282.2.2.2) KR .nil)) (.tuple #[.pointer none, .int .i64 t3282.2.2.2]) rfl ⟨.pointer none, [], U3293, rfl, ⟨rfl, rfl⟩, hU3294, (Wd.sg [[(b3116, .cells (ar1 p0 x3250.f1 x3250.f2 x3250.f3 x3250.f4.f2 x3250.f5 A3270 x3250.f6.length c3271 x3250.f7 x3250.f8 x3250.f9) 57 (0, 0))], U3293, F] bs [(rw0 A3270 x3250.f6 c3271)] os [U3293, F] [] HW [1, 2] [0] [] KR KR (by decide) KR)⟩
    ·
     replace h := q0c h hp3263
     refine condF ha KR KR (t := decide (x3249 < 2)) (decide_eq_false hp3263) ?_
     refine wp_exit ?_
     refine thenE ?_
     refine thenE ?_
     refine inBlk ?_
     refine thenN (hK3131 _ _ (wp_seq_k fun K3310 hK3311 => wp_seq_k fun K3312 hK3313 => wp_region_lit ?_)); clear hK3131
     refine sp2 ha 60 (.int .i64 x3247) 61 (.bool (x3247 == 0)) ?_; clear ha a; intro a ha
     refine endl (thenN (hK3313 _ _ ?_)); clear hK3313
     by_cases hp3314 : x3247 = 0
     ·
      replace h := q0b h hp3314
      refine condT ha KR KR (t := (x3247 == 0)) (ieq_t hp3314) ?_
      refine wp_seq_k (fun K3315 hK3316 => ?_)
      refine wp_region_lit ?_
      refine sp2 ha 6 (.pointer none) 7 (.int .i64 61) ?_; clear ha a; intro a ha
      refine endl (thenN (hK3316 _ _ ?_)); clear hK3316
      refine wp_ret ?_
      refine thenR ?_
      obtain rfl := Option.some.inj h
      exact finv ha _ _ rfl (.tmp (v := .pointer none) KR (.tmp (v := .int .i64 61) KR .nil)) (.tuple #[.pointer none, .int .i64 61]) rfl ⟨.pointer none, [], U3254, rfl, ⟨rfl, rfl⟩, hU3255, (Wd.sg [U3251, U3254, F] bs [] os [U3254, F] [] HW [1, 2] [0] [] KR KR (by decide) KR)⟩
     ·
      replace h := q0c h hp3314
      refine condF ha KR KR (t := (x3247 == 0)) (ieq_f hp3314) ?_
      refine wp_skip ?_
      refine thenN (hK3311 _ _ (wp_seq_k fun K3317 hK3318 => wp_region_lit ?_)); clear hK3311
      refine sp4 ha 62 ((ptr b3116)) 63 ((ptr b3116)) 64 (.pointer (some ⟨b3116, 4, none⟩)) 65 (.int .i64 x3247) ?_; clear ha a; intro a ha
      obtain ⟨A3319, c3320, HW⟩ := q00.unfold hU3252 (HW)
      replace HW : Wd w W3256 ((b3116, .cells (ar1 p0 x3250.f1 x3250.f2 x3250.f3 x3250.f4.f2 x3250.f5 A3319 x3250.f6.length c3320 x3250.f7 x3250.f8 x3250.f9) 57 (0, 0)) :: U3254 ++ (F ++ bs)) ((rw0 A3319 x3250.f6 c3320) :: os) := HW; clear hU3252
      refine stepc ha 66 KR KR (atom_store (u := .int .i64 x3250.f4.f2) (y := x3247) (HW.cellAt (i := 0) (b := b3116) (C := (ar1 p0 x3250.f1 x3250.f2 x3250.f3 x3250.f4.f2 x3250.f5 A3319 x3250.f6.length c3320 x3250.f7 x3250.f8 x3250.f9)) (T := 57) KR 4 KR) (HW.notFrozen (i := 0) (b := b3116) (C := (ar1 p0 x3250.f1 x3250.f2 x3250.f3 x3250.f4.f2 x3250.f5 A3319 x3250.f6.length c3320 x3250.f7 x3250.f8 x3250.f9)) (T := 57) KR 4)) ?_; clear ha a; rintro e W3322 ⟨rfl, hW3323⟩; refine ⟨_, rfl, ?_⟩; intro a ha
      replace HW : Wd w W3322 ((b3116, .cells (ar1 p0 x3250.f1 x3250.f2 x3250.f3 x3247 x3250.f5 A3319 x3250.f6.length c3320 x3250.f7 x3250.f8 x3250.f9) 57 (0, 0)) :: U3254 ++ (F ++ bs)) ((rw0 A3319 x3250.f6 c3320) :: os) := by rw [hW3323]; exact HW.setAt (i := 0) (b := b3116) (C := (ar1 p0 x3250.f1 x3250.f2 x3250.f3 x3250.f4.f2 x3250.f5 A3319 x3250.f6.length c3320 x3250.f7 x3250.f8 x3250.f9)) (T := 57) KR 4 (.int .i64 x3247) (C' := (ar1 p0 x3250.f1 x3250.f2 x3250.f3 x3247 x3250.f5 A3319 x3250.f6.length c3320 x3250.f7 x3250.f8 x3250.f9)) KR
      clear hW3323
      refine endl (thenN (hK3318 _ _ (wp_seq_k fun K3324 hK3325 => ?_))); clear hK3318
      obtain ⟨A3326, c3327, A3329, c3330, A3332, c3333, HW⟩ := q04.unfold hU3255 (Wd.sg [[(b3116, .cells (ar1 p0 x3250.f1 x3250.f2 x3250.f3 x3247 x3250.f5 A3319 x3250.f6.length c3320 x3250.f7 x3250.f8 x3250.f9) 57 (0, 0))], U3254, F] bs [(rw0 A3319 x3250.f6 c3320)] os [U3254, [(b3116, .cells (ar1 p0 x3250.f1 x3250.f2 x3250.f3 x3247 x3250.f5 A3319 x3250.f6.length c3320 x3250.f7 x3250.f8 x3250.f9) 57 (0, 0))], F] [(rw0 A3319 x3250.f6 c3320)] HW [1, 0, 2] [] [0] KR KR (by decide) KR)
      replace HW : Wd w W3322 ((p0, .cells (ar0 A3326 x3253.f0.length c3327 A3329 x3253.f1.length c3330 A3332 x3253.f2.length c3333 x3253.f3.f2 x3253.f4 x3253.f5 x3253.f6) 53 (0, 0)) :: (b3116, .cells (ar1 p0 x3250.f1 x3250.f2 x3250.f3 x3247 x3250.f5 A3319 x3250.f6.length c3320 x3250.f7 x3250.f8 x3250.f9) 57 (0, 0)) :: F ++ bs) ((rw0 A3326 x3253.f0 c3327) :: (rw0 A3329 x3253.f1 c3330) :: (rw1 A3332 x3253.f2 c3333) :: (rw0 A3319 x3250.f6 c3320) :: os) := HW; clear hU3255
      obtain ⟨t3335, ht3336, h_⟩ := q08 h; replace h := h_; clear h_
      obtain ⟨t3339, ht3340, h_⟩ := q08 h; replace h := h_; clear h_
      refine q2z 16 KR KR ha HW [.fix ((ptr p0)), .fix ((ptr b3116)), .fix ((ptr b3116)), .fix ((ptr b3116)), .fix (.pointer (some ⟨b3116, 3, none⟩)), .fix (.int .i64 x3250.f3), .fix (.int .i64 t3335), .fix ((ptr b3116)), .fix ((ptr b3116)), .fix (.pointer (some ⟨b3116, 2, none⟩)), .fix (.int .i64 x3250.f2), .fix (.tuple #[.string t3339.1, .int .i64 t3339.2]), .fix (.tuple #[.string t3339.1, .int .i64 t3339.2]), .fix (.string t3339.1), .fix (.int .i64 t3339.2), .fix (.string t3339.1)] ?_ ?_
      ·
       refine ⟨?_, ?_, ?_, ?_, ?_, ?_, ?_, ?_, ?_, ?_, ?_, ?_, ?_, ?_, ?_, ?_, trivial⟩
       ·
        intro a wr hn hd HW hs; have ha := q0a hn hd
        have ha := ha.add (seeE hs 0 ((ptr p0)) KR KR)
        refine yStep ha 68 KR ?_; intro l_ ha HK
        refine stepp ha 68 ((ptr p0)) KR KR ?_; intro ax hax; exact HK _ _ _ hax rfl (Below.refl _ _)
       ·
        intro a wr hn hd HW hs; have ha := q0a hn hd
        have ha := ha.add (seeE hs 8 ((ptr b3116)) KR KR)
        refine yStep ha 69 KR ?_; intro l_ ha HK
        refine stepp ha 69 ((ptr b3116)) KR KR ?_; intro ax hax; exact HK _ _ _ hax rfl (Below.refl _ _)
       ·
        intro a wr hn hd HW hs; have ha := q0a hn hd
        have ha := ha.add (seeE hs 8 ((ptr b3116)) KR KR)
        refine yStep ha 70 KR ?_; intro l_ ha HK
        refine stepp ha 70 ((ptr b3116)) KR KR ?_; intro ax hax; exact HK _ _ _ hax rfl (Below.refl _ _)
       ·
        intro a wr hn hd HW hs; have ha := q0a hn hd
        have ha := ha.add (seeF hs 70 2 ((ptr b3116)) KR KR)
        refine yStep ha 71 KR ?_; intro l_ ha HK
        refine stepp ha 71 ((ptr b3116)) KR KR ?_; intro ax hax; exact HK _ _ _ hax rfl (Below.refl _ _)
       ·
        intro a wr hn hd HW hs; have ha := q0a hn hd
        have ha := ha.add (seeF hs 71 3 ((ptr b3116)) KR KR)
        refine yStep ha 72 KR ?_; intro l_ ha HK
        refine stepp ha 72 (.pointer (some ⟨b3116, 3, none⟩)) KR KR ?_; intro ax hax; exact HK _ _ _ hax rfl (Below.refl _ _)
       ·
        intro a wr hn hd HW hs; have ha := q0a hn hd
        have ha := ha.add (seeF hs 72 4 (.pointer (some ⟨b3116, 3, none⟩)) KR KR)
        refine yStep ha 73 KR ?_; intro l_ ha HK
        refine stepl ha 73 (HW.ca (i := 1) (b := b3116) (C := (ar1 p0 x3250.f1 x3250.f2 x3250.f3 x3247 x3250.f5 A3319 x3250.f6.length c3320 x3250.f7 x3250.f8 x3250.f9)) (T := 57) (fr := (0, 0)) KR) 3 3 (.tmp 72) (.int .i64 x3250.f3) rfl KR KR KR ?_; intro ax hax; exact HK _ _ _ hax rfl (Below.refl _ _)
       ·
        intro a wr hn hd HW hs; have ha := q0a hn hd
        have ha := ha.add (seeF hs 69 1 ((ptr b3116)) KR KR)
        have ha := ha.add (seeF hs 73 5 (.int .i64 x3250.f3) KR KR)
        refine yStep ha 74 KR ?_; intro l_ ha HK
        refine stepc ha 74 KR KR (q0v.calls (⟨(), x3250.f1, x3250.f2, x3250.f3, (⟨(), (), x3247⟩ : q03), x3250.f5, x3250.f6, x3250.f7, x3250.f8, x3250.f9⟩ : q00) x3250.f3 0 A3319 c3320 b3116 p0 t3335 _ (HW.ca (i := 1) (b := b3116) (C := (ar1 p0 x3250.f1 x3250.f2 x3250.f3 x3247 x3250.f5 A3319 x3250.f6.length c3320 x3250.f7 x3250.f8 x3250.f9)) (T := 57) (fr := (0, 0)) KR) (HW.rdo (i := 3) (q := (rw0 A3319 x3250.f6 c3320)) KR) ht3336) ?_; rintro e W3337 ⟨rfl, HX3338⟩
        refine ⟨_, rfl, ?_⟩; intro ax hax; exact HK _ _ _ hax rfl HX3338.below
       ·
        intro a wr hn hd HW hs; have ha := q0a hn hd
        have ha := ha.add (seeE hs 8 ((ptr b3116)) KR KR)
        refine yStep ha 75 KR ?_; intro l_ ha HK
        refine stepp ha 75 ((ptr b3116)) KR KR ?_; intro ax hax; exact HK _ _ _ hax rfl (Below.refl _ _)
       ·
        intro a wr hn hd HW hs; have ha := q0a hn hd
        have ha := ha.add (seeF hs 75 7 ((ptr b3116)) KR KR)
        refine yStep ha 76 KR ?_; intro l_ ha HK
        refine stepp ha 76 ((ptr b3116)) KR KR ?_; intro ax hax; exact HK _ _ _ hax rfl (Below.refl _ _)
       ·
        intro a wr hn hd HW hs; have ha := q0a hn hd
        have ha := ha.add (seeF hs 76 8 ((ptr b3116)) KR KR)
        refine yStep ha 77 KR ?_; intro l_ ha HK
        refine stepp ha 77 (.pointer (some ⟨b3116, 2, none⟩)) KR KR ?_; intro ax hax; exact HK _ _ _ hax rfl (Below.refl _ _)
       ·
        intro a wr hn hd HW hs; have ha := q0a hn hd
        have ha := ha.add (seeF hs 77 9 (.pointer (some ⟨b3116, 2, none⟩)) KR KR)
        refine yStep ha 78 KR ?_; intro l_ ha HK
        refine stepl ha 78 (HW.ca (i := 1) (b := b3116) (C := (ar1 p0 x3250.f1 x3250.f2 x3250.f3 x3247 x3250.f5 A3319 x3250.f6.length c3320 x3250.f7 x3250.f8 x3250.f9)) (T := 57) (fr := (0, 0)) KR) 3 2 (.tmp 77) (.int .i64 x3250.f2) rfl KR KR KR ?_; intro ax hax; exact HK _ _ _ hax rfl (Below.refl _ _)
       ·
        intro a wr hn hd HW hs; have ha := q0a hn hd
        have ha := ha.add (seeF hs 68 0 ((ptr p0)) KR KR)
        have ha := ha.add (seeF hs 74 6 (.int .i64 t3335) KR KR)
        have ha := ha.add (seeF hs 78 10 (.int .i64 x3250.f2) KR KR)
        refine yStep ha 79 KR ?_; intro l_ ha HK
        refine stepc ha 79 KR KR (q0n.calls K (⟨x3253.f0, x3253.f1, x3253.f2, (⟨(), (), x3253.f3.f2⟩ : q03), x3253.f4, x3253.f5, x3253.f6⟩ : q04) t3335 x3250.f2 A3326 c3327 A3329 c3330 A3332 c3333 p0 t3339 _ (HW.ca (i := 0) (b := p0) (C := (ar0 A3326 x3253.f0.length c3327 A3329 x3253.f1.length c3330 A3332 x3253.f2.length c3333 x3253.f3.f2 x3253.f4 x3253.f5 x3253.f6)) (T := 53) (fr := (0, 0)) KR) (HW.rdo (i := 0) (q := (rw0 A3326 x3253.f0 c3327)) KR) (HW.rdo (i := 1) (q := (rw0 A3329 x3253.f1 c3330)) KR) (HW.rdo (i := 2) (q := (rw1 A3332 x3253.f2 c3333)) KR) ht3340) ?_; rintro e W3341 ⟨rfl, HX3342⟩
        refine ⟨_, rfl, ?_⟩; intro ax hax; exact HK _ _ _ hax rfl HX3342.below
       ·
        intro a wr hn hd HW hs; have ha := q0a hn hd
        have ha := ha.add (seeF hs 79 11 (.tuple #[.string t3339.1, .int .i64 t3339.2]) KR KR)
        refine yStep ha 67 KR ?_; intro l_ ha HK
        refine stepp ha 67 (.tuple #[.string t3339.1, .int .i64 t3339.2]) KR KR ?_; intro ax hax; exact HK _ _ _ hax rfl (Below.refl _ _)
       ·
        intro a wr hn hd HW hs; have ha := q0a hn hd
        have ha := ha.add (seeF hs 67 12 (.tuple #[.string t3339.1, .int .i64 t3339.2]) KR KR)
        refine yStep ha 80 KR ?_; intro l_ ha HK
        refine stepp ha 80 (.string t3339.1) KR KR ?_; intro ax hax; exact HK _ _ _ hax rfl (Below.refl _ _)
       ·
        intro a wr hn hd HW hs; have ha := q0a hn hd
        have ha := ha.add (seeF hs 67 12 (.tuple #[.string t3339.1, .int .i64 t3339.2]) KR KR)
        refine yStep ha 81 KR ?_; intro l_ ha HK
        refine stepp ha 81 (.int .i64 t3339.2) KR KR ?_; intro ax hax; exact HK _ _ _ hax rfl (Below.refl _ _)
       ·
        intro a wr hn hd HW hs; have ha := q0a hn hd
        have ha := ha.add (seeF hs 80 13 (.string t3339.1) KR KR)
        refine yStep ha 16 KR ?_; intro l_ ha HK
        refine stepp ha 16 (.string t3339.1) KR KR ?_; intro ax hax; exact HK _ _ _ hax rfl (Below.refl _ _)
      ·
       intro a W3343 ha HW he hf
       replace ha := ha.add (he 8 ((ptr b3116)) KR KR)
       replace ha := ha.add (he 10 (.int .i64 x3248) KR KR)
       replace ha := ha.add (gotF (m := 16) (j := 15) (d := 16) (v := .string t3339.1) hf KR KR KR)
       replace ha := ha.add (gotF (m := 16) (j := 14) (d := 81) (v := .int .i64 t3339.2) hf KR KR KR)
       clear he hf
       refine sp1 ha 17 (.int .i64 t3339.2) ?_; clear ha a; intro a ha
       refine endl (thenN (hK3325 _ _ (wp_seq_k fun K3344 hK3345 => wp_seq_k fun K3346 hK3347 => wp_region_lit ?_))); clear hK3325
       refine sp2 ha 82 (.int .i64 t3339.2) 83 (.bool (t3339.2 != 0)) ?_; clear ha a; intro a ha
       refine endl (thenN (hK3347 _ _ ?_)); clear hK3347
       by_cases hp3348 : t3339.2 = 0
       ·
        replace h := q0b h hp3348
        refine condF ha KR KR (t := (t3339.2 != 0)) (q2f hp3348) ?_
        refine wp_skip ?_
        refine thenN (hK3345 _ _ (wp_seq_k fun K3353 hK3354 => wp_seq_k fun K3355 hK3356 => wp_region_lit ?_)); clear hK3345
        refine sp2 ha 85 (.int .i64 x3248) 86 (.int .i64 0) ?_; clear ha a; intro a ha
        refine endl (thenN (hK3356 _ _ ?_)); clear hK3356
        refine wp_block ?_
        refine loopk (fun k => fun a W3517 => ∃ (x3509 : ByteArray), ∃ (x3510 : Int), ∃ (x3511 : ByteArray), ∃ (x3512 : List ByteArray), ∃ A3513, ∃ c3514, ∃ (x3516 : Int), q06.l1 K x3247 x3248 x3250 x3253 k x3509 x3510 x3511 x3512 x3516 = some r ∧ Has 133 [(8, (ptr b3116)), (16, .string x3509), (85, .int .i64 x3248), (86, .int .i64 x3510)] a ∧ Wd w W3517 ((p0, .cells (ar0 A3326 x3253.f0.length c3327 A3329 x3253.f1.length c3330 A3332 x3253.f2.length c3333 x3253.f3.f2 x3253.f4 x3253.f5 x3253.f6) 53 (0, 0)) :: (b3116, .cells (ar1 p0 x3250.f1 x3250.f2 x3250.f3 x3247 x3511 A3513 x3512.length c3514 x3516 x3250.f8 x3250.f9) 57 (0, 0)) :: F ++ bs) ((rw0 A3326 x3253.f0 c3327) :: (rw0 A3329 x3253.f1 c3330) :: (rw1 A3332 x3253.f2 c3333) :: (rw0 A3513 x3512 c3514) :: os)) K ?_ ?_
        ·
         exact ⟨t3339.1, 0, x3250.f5, x3250.f6, A3319, c3320, x3250.f7, h, ha.sub (q05 KR (q05 KR (q05 KR (q05 KR (q0t _))))), (HW)⟩
        ·
         intro k a W3517 hI
         obtain ⟨x3509, x3510, x3511, x3512, A3513, c3514, x3516, h, ha, HW⟩ := hI
         cases k with
         | zero => exact (q1n (show none = some r from h)).elim
         | succ k3518 =>
          replace h : q06.b1 K x3247 x3248 x3250 x3253 (q06.l1 K x3247 x3248 x3250 x3253 k3518) x3509 x3510 x3511 x3512 x3516 = some r := h
          obtain ⟨again3508, hag3519⟩ : ∃ g_, g_ = q06.l1 K x3247 x3248 x3250 x3253 k3518 := ⟨_, rfl⟩
          rw [← hag3519] at h
          unfold q06.b1 at h
          refine wp_seq_k (fun K3520 hK3521 => ?_)
          refine wp_region_lit ?_
          refine sp1 ha 87 (.bool (decide (x3510 < x3248))) ?_; clear ha a; intro a ha
          refine endl (thenN (hK3521 _ _ (wp_seq_k fun K3522 hK3523 => ?_))); clear hK3521
          by_cases hp3524 : x3510 < x3248
          ·
           replace h := q0b h hp3524
           refine condT ha KR KR (t := decide (x3510 < x3248)) (decide_eq_true hp3524) ?_
           refine wp_skip ?_
           refine thenN (hK3523 _ _ (wp_seq_k fun K3525 hK3526 => ?_)); clear hK3523
           refine wp_block ?_
           refine wp_seq_k (fun K3527 hK3528 => ?_)
           refine wp_region_lit ?_
           refine sp2 ha 88 (.int .i64 x3510) 18 (.int .i64 x3510) ?_; clear ha a; intro a ha
           refine endl (thenN (hK3528 _ _ (wp_seq_k fun K3529 hK3530 => wp_region_lit ?_))); clear hK3528
           refine sp1 ha 90 (.string x3509) ?_; clear ha a; intro a ha
           obtain ⟨t3531, ht3532, h_⟩ := q08 h; replace h := h_; clear h_
           refine stepc ha 91 KR KR (q2k.calls K x3509 t3531 _ (HW.ca0 hG1) ht3532) ?_; clear ha a; rintro e W3533 ⟨rfl, HX3534⟩
           refine ⟨_, rfl, ?_⟩; intro a ha; replace HW := HW.callw HX3534; clear HX3534
           refine sp6 ha 89 (.tuple #[.int .u64 t3531.1, .string t3531.2.1, .int .i64 t3531.2.2.1, .int .i64 t3531.2.2.2]) 92 (.int .u64 t3531.1) 93 (.string t3531.2.1) 94 (.int .i64 t3531.2.2.1) 95 (.int .i64 t3531.2.2.2) 19 (.int .u64 t3531.1) ?_; clear ha a; intro a ha
           refine sp3 ha 20 (.string t3531.2.1) 21 (.int .i64 t3531.2.2.1) 22 (.int .i64 t3531.2.2.2) ?_; clear ha a; intro a ha
           refine endl (thenN (hK3530 _ _ (wp_seq_k fun K3535 hK3536 => wp_seq_k fun K3537 hK3538 => wp_region_lit ?_))); clear hK3530
           refine sp2 ha 96 (.int .i64 t3531.2.2.2) 97 (.bool (t3531.2.2.2 != 0)) ?_; clear ha a; intro a ha
           refine endl (thenN (hK3538 _ _ ?_)); clear hK3538
           by_cases hp3539 : t3531.2.2.2 = 0
           ·
            replace h := q0b h hp3539
            refine condF ha KR KR (t := (t3531.2.2.2 != 0)) (q2f hp3539) ?_
            refine wp_skip ?_
            refine thenN (hK3536 _ _ (wp_seq_k fun K3544 hK3545 => ?_)); clear hK3536
            refine cutn (fun a W3565 => ∃ (x3560 : ByteArray), ∃ (x3561 : List ByteArray), ∃ A3562, ∃ c3563, q06.j1 K again3508 x3509 x3510 x3516 t3531 x3560 x3561 = some r ∧ Has 133 [(8, (ptr b3116)), (16, .string x3509), (21, .int .i64 t3531.2.2.1), (85, .int .i64 x3248), (86, .int .i64 x3510)] a ∧ Wd w W3565 ((p0, .cells (ar0 A3326 x3253.f0.length c3327 A3329 x3253.f1.length c3330 A3332 x3253.f2.length c3333 x3253.f3.f2 x3253.f4 x3253.f5 x3253.f6) 53 (0, 0)) :: (b3116, .cells (ar1 p0 x3250.f1 x3250.f2 x3250.f3 x3247 x3560 A3562 x3561.length c3563 x3516 x3250.f8 x3250.f9) 57 (0, 0)) :: F ++ bs) ((rw0 A3326 x3253.f0 c3327) :: (rw0 A3329 x3253.f1 c3330) :: (rw1 A3332 x3253.f2 c3333) :: (rw0 A3562 x3561 c3563) :: os)) ?_ ?_
            ·
             refine wp_seq_k (fun K3546 hK3547 => ?_)
             refine wp_region_lit ?_
             refine sp2 ha 98 (.int .i64 x3510) 99 (.bool (x3510 == 0)) ?_; clear ha a; intro a ha
             refine endl (thenN (hK3547 _ _ ?_)); clear hK3547
             by_cases hp3548 : x3510 = 0
             ·
              replace h := q0b h hp3548
              refine condT ha KR KR (t := (x3510 == 0)) (ieq_t hp3548) ?_
              refine wp_region_lit ?_
              refine sp4 ha 100 ((ptr b3116)) 101 (.string t3531.2.1) 102 ((ptr b3116)) 103 (.pointer (some ⟨b3116, 5, none⟩)) ?_; clear ha a; intro a ha
              refine q26 ha HW 1 (b := b3116) (C := (ar1 p0 x3250.f1 x3250.f2 x3250.f3 x3247 x3511 A3513 x3512.length c3514 x3516 x3250.f8 x3250.f9)) (T := 57) KR 9 5 (.tmp 103) (.tmp 101) (.string t3531.2.1) (ar1 p0 x3250.f1 x3250.f2 x3250.f3 x3247 t3531.2.1 A3513 x3512.length c3514 x3516 x3250.f8 x3250.f9) rfl KR KR KR KR KR KR KR ?_; clear ha HW a; intro a W3549 HW ha
              refine endl ?_
              exact thenN ⟨t3531.2.1, x3512, A3513, c3514, h, ha.sub (q05 KR (q05 KR (q05 KR (q05 KR (q05 KR (q0t _)))))), (HW)⟩
             ·
              replace h := q0c h hp3548
              refine condF ha KR KR (t := (x3510 == 0)) (ieq_f hp3548) ?_
              refine wp_region_lit ?_
              refine sp4 ha 104 ((ptr b3116)) 105 ((ptr b3116)) 106 ((ptr b3116)) 107 (.pointer (some ⟨b3116, 6, none⟩)) ?_; clear ha a; intro a ha
              refine stepl ha 108 (HW.ca (i := 1) (b := b3116) (C := (ar1 p0 x3250.f1 x3250.f2 x3250.f3 x3247 x3511 A3513 x3512.length c3514 x3516 x3250.f8 x3250.f9)) (T := 57) (fr := (0, 0)) KR) 22 6 (.tmp 107) (.slice A3513 x3512.length c3514) rfl KR KR KR ?_; clear ha a; intro a ha
              refine sp1 ha 109 (.string t3531.2.1) ?_; clear ha a; intro a ha
              refine stepbs ha HW 110 9 1 1 #[.string t3531.2.1] [.string t3531.2.1] (by decide) KR KR KR KR ?_; clear ha HW a; intro b3550 a W3551 HW ha
              replace HW : Wd w W3551 ((p0, .cells (ar0 A3326 x3253.f0.length c3327 A3329 x3253.f1.length c3330 A3332 x3253.f2.length c3333 x3253.f3.f2 x3253.f4 x3253.f5 x3253.f6) 53 (0, 0)) :: (b3116, .cells (ar1 p0 x3250.f1 x3250.f2 x3250.f3 x3247 x3511 A3513 x3512.length c3514 x3516 x3250.f8 x3250.f9) 57 (0, 0)) :: F ++ bs) ((rw0 (some ⟨b3550, 0, none⟩) ([t3531.2.1] : List ByteArray) 1) :: (rw0 A3326 x3253.f0 c3327) :: (rw0 A3329 x3253.f1 c3330) :: (rw1 A3332 x3253.f2 c3333) :: (rw0 A3513 x3512 c3514) :: os) := HW
              replace ha := ha.turn 110 (v := .slice (some ⟨b3550, 0, none⟩) ([t3531.2.1] : List ByteArray).length 1) KR rfl
              obtain ⟨hA3553, h_⟩ := q0d h; replace h := h_; clear h_
              refine stepape encS ha HW 111 4 22 9 (.tmp 108) (.tmp 110) (.string (⟨#[]⟩ : ByteArray)) 1 16 (.slice A3513 x3512.length c3514) x3512 (.slice (some ⟨b3550, 0, none⟩) ([t3531.2.1] : List ByteArray).length 1) ([t3531.2.1] : List ByteArray) KR rfl KR KR (HW.rdo (i := 0) (q := (rw0 (some ⟨b3550, 0, none⟩) ([t3531.2.1] : List ByteArray) 1)) KR) (fun _ => rfl) KR KR KR (by decide) (by have := hA3553; unfold maxLen; omega) (by have := hA3553; omega) KR ?_; clear ha HW a; intro A3554 c3555 a W3556 HW ha
              refine sp2 ha 112 ((ptr b3116)) 113 (.pointer (some ⟨b3116, 6, none⟩)) ?_; clear ha a; intro a ha
              refine q26 ha HW 1 (b := b3116) (C := (ar1 p0 x3250.f1 x3250.f2 x3250.f3 x3247 x3511 A3513 x3512.length c3514 x3516 x3250.f8 x3250.f9)) (T := 57) KR 22 6 (.tmp 113) (.tmp 111) (.slice A3554 (x3512 ++ ([t3531.2.1] : List ByteArray)).length c3555) (ar1 p0 x3250.f1 x3250.f2 x3250.f3 x3247 x3511 A3554 ((x3512 ++ ([t3531.2.1] : List ByteArray)).length) c3555 x3516 x3250.f8 x3250.f9) rfl KR KR KR KR KR KR KR ?_; clear ha HW a; intro a W3559 HW ha
              refine endl ?_
              exact thenN ⟨x3511, x3512 ++ ([t3531.2.1] : List ByteArray), A3554, c3555, h, ha.sub (q05 KR (q05 KR (q05 KR (q05 KR (q05 KR (q0t _)))))), (Wd.sg [[(p0, .cells (ar0 A3326 x3253.f0.length c3327 A3329 x3253.f1.length c3330 A3332 x3253.f2.length c3333 x3253.f3.f2 x3253.f4 x3253.f5 x3253.f6) 53 (0, 0))], [(b3116, .cells (ar1 p0 x3250.f1 x3250.f2 x3250.f3 x3247 x3511 A3554 ((x3512 ++ ([t3531.2.1] : List ByteArray)).length) c3555 x3516 x3250.f8 x3250.f9) 57 (0, 0))], F] bs [(rw0 (some ⟨b3550, 0, none⟩) ([t3531.2.1] : List ByteArray) 1), (rw0 A3326 x3253.f0 c3327), (rw0 A3329 x3253.f1 c3330), (rw1 A3332 x3253.f2 c3333), (rw0 A3554 (x3512 ++ ([t3531.2.1] : List ByteArray)) c3555)] os [[(p0, .cells (ar0 A3326 x3253.f0.length c3327 A3329 x3253.f1.length c3330 A3332 x3253.f2.length c3333 x3253.f3.f2 x3253.f4 x3253.f5 x3253.f6) 53 (0, 0))], [(b3116, .cells (ar1 p0 x3250.f1 x3250.f2 x3250.f3 x3247 x3511 A3554 ((x3512 ++ ([t3531.2.1] : List ByteArray)).length) c3555 x3516 x3250.f8 x3250.f9) 57 (0, 0))], F] [(rw0 A3326 x3253.f0 c3327), (rw0 A3329 x3253.f1 c3330), (rw1 A3332 x3253.f2 c3333), (rw0 A3554 (x3512 ++ ([t3531.2.1] : List ByteArray)) c3555)] HW [0, 1, 2] [] [1, 2, 3, 4] KR KR (by decide) KR)⟩
            ·
             intro a W3565 hJ
             obtain ⟨x3560, x3561, A3562, c3563, h, ha, HW⟩ := hJ
             replace h : q06.j1 K again3508 x3509 x3510 x3516 t3531 x3560 x3561 = some r := h
             unfold q06.j1 at h
             refine hK3545 _ _ ?_; clear hK3545
             refine wp_seq_k (fun K3566 hK3567 => ?_)
             refine wp_region_lit ?_
             refine sp3 ha 114 ((ptr b3116)) 115 ((ptr b3116)) 116 (.pointer (some ⟨b3116, 7, none⟩)) ?_; clear ha a; intro a ha
             refine stepl ha 117 (HW.ca (i := 1) (b := b3116) (C := (ar1 p0 x3250.f1 x3250.f2 x3250.f3 x3247 x3560 A3562 x3561.length c3563 x3516 x3250.f8 x3250.f9)) (T := 57) (fr := (0, 0)) KR) 3 7 (.tmp 116) (.int .i64 x3516) rfl KR KR KR ?_; clear ha a; intro a ha
             refine sp5 ha 118 (.int .i64 t3531.2.2.1) 119 (.int .i64 (IntKind.wrap .i64 (Int.tdiv t3531.2.2.1 512))) 120 (.int .i64 (IntKind.wrap .i64 (x3516 + (IntKind.wrap .i64 (Int.tdiv t3531.2.2.1 512))))) 121 ((ptr b3116)) 122 (.pointer (some ⟨b3116, 7, none⟩)) ?_; clear ha a; intro a ha
             refine q26 ha HW 1 (b := b3116) (C := (ar1 p0 x3250.f1 x3250.f2 x3250.f3 x3247 x3560 A3562 x3561.length c3563 x3516 x3250.f8 x3250.f9)) (T := 57) KR 3 7 (.tmp 122) (.tmp 120) (.int .i64 (IntKind.wrap .i64 (x3516 + (IntKind.wrap .i64 (Int.tdiv t3531.2.2.1 512))))) (ar1 p0 x3250.f1 x3250.f2 x3250.f3 x3247 x3560 A3562 x3561.length c3563 (IntKind.wrap .i64 (x3516 + (IntKind.wrap .i64 (Int.tdiv t3531.2.2.1 512)))) x3250.f8 x3250.f9) rfl KR KR KR KR KR KR KR ?_; clear ha HW a; intro a W3568 HW ha
             refine endl (thenN (hK3567 _ _ (wp_region_lit ?_))); clear hK3567
             refine sp2 ha 123 (.string x3509) 124 (.int .i64 t3531.2.2.1) ?_; clear ha a; intro a ha
             obtain ⟨hA3569, h_⟩ := q0d h; replace h := h_; clear h_
             obtain ⟨hA3570, h_⟩ := q0d h; replace h := h_; clear h_
             refine stepssl ha 125 9 (.tmp 123) (.tmp 124) x3509 .i64 t3531.2.2.1 rfl KR KR KR hA3569 (show (t3531.2.2.1 : Int) ≤ ((x3509).size : Int) from hA3570) KR ?_; clear ha a; intro a ha
             refine sp1 ha 16 (.string (x3509.extract (t3531.2.2.1 : Int).toNat (x3509).size)) ?_; clear ha a; intro a ha
             refine endl ?_
             refine blkN ?_
             refine thenN (hK3526 _ _ (wp_region_lit ?_)); clear hK3526
             refine sp2 ha 126 (.int .i64 (IntKind.wrap .i64 (x3510 + 1))) 86 (.int .i64 (IntKind.wrap .i64 (x3510 + 1))) ?_; clear ha a; intro a ha
             refine endl ?_
             exact thenN ⟨k3518, Nat.lt_succ_self k3518, x3509.extract (t3531.2.2.1 : Int).toNat (x3509).size, IntKind.wrap .i64 (x3510 + 1), x3560, x3561, A3562, c3563, IntKind.wrap .i64 (x3516 + (IntKind.wrap .i64 (Int.tdiv t3531.2.2.1 512))), (by rw [← hag3519]; exact h), ha.sub (q05 KR (q05 KR (q05 KR (q05 KR (q0t _))))), (HW)⟩
           ·
            replace h := q0c h hp3539
            refine condT ha KR KR (t := (t3531.2.2.2 != 0)) (q2e hp3539) ?_
            refine wp_seq_k (fun K3540 hK3541 => ?_)
            refine wp_region_lit ?_
            refine sp2 ha 6 (.pointer none) 7 (.int .i64 61) ?_; clear ha a; intro a ha
            refine endl (thenN (hK3541 _ _ ?_)); clear hK3541
            refine wp_ret ?_
            refine thenR ?_
            refine blkR ?_
            refine thenR ?_
            refine thenR ?_
            refine blkR ?_
            refine thenR ?_
            obtain ⟨U3542, hU3543, HW⟩ := q04.fold (x := (⟨x3253.f0, x3253.f1, x3253.f2, (⟨(), (), x3253.f3.f2⟩ : q03), x3253.f4, x3253.f5, x3253.f6⟩ : q04)) (HW)
            replace HW := Wd.sg [U3542, [(b3116, .cells (ar1 p0 x3250.f1 x3250.f2 x3250.f3 x3247 x3511 A3513 x3512.length c3514 x3516 x3250.f8 x3250.f9) 57 (0, 0))], F] bs [(rw0 A3513 x3512 c3514)] os [[(b3116, .cells (ar1 p0 x3250.f1 x3250.f2 x3250.f3 x3247 x3511 A3513 x3512.length c3514 x3516 x3250.f8 x3250.f9) 57 (0, 0))], U3542, F] [(rw0 A3513 x3512 c3514)] HW [1, 0, 2] [] [0] KR KR (by decide) KR
            replace HW : Wd w W3533 ((b3116, .cells (ar1 p0 x3250.f1 x3250.f2 x3250.f3 x3247 x3511 A3513 x3512.length c3514 x3516 x3250.f8 x3250.f9) 57 (0, 0)) :: U3542 ++ (F ++ bs)) ((rw0 A3513 x3512 c3514) :: os) := HW
            obtain rfl := Option.some.inj h
            exact finv ha _ _ rfl (.tmp (v := .pointer none) KR (.tmp (v := .int .i64 61) KR .nil)) (.tuple #[.pointer none, .int .i64 61]) rfl ⟨.pointer none, [], U3542, rfl, ⟨rfl, rfl⟩, hU3543, (Wd.sg [[(b3116, .cells (ar1 p0 x3250.f1 x3250.f2 x3250.f3 x3247 x3511 A3513 x3512.length c3514 x3516 x3250.f8 x3250.f9) 57 (0, 0))], U3542, F] bs [(rw0 A3513 x3512 c3514)] os [U3542, F] [] HW [1, 2] [0] [] KR KR (by decide) KR)⟩
          ·
           replace h := q0c h hp3524
           refine condF ha KR KR (t := decide (x3510 < x3248)) (decide_eq_false hp3524) ?_
           refine wp_exit ?_
           refine thenE ?_
           refine thenE ?_
           refine inBlk ?_
           refine thenN (hK3354 _ _ (wp_seq_k fun K3571 hK3572 => wp_seq_k fun K3573 hK3574 => wp_region_lit ?_)); clear hK3354
           refine sp1 ha 127 ((ptr b3116)) ?_; clear ha a; intro a ha
           obtain ⟨U3575, hU3576, HW⟩ := q00.fold (x := (⟨(), x3250.f1, x3250.f2, x3250.f3, (⟨(), (), x3247⟩ : q03), x3511, x3512, x3516, x3250.f8, x3250.f9⟩ : q00)) (Wd.sg [[(p0, .cells (ar0 A3326 x3253.f0.length c3327 A3329 x3253.f1.length c3330 A3332 x3253.f2.length c3333 x3253.f3.f2 x3253.f4 x3253.f5 x3253.f6) 53 (0, 0))], [(b3116, .cells (ar1 p0 x3250.f1 x3250.f2 x3250.f3 x3247 x3511 A3513 x3512.length c3514 x3516 x3250.f8 x3250.f9) 57 (0, 0))], F] bs [(rw0 A3326 x3253.f0 c3327), (rw0 A3329 x3253.f1 c3330), (rw1 A3332 x3253.f2 c3333), (rw0 A3513 x3512 c3514)] os [[(b3116, .cells (ar1 p0 x3250.f1 x3250.f2 x3250.f3 x3247 x3511 A3513 x3512.length c3514 x3516 x3250.f8 x3250.f9) 57 (0, 0))], [(p0, .cells (ar0 A3326 x3253.f0.length c3327 A3329 x3253.f1.length c3330 A3332 x3253.f2.length c3333 x3253.f3.f2 x3253.f4 x3253.f5 x3253.f6) 53 (0, 0))], F] [(rw0 A3513 x3512 c3514), (rw0 A3326 x3253.f0 c3327), (rw0 A3329 x3253.f1 c3330), (rw1 A3332 x3253.f2 c3333)] HW [1, 0, 2] [] [3, 0, 1, 2] KR KR (by decide) KR)
           replace HW := Wd.sg [U3575, [(p0, .cells (ar0 A3326 x3253.f0.length c3327 A3329 x3253.f1.length c3330 A3332 x3253.f2.length c3333 x3253.f3.f2 x3253.f4 x3253.f5 x3253.f6) 53 (0, 0))], F] bs [(rw0 A3326 x3253.f0 c3327), (rw0 A3329 x3253.f1 c3330), (rw1 A3332 x3253.f2 c3333)] os [[(p0, .cells (ar0 A3326 x3253.f0.length c3327 A3329 x3253.f1.length c3330 A3332 x3253.f2.length c3333 x3253.f3.f2 x3253.f4 x3253.f5 x3253.f6) 53 (0, 0))], U3575, F] [(rw0 A3326 x3253.f0 c3327), (rw0 A3329 x3253.f1 c3330), (rw1 A3332 x3253.f2 c3333)] HW [1, 0, 2] [] [0, 1, 2] KR KR (by decide) KR
           replace HW : Wd w W3517 ((p0, .cells (ar0 A3326 x3253.f0.length c3327 A3329 x3253.f1.length c3330 A3332 x3253.f2.length c3333 x3253.f3.f2 x3253.f4 x3253.f5 x3253.f6) 53 (0, 0)) :: U3575 ++ (F ++ bs)) ((rw0 A3326 x3253.f0 c3327) :: (rw0 A3329 x3253.f1 c3330) :: (rw1 A3332 x3253.f2 c3333) :: os) := HW
           obtain ⟨U3577, hU3578, HW⟩ := q04.fold (x := (⟨x3253.f0, x3253.f1, x3253.f2, (⟨(), (), x3253.f3.f2⟩ : q03), x3253.f4, x3253.f5, x3253.f6⟩ : q04)) (HW)
           replace HW := HW
           replace HW : Wd w W3517 (U3577 ++ (U3575 ++ (F ++ bs))) (os) := HW
           obtain ⟨t3579, ht3580, h_⟩ := q08 h; replace h := h_; clear h_
           refine stepc ha 128 KR KR (q0j.calls K (⟨(), x3250.f1, x3250.f2, x3250.f3, (⟨(), (), x3247⟩ : q03), x3511, x3512, x3516, x3250.f8, x3250.f9⟩ : q00) (⟨x3253.f0, x3253.f1, x3253.f2, (⟨(), (), x3253.f3.f2⟩ : q03), x3253.f4, x3253.f5, x3253.f6⟩ : q04) b3116 U3575 p0 U3577 t3579 _ _ F bs (os) hU3576 hU3578 (Wd.sg [U3577, U3575, F] bs [] os [U3575, U3577, F] [] HW [1, 0, 2] [] [] KR KR (by decide) KR) ht3580) ?_; clear ha a; rintro e W3583 ⟨U3581, U3582, rfl, hU3576n, hU3578n, HX3584⟩
           refine ⟨_, rfl, ?_⟩; intro a ha; clear HW
           clear hU3576; have hU3576 := hU3576n; clear hU3576n
           clear hU3578; have hU3578 := hU3578n; clear hU3578n
           have HW : Wd w W3583 (U3582 ++ (U3581 ++ (F ++ bs))) (os) := Wd.sg [U3581, U3582, F] bs [] os [U3582, U3581, F] [] HX3584 [1, 0, 2] [] [] KR KR (by decide) KR; clear HX3584
           refine sp1 ha 23 (.int .i64 t3579.1) ?_; clear ha a; intro a ha
           refine endl (thenN (hK3574 _ _ (wp_seq_k fun K3587 hK3588 => wp_region_lit ?_))); clear hK3574
           refine sp2 ha 129 (.int .i64 t3579.1) 130 (.bool (t3579.1 != 0)) ?_; clear ha a; intro a ha
           refine endl (thenN (hK3588 _ _ ?_)); clear hK3588
           by_cases hp3589 : t3579.1 = 0
           ·
            replace h := q0b h hp3589
            refine condF ha KR KR (t := (t3579.1 != 0)) (q2f hp3589) ?_
            refine wp_skip ?_
            refine thenN (hK3572 _ _ (wp_seq_k fun K3592 hK3593 => wp_region_lit ?_)); clear hK3572
            refine sp3 ha 132 ((ptr b3116)) 6 ((ptr b3116)) 7 (.int .i64 0) ?_; clear ha a; intro a ha
            refine endl (thenN (hK3593 _ _ ?_)); clear hK3593
            refine wp_ret ?_
            obtain rfl := Option.some.inj h
            exact finv ha _ _ rfl (.tmp (v := (ptr b3116)) KR (.tmp (v := .int .i64 0) KR .nil)) (.tuple #[(ptr b3116), .int .i64 0]) rfl ⟨(ptr b3116), U3581, U3582, rfl, ⟨b3116, rfl, hU3576⟩, hU3578, (Wd.sg [U3582, U3581, F] bs [] os [U3581, U3582, F] [] HW [1, 0, 2] [] [] KR KR (by decide) KR)⟩
           ·
            replace h := q0c h hp3589
            refine condT ha KR KR (t := (t3579.1 != 0)) (q2e hp3589) ?_
            refine wp_seq_k (fun K3590 hK3591 => ?_)
            refine wp_region_lit ?_
            refine sp3 ha 131 (.int .i64 t3579.1) 6 (.pointer none) 7 (.int .i64 t3579.1) ?_; clear ha a; intro a ha
            refine endl (thenN (hK3591 _ _ ?_)); clear hK3591
            refine wp_ret ?_
            refine thenR ?_
            obtain rfl := Option.some.inj h
            exact finv ha _ _ rfl (.tmp (v := .pointer none) KR (.tmp (v := .int .i64 t3579.1) KR .nil)) (.tuple #[.pointer none, .int .i64 t3579.1]) rfl ⟨.pointer none, [], U3582, rfl, ⟨rfl, rfl⟩, hU3578, (Wd.sg [U3582, U3581, F] bs [] os [U3582, F] [] HW [0, 2] [1] [] KR KR (by decide) KR)⟩
       ·
        replace h := q0c h hp3348
        refine condT ha KR KR (t := (t3339.2 != 0)) (q2e hp3348) ?_
        refine wp_seq_k (fun K3349 hK3350 => ?_)
        refine wp_region_lit ?_
        refine sp3 ha 84 (.int .i64 t3339.2) 6 (.pointer none) 7 (.int .i64 t3339.2) ?_; clear ha a; intro a ha
        refine endl (thenN (hK3350 _ _ ?_)); clear hK3350
        refine wp_ret ?_
        refine thenR ?_
        obtain ⟨U3351, hU3352, HW⟩ := q04.fold (x := (⟨x3253.f0, x3253.f1, x3253.f2, (⟨(), (), x3253.f3.f2⟩ : q03), x3253.f4, x3253.f5, x3253.f6⟩ : q04)) (HW)
        replace HW := Wd.sg [U3351, [(b3116, .cells (ar1 p0 x3250.f1 x3250.f2 x3250.f3 x3247 x3250.f5 A3319 x3250.f6.length c3320 x3250.f7 x3250.f8 x3250.f9) 57 (0, 0))], F] bs [(rw0 A3319 x3250.f6 c3320)] os [[(b3116, .cells (ar1 p0 x3250.f1 x3250.f2 x3250.f3 x3247 x3250.f5 A3319 x3250.f6.length c3320 x3250.f7 x3250.f8 x3250.f9) 57 (0, 0))], U3351, F] [(rw0 A3319 x3250.f6 c3320)] HW [1, 0, 2] [] [0] KR KR (by decide) KR
        replace HW : Wd w W3343 ((b3116, .cells (ar1 p0 x3250.f1 x3250.f2 x3250.f3 x3247 x3250.f5 A3319 x3250.f6.length c3320 x3250.f7 x3250.f8 x3250.f9) 57 (0, 0)) :: U3351 ++ (F ++ bs)) ((rw0 A3319 x3250.f6 c3320) :: os) := HW
        obtain rfl := Option.some.inj h
        exact finv ha _ _ rfl (.tmp (v := .pointer none) KR (.tmp (v := .int .i64 t3339.2) KR .nil)) (.tuple #[.pointer none, .int .i64 t3339.2]) rfl ⟨.pointer none, [], U3351, rfl, ⟨rfl, rfl⟩, hU3352, (Wd.sg [[(b3116, .cells (ar1 p0 x3250.f1 x3250.f2 x3250.f3 x3247 x3250.f5 A3319 x3250.f6.length c3320 x3250.f7 x3250.f8 x3250.f9) 57 (0, 0))], U3351, F] bs [(rw0 A3319 x3250.f6 c3320)] os [U3351, F] [] HW [1, 2] [0] [] KR KR (by decide) KR)⟩
end Go.Proofs.YtokdiacjcbolfaaDoor.F
namespace Go.Proofs.YtokdiacjcbolfaaDoor.F
open Go Go.RowKit Go.Proofs.YtokdiacjcbolfaaDoor.X
set_option linter.unusedVariables false
set_option linter.unusedSimpArgs false
def q0f.j0 (K : Nat) (a1 : ByteArray) (t4251 : Int) (x4307 : q00) (x4310 : q04) : Option (Int × q00 × q04) :=
 (q0s.f K (⟨(), x4307.f1, x4307.f2, x4307.f3, (⟨(), (), x4307.f4.f2⟩ : q03), x4307.f5, x4307.f6, x4307.f7, x4307.f8, x4307.f9⟩ : q00) x4310 (IntKind.wrap .i64 (1 - x4307.f3)) 0 a1 1).bind fun t4323 => (if t4323.1 = 0 then (some (0, (⟨(), t4323.2.1.f1, t4323.2.1.f2, IntKind.wrap .i64 (1 - t4323.2.1.f3), (⟨(), (), t4323.2.1.f4.f2⟩ : q03), a1, ([] : List ByteArray), t4251, t4323.2.1.f8, t4323.2.1.f9⟩ : q00), t4323.2.2)) else (some (t4323.1, t4323.2.1, t4323.2.2)))
def q0f.f (K : Nat) (a0 : q00) (a0_0 : q04) (a1 : ByteArray) : Option (Int × q00 × q04) :=
 (q0x.f (a1.size : Int)).bind fun t4251 => (if a0.f9 = true then (some (41, (⟨(), a0.f1, a0.f2, a0.f3, (⟨(), (), a0.f4.f2⟩ : q03), a0.f5, a0.f6, a0.f7, a0.f8, a0.f9⟩ : q00), a0_0)) else (if (a1.size : Int) > 65536 then (some (2, (⟨(), a0.f1, a0.f2, a0.f3, (⟨(), (), a0.f4.f2⟩ : q03), a0.f5, a0.f6, a0.f7, a0.f8, a0.f9⟩ : q00), a0_0)) else (if t4251 > a0.f2 then (some (60, (⟨(), a0.f1, a0.f2, a0.f3, (⟨(), (), a0.f4.f2⟩ : q03), a0.f5, a0.f6, a0.f7, a0.f8, a0.f9⟩ : q00), a0_0)) else (if a0.f8 = true then ((q0j.f K (⟨(), a0.f1, a0.f2, a0.f3, (⟨(), (), a0.f4.f2⟩ : q03), a0.f5, a0.f6, a0.f7, a0.f8, a0.f9⟩ : q00) a0_0).bind fun t4292 => (if t4292.1 = 0 then (q0f.j0 K a1 t4251 t4292.2.1 t4292.2.2) else (some (t4292.1, t4292.2.1, t4292.2.2)))) else (q0f.j0 K a1 t4251 (⟨(), a0.f1, a0.f2, a0.f3, (⟨(), (), a0.f4.f2⟩ : q03), a0.f5, a0.f6, a0.f7, a0.f8, a0.f9⟩ : q00) a0_0)))))
set_option maxRecDepth 100000 in
set_option maxHeartbeats 4000000 in
theorem q0f.calls (K : Nat) (a0 : q00) (a0_0 : q04) (a1 : ByteArray) (p0 : Nat) (U0 : Blks) (p0_0 : Nat) (U0_0 : Blks)  (r : Int × q00 × q04) (w w1 : World) (F bs : Blks) (os : List OwnA) (hG1 : CA w 1 0 (encs (encIK .u32) q0h).toArray) (hU0 : q00.At p0 p0_0 a0 U0) (hU0_0 : q04.At p0_0  a0_0 U0_0) (HW : Wd w w1 (U0 ++ (U0_0 ++ (F ++ bs))) os) (h : q0f.f K a0 a0_0 a1 = some r) :
  Calls Tryd.prog 18 #[.pointer (some ⟨p0, 0, none⟩), .string a1] w1 (fun e W' => ∃ U0' : Blks, ∃ U0_0' : Blks, e = .returned (.int .i64 r.1) ∧ q00.At p0 p0_0 r.2.1 U0' ∧ q04.At p0_0  r.2.2 U0_0' ∧ Wd w W' (U0' ++ (U0_0' ++ (F ++ bs))) (os)) := by
 refine q17 (n := 69) (l := [(0, (ptr p0)), (1, .string a1)]) Tryd.func18 rfl rfl (Nat.le_of_ble_eq_true KR) (q07 rfl (q07 rfl (q0q _))) ?_
 intro a ha
 replace HW : Wd w w1 (U0 ++ (U0_0 ++ (F ++ bs))) (os) := HW
 unfold q0f.f at h
 refine wp_seq_k (fun K4247 hK4248 => ?_)
 refine wp_region_lit ?_
 refine sp1 ha 4 (.int .i64 0) ?_; clear ha a; intro a ha
 refine endl (thenN (hK4248 _ _ (wp_seq_k fun K4249 hK4250 => wp_region_lit ?_))); clear hK4248
 refine sp2 ha 8 (.string a1) 9 (.int .i64 (a1.size : Int)) ?_; clear ha a; intro a ha
 obtain ⟨t4251, ht4252, h_⟩ := q08 h; replace h := h_; clear h_
 refine stepc ha 10 KR KR (q0x.calls (a1.size : Int) t4251 _ ht4252) ?_; clear ha a; rintro e W4253 ⟨rfl, HX4254⟩
 refine ⟨_, rfl, ?_⟩; intro a ha; replace HW := HW.callw HX4254; clear HX4254
 refine sp1 ha 5 (.int .i64 t4251) ?_; clear ha a; intro a ha
 refine endl (thenN (hK4250 _ _ (wp_seq_k fun K4255 hK4256 => ?_))); clear hK4250
 refine wp_block ?_
 refine wp_seq_k (fun K4257 hK4258 => ?_)
 refine wp_region_lit ?_
 refine sp3 ha 12 ((ptr p0)) 13 (.bool false) 11 (.bool false) ?_; clear ha a; intro a ha
 refine endl (thenN (hK4258 _ _ ?_)); clear hK4258
 refine condF ha KR KR (t := false) (rfl) ?_
 refine wp_seq_k (fun K4259 hK4260 => ?_)
 refine wp_region_lit ?_
 refine sp3 ha 15 ((ptr p0)) 16 ((ptr p0)) 17 (.pointer (some ⟨p0, 9, none⟩)) ?_; clear ha a; intro a ha
 obtain ⟨A4261, c4262, HW⟩ := q00.unfold hU0 (HW)
 replace HW : Wd w W4253 ((p0, .cells (ar1 p0_0 a0.f1 a0.f2 a0.f3 a0.f4.f2 a0.f5 A4261 a0.f6.length c4262 a0.f7 a0.f8 a0.f9) 57 (0, 0)) :: U0_0 ++ (F ++ bs)) ((rw0 A4261 a0.f6 c4262) :: os) := HW; clear hU0
 refine stepl ha 18 (HW.ca (i := 0) (b := p0) (C := (ar1 p0_0 a0.f1 a0.f2 a0.f3 a0.f4.f2 a0.f5 A4261 a0.f6.length c4262 a0.f7 a0.f8 a0.f9)) (T := 57) (fr := (0, 0)) KR) 4 9 (.tmp 17) (.bool a0.f9) rfl KR KR KR ?_; clear ha a; intro a ha
 refine sp1 ha 14 (.bool a0.f9) ?_; clear ha a; intro a ha
 refine endl (thenN (hK4260 _ _ ?_)); clear hK4260
 by_cases hp4264 : a0.f9 = true
 ·
  replace h := q0b h hp4264
  refine condT ha KR KR (t := a0.f9) (hp4264) ?_
  refine wp_seq_k (fun K4265 hK4266 => ?_)
  refine wp_region_lit ?_
  refine sp1 ha 4 (.int .i64 41) ?_; clear ha a; intro a ha
  refine endl (thenN (hK4266 _ _ ?_)); clear hK4266
  refine wp_ret ?_
  refine blkR ?_
  refine thenR ?_
  obtain ⟨U4267, hU4268, HW⟩ := q00.fold (x := (⟨(), a0.f1, a0.f2, a0.f3, (⟨(), (), a0.f4.f2⟩ : q03), a0.f5, a0.f6, a0.f7, a0.f8, a0.f9⟩ : q00)) (HW)
  replace HW := HW
  replace HW : Wd w W4253 (U4267 ++ (U0_0 ++ (F ++ bs))) (os) := HW
  obtain rfl := Option.some.inj h
  exact finv ha _ _ rfl (.tmp (v := .int .i64 41) KR .nil) (.int .i64 41) rfl ⟨U4267, U0_0, rfl, hU4268, hU0_0, (HW)⟩
 ·
  replace h := q0c h hp4264
  refine condF ha KR KR (t := a0.f9) (q2w hp4264) ?_
  refine wp_seq_k (fun K4269 hK4270 => ?_)
  refine wp_region_lit ?_
  refine sp4 ha 20 (.string a1) 21 (.int .i64 (a1.size : Int)) 22 (.bool (decide ((a1.size : Int) > 65536))) 19 (.bool (decide ((a1.size : Int) > 65536))) ?_; clear ha a; intro a ha
  refine endl (thenN (hK4270 _ _ ?_)); clear hK4270
  by_cases hp4271 : (a1.size : Int) > 65536
  ·
   replace h := q0b h hp4271
   refine condT ha KR KR (t := decide ((a1.size : Int) > 65536)) (decide_eq_true hp4271) ?_
   refine wp_seq_k (fun K4272 hK4273 => ?_)
   refine wp_region_lit ?_
   refine sp1 ha 4 (.int .i64 2) ?_; clear ha a; intro a ha
   refine endl (thenN (hK4273 _ _ ?_)); clear hK4273
   refine wp_ret ?_
   refine blkR ?_
   refine thenR ?_
   obtain ⟨U4274, hU4275, HW⟩ := q00.fold (x := (⟨(), a0.f1, a0.f2, a0.f3, (⟨(), (), a0.f4.f2⟩ : q03), a0.f5, a0.f6, a0.f7, a0.f8, a0.f9⟩ : q00)) (HW)
   replace HW := HW
   replace HW : Wd w W4253 (U4274 ++ (U0_0 ++ (F ++ bs))) (os) := HW
   obtain rfl := Option.some.inj h
   exact finv ha _ _ rfl (.tmp (v := .int .i64 2) KR .nil) (.int .i64 2) rfl ⟨U4274, U0_0, rfl, hU4275, hU0_0, (HW)⟩
  ·
   replace h := q0c h hp4271
   refine condF ha KR KR (t := decide ((a1.size : Int) > 65536)) (decide_eq_false hp4271) ?_
   refine wp_seq_k (fun K4276 hK4277 => ?_)
   refine wp_region_lit ?_
   refine sp4 ha 24 (.int .i64 t4251) 25 ((ptr p0)) 26 ((ptr p0)) 27 (.pointer (some ⟨p0, 2, none⟩)) ?_; clear ha a; intro a ha
   refine stepl ha 28 (HW.ca (i := 0) (b := p0) (C := (ar1 p0_0 a0.f1 a0.f2 a0.f3 a0.f4.f2 a0.f5 A4261 a0.f6.length c4262 a0.f7 a0.f8 a0.f9)) (T := 57) (fr := (0, 0)) KR) 3 2 (.tmp 27) (.int .i64 a0.f2) rfl KR KR KR ?_; clear ha a; intro a ha
   refine sp2 ha 29 (.bool (decide (t4251 > a0.f2))) 23 (.bool (decide (t4251 > a0.f2))) ?_; clear ha a; intro a ha
   refine endl (thenN (hK4277 _ _ ?_)); clear hK4277
   by_cases hp4278 : t4251 > a0.f2
   ·
    replace h := q0b h hp4278
    refine condT ha KR KR (t := decide (t4251 > a0.f2)) (decide_eq_true hp4278) ?_
    refine wp_seq_k (fun K4279 hK4280 => ?_)
    refine wp_region_lit ?_
    refine sp1 ha 4 (.int .i64 60) ?_; clear ha a; intro a ha
    refine endl (thenN (hK4280 _ _ ?_)); clear hK4280
    refine wp_ret ?_
    refine blkR ?_
    refine thenR ?_
    obtain ⟨U4281, hU4282, HW⟩ := q00.fold (x := (⟨(), a0.f1, a0.f2, a0.f3, (⟨(), (), a0.f4.f2⟩ : q03), a0.f5, a0.f6, a0.f7, a0.f8, a0.f9⟩ : q00)) (HW)
    replace HW := HW
    replace HW : Wd w W4253 (U4281 ++ (U0_0 ++ (F ++ bs))) (os) := HW
    obtain rfl := Option.some.inj h
    exact finv ha _ _ rfl (.tmp (v := .int .i64 60) KR .nil) (.int .i64 60) rfl ⟨U4281, U0_0, rfl, hU4282, hU0_0, (HW)⟩
   ·
    replace h := q0c h hp4278
    refine condF ha KR KR (t := decide (t4251 > a0.f2)) (decide_eq_false hp4278) ?_
    refine wp_skip ?_
    refine blkN ?_
    refine thenN (hK4256 _ _ (wp_seq_k fun K4283 hK4284 => ?_)); clear hK4256
    refine cutn (fun a W4313 => ∃ (x4307 : q00), ∃ (U4308 : Blks), ∃ (x4310 : q04), ∃ (U4311 : Blks), q0f.j0 K a1 t4251 x4307 x4310 = some r ∧ Has 69 [(0, (ptr p0)), (1, .string a1), (5, .int .i64 t4251)] a ∧ Wd w W4313 (U4308 ++ (U4311 ++ (F ++ bs))) (os) ∧ q00.At p0 p0_0 x4307 U4308 ∧ q04.At p0_0  x4310 U4311) ?_ ?_
    ·
     refine wp_seq_k (fun K4285 hK4286 => ?_)
     refine wp_region_lit ?_
     refine sp3 ha 30 ((ptr p0)) 31 ((ptr p0)) 32 (.pointer (some ⟨p0, 8, none⟩)) ?_; clear ha a; intro a ha
     refine stepl ha 33 (HW.ca (i := 0) (b := p0) (C := (ar1 p0_0 a0.f1 a0.f2 a0.f3 a0.f4.f2 a0.f5 A4261 a0.f6.length c4262 a0.f7 a0.f8 a0.f9)) (T := 57) (fr := (0, 0)) KR) 4 8 (.tmp 32) (.bool a0.f8) rfl KR KR KR ?_; clear ha a; intro a ha
     refine endl (thenN (hK4286 _ _ ?_)); clear hK4286
     by_cases hp4287 : a0.f8 = true
     ·
      replace h := q0b h hp4287
      refine condT ha KR KR (t := a0.f8) (hp4287) ?_
      refine wp_seq_k (fun K4288 hK4289 => ?_)
      refine wp_region_lit ?_
      refine sp1 ha 34 ((ptr p0)) ?_; clear ha a; intro a ha
      obtain ⟨U4290, hU4291, HW⟩ := q00.fold (x := (⟨(), a0.f1, a0.f2, a0.f3, (⟨(), (), a0.f4.f2⟩ : q03), a0.f5, a0.f6, a0.f7, a0.f8, a0.f9⟩ : q00)) (HW)
      replace HW := HW
      replace HW : Wd w W4253 (U4290 ++ (U0_0 ++ (F ++ bs))) (os) := HW
      obtain ⟨t4292, ht4293, h_⟩ := q08 h; replace h := h_; clear h_
      refine stepc ha 35 KR KR (q0j.calls K (⟨(), a0.f1, a0.f2, a0.f3, (⟨(), (), a0.f4.f2⟩ : q03), a0.f5, a0.f6, a0.f7, a0.f8, a0.f9⟩ : q00) a0_0 p0 U4290 p0_0 U0_0 t4292 _ _ F bs (os) hU4291 hU0_0 (HW) ht4293) ?_; clear ha a; rintro e W4296 ⟨U4294, U4295, rfl, hU4291n, hU0_0n, HX4297⟩
      refine ⟨_, rfl, ?_⟩; intro a ha; clear HW
      clear hU4291; have hU4291 := hU4291n; clear hU4291n
      clear hU0_0; have hU0_0 := hU0_0n; clear hU0_0n
      have HW : Wd w W4296 (U4294 ++ (U4295 ++ (F ++ bs))) (os) := HX4297; clear HX4297
      refine sp1 ha 6 (.int .i64 t4292.1) ?_; clear ha a; intro a ha
      refine endl (thenN (hK4289 _ _ (wp_seq_k fun K4300 hK4301 => wp_region_lit ?_))); clear hK4289
      refine sp2 ha 36 (.int .i64 t4292.1) 37 (.bool (t4292.1 != 0)) ?_; clear ha a; intro a ha
      refine endl (thenN (hK4301 _ _ ?_)); clear hK4301
      by_cases hp4302 : t4292.1 = 0
      ·
       replace h := q0b h hp4302
       refine condF ha KR KR (t := (t4292.1 != 0)) (q2f hp4302) ?_
       refine wp_skip ?_
       exact thenN ⟨t4292.2.1, U4294, t4292.2.2, U4295, h, ha.sub (q05 KR (q05 KR (q05 KR (q0t _)))), (HW), hU4291, hU0_0⟩
      ·
       replace h := q0c h hp4302
       refine condT ha KR KR (t := (t4292.1 != 0)) (q2e hp4302) ?_
       refine wp_seq_k (fun K4303 hK4304 => ?_)
       refine wp_region_lit ?_
       refine sp2 ha 38 (.int .i64 t4292.1) 4 (.int .i64 t4292.1) ?_; clear ha a; intro a ha
       refine endl (thenN (hK4304 _ _ ?_)); clear hK4304
       refine wp_ret ?_
       refine thenR ?_
       obtain rfl := Option.some.inj h
       exact finv ha _ _ rfl (.tmp (v := .int .i64 t4292.1) KR .nil) (.int .i64 t4292.1) rfl ⟨U4294, U4295, rfl, hU4291, hU0_0, (HW)⟩
     ·
      replace h := q0c h hp4287
      refine condF ha KR KR (t := a0.f8) (q2w hp4287) ?_
      refine wp_skip ?_
      obtain ⟨U4305, hU4306, HW⟩ := q00.fold (x := (⟨(), a0.f1, a0.f2, a0.f3, (⟨(), (), a0.f4.f2⟩ : q03), a0.f5, a0.f6, a0.f7, a0.f8, a0.f9⟩ : q00)) (HW)
      replace HW := HW
      replace HW : Wd w W4253 (U4305 ++ (U0_0 ++ (F ++ bs))) (os) := HW
      exact thenN ⟨(⟨(), a0.f1, a0.f2, a0.f3, (⟨(), (), a0.f4.f2⟩ : q03), a0.f5, a0.f6, a0.f7, a0.f8, a0.f9⟩ : q00), U4305, a0_0, U0_0, h, ha.sub (q05 KR (q05 KR (q05 KR (q0t _)))), (HW), hU4306, hU0_0⟩
    ·
     intro a W4313 hJ
     obtain ⟨x4307, U4308, x4310, U4311, h, ha, HW, hU4309, hU4312⟩ := hJ
     replace h : q0f.j0 K a1 t4251 x4307 x4310 = some r := h
     unfold q0f.j0 at h
     refine hK4284 _ _ ?_; clear hK4284
     refine wp_seq_k (fun K4314 hK4315 => ?_)
     refine wp_seq_k (fun K4316 hK4317 => ?_)
     refine wp_region_lit ?_
     refine sp4 ha 39 ((ptr p0)) 40 ((ptr p0)) 41 ((ptr p0)) 42 (.pointer (some ⟨p0, 3, none⟩)) ?_; clear ha a; intro a ha
     obtain ⟨A4318, c4319, HW⟩ := q00.unfold hU4309 (HW)
     replace HW : Wd w W4313 ((p0, .cells (ar1 p0_0 x4307.f1 x4307.f2 x4307.f3 x4307.f4.f2 x4307.f5 A4318 x4307.f6.length c4319 x4307.f7 x4307.f8 x4307.f9) 57 (0, 0)) :: U4311 ++ (F ++ bs)) ((rw0 A4318 x4307.f6 c4319) :: os) := HW; clear hU4309
     refine stepl ha 43 (HW.ca (i := 0) (b := p0) (C := (ar1 p0_0 x4307.f1 x4307.f2 x4307.f3 x4307.f4.f2 x4307.f5 A4318 x4307.f6.length c4319 x4307.f7 x4307.f8 x4307.f9)) (T := 57) (fr := (0, 0)) KR) 3 3 (.tmp 42) (.int .i64 x4307.f3) rfl KR KR KR ?_; clear ha a; intro a ha
     refine sp2 ha 44 (.int .i64 (IntKind.wrap .i64 (1 - x4307.f3))) 45 (.string a1) ?_; clear ha a; intro a ha
     obtain ⟨U4321, hU4322, HW⟩ := q00.fold (x := (⟨(), x4307.f1, x4307.f2, x4307.f3, (⟨(), (), x4307.f4.f2⟩ : q03), x4307.f5, x4307.f6, x4307.f7, x4307.f8, x4307.f9⟩ : q00)) (HW)
     replace HW := HW
     replace HW : Wd w W4313 (U4321 ++ (U4311 ++ (F ++ bs))) (os) := HW
     obtain ⟨t4323, ht4324, h_⟩ := q08 h; replace h := h_; clear h_
     refine stepc ha 46 KR KR (q0s.calls K (⟨(), x4307.f1, x4307.f2, x4307.f3, (⟨(), (), x4307.f4.f2⟩ : q03), x4307.f5, x4307.f6, x4307.f7, x4307.f8, x4307.f9⟩ : q00) x4310 (IntKind.wrap .i64 (1 - x4307.f3)) 0 a1 1 p0 U4321 p0_0 U4311 t4323 _ _ F bs (os) hG1 hU4322 hU4312 (HW) ht4324) ?_; clear ha a; rintro e W4327 ⟨U4325, U4326, rfl, hU4322n, hU4312n, HX4328⟩
     refine ⟨_, rfl, ?_⟩; intro a ha; clear HW
     clear hU4322; have hU4322 := hU4322n; clear hU4322n
     clear hU4312; have hU4312 := hU4312n; clear hU4312n
     have HW : Wd w W4327 (U4325 ++ (U4326 ++ (F ++ bs))) (os) := HX4328; clear HX4328
     refine sp1 ha 7 (.int .i64 t4323.1) ?_; clear ha a; intro a ha
     refine endl (thenN (hK4317 _ _ (wp_seq_k fun K4331 hK4332 => wp_region_lit ?_))); clear hK4317
     refine sp2 ha 47 (.int .i64 t4323.1) 48 (.bool (t4323.1 != 0)) ?_; clear ha a; intro a ha
     refine endl (thenN (hK4332 _ _ ?_)); clear hK4332
     by_cases hp4333 : t4323.1 = 0
     ·
      replace h := q0b h hp4333
      refine condF ha KR KR (t := (t4323.1 != 0)) (q2f hp4333) ?_
      refine wp_skip ?_
      refine thenN (hK4315 _ _ (wp_seq_k fun K4336 hK4337 => wp_region_lit ?_)); clear hK4315
      refine sp6 ha 50 ((ptr p0)) 51 ((ptr p0)) 52 ((ptr p0)) 53 ((ptr p0)) 54 ((ptr p0)) 55 ((ptr p0)) ?_; clear ha a; intro a ha
      refine sp1 ha 56 (.pointer (some ⟨p0, 3, none⟩)) ?_; clear ha a; intro a ha
      obtain ⟨A4338, c4339, HW⟩ := q00.unfold hU4322 (HW)
      replace HW : Wd w W4327 ((p0, .cells (ar1 p0_0 t4323.2.1.f1 t4323.2.1.f2 t4323.2.1.f3 t4323.2.1.f4.f2 t4323.2.1.f5 A4338 t4323.2.1.f6.length c4339 t4323.2.1.f7 t4323.2.1.f8 t4323.2.1.f9) 57 (0, 0)) :: U4326 ++ (F ++ bs)) ((rw0 A4338 t4323.2.1.f6 c4339) :: os) := HW; clear hU4322
      refine stepl ha 57 (HW.ca (i := 0) (b := p0) (C := (ar1 p0_0 t4323.2.1.f1 t4323.2.1.f2 t4323.2.1.f3 t4323.2.1.f4.f2 t4323.2.1.f5 A4338 t4323.2.1.f6.length c4339 t4323.2.1.f7 t4323.2.1.f8 t4323.2.1.f9)) (T := 57) (fr := (0, 0)) KR) 3 3 (.tmp 56) (.int .i64 t4323.2.1.f3) rfl KR KR KR ?_; clear ha a; intro a ha
      refine sp5 ha 58 (.int .i64 (IntKind.wrap .i64 (1 - t4323.2.1.f3))) 59 (.string a1) 60 (.int .i64 t4251) 61 ((ptr p0)) 62 (.pointer (some ⟨p0, 3, none⟩)) ?_; clear ha a; intro a ha
      refine q26 ha HW 0 (b := p0) (C := (ar1 p0_0 t4323.2.1.f1 t4323.2.1.f2 t4323.2.1.f3 t4323.2.1.f4.f2 t4323.2.1.f5 A4338 t4323.2.1.f6.length c4339 t4323.2.1.f7 t4323.2.1.f8 t4323.2.1.f9)) (T := 57) KR 3 3 (.tmp 62) (.tmp 58) (.int .i64 (IntKind.wrap .i64 (1 - t4323.2.1.f3))) (ar1 p0_0 t4323.2.1.f1 t4323.2.1.f2 (IntKind.wrap .i64 (1 - t4323.2.1.f3)) t4323.2.1.f4.f2 t4323.2.1.f5 A4338 t4323.2.1.f6.length c4339 t4323.2.1.f7 t4323.2.1.f8 t4323.2.1.f9) rfl KR KR KR KR KR KR KR ?_; clear ha HW a; intro a W4341 HW ha
      refine sp2 ha 63 ((ptr p0)) 64 (.pointer (some ⟨p0, 5, none⟩)) ?_; clear ha a; intro a ha
      refine q26 ha HW 0 (b := p0) (C := (ar1 p0_0 t4323.2.1.f1 t4323.2.1.f2 (IntKind.wrap .i64 (1 - t4323.2.1.f3)) t4323.2.1.f4.f2 t4323.2.1.f5 A4338 t4323.2.1.f6.length c4339 t4323.2.1.f7 t4323.2.1.f8 t4323.2.1.f9)) (T := 57) KR 9 5 (.tmp 64) (.tmp 59) (.string a1) (ar1 p0_0 t4323.2.1.f1 t4323.2.1.f2 (IntKind.wrap .i64 (1 - t4323.2.1.f3)) t4323.2.1.f4.f2 a1 A4338 t4323.2.1.f6.length c4339 t4323.2.1.f7 t4323.2.1.f8 t4323.2.1.f9) rfl KR KR KR KR KR KR KR ?_; clear ha HW a; intro a W4342 HW ha
      refine sp2 ha 65 ((ptr p0)) 66 (.pointer (some ⟨p0, 6, none⟩)) ?_; clear ha a; intro a ha
      refine q26 ha HW 0 (b := p0) (C := (ar1 p0_0 t4323.2.1.f1 t4323.2.1.f2 (IntKind.wrap .i64 (1 - t4323.2.1.f3)) t4323.2.1.f4.f2 a1 A4338 t4323.2.1.f6.length c4339 t4323.2.1.f7 t4323.2.1.f8 t4323.2.1.f9)) (T := 57) KR 22 6 (.tmp 66) (.const (.slice none 0 0)) (.slice none 0 0) #[(ptr p0_0), .int .i64 t4323.2.1.f1, .int .i64 t4323.2.1.f2, .int .i64 (IntKind.wrap .i64 (1 - t4323.2.1.f3)), .int .i64 t4323.2.1.f4.f2, .string a1, .slice none 0 0, .int .i64 t4323.2.1.f7, .bool t4323.2.1.f8, .bool t4323.2.1.f9] rfl KR KR KR KR KR KR KR ?_; clear ha HW a; intro a W4343 HW ha
      refine sp2 ha 67 ((ptr p0)) 68 (.pointer (some ⟨p0, 7, none⟩)) ?_; clear ha a; intro a ha
      refine q26 ha HW 0 (b := p0) (C := #[(ptr p0_0), .int .i64 t4323.2.1.f1, .int .i64 t4323.2.1.f2, .int .i64 (IntKind.wrap .i64 (1 - t4323.2.1.f3)), .int .i64 t4323.2.1.f4.f2, .string a1, .slice none 0 0, .int .i64 t4323.2.1.f7, .bool t4323.2.1.f8, .bool t4323.2.1.f9]) (T := 57) KR 3 7 (.tmp 68) (.tmp 60) (.int .i64 t4251) #[(ptr p0_0), .int .i64 t4323.2.1.f1, .int .i64 t4323.2.1.f2, .int .i64 (IntKind.wrap .i64 (1 - t4323.2.1.f3)), .int .i64 t4323.2.1.f4.f2, .string a1, .slice none 0 0, .int .i64 t4251, .bool t4323.2.1.f8, .bool t4323.2.1.f9] rfl KR KR KR KR KR KR KR ?_; clear ha HW a; intro a W4344 HW ha
      refine endl (thenN (hK4337 _ _ (wp_seq_k fun K4345 hK4346 => wp_region_lit ?_))); clear hK4337
      refine sp1 ha 4 (.int .i64 0) ?_; clear ha a; intro a ha
      refine endl (thenN (hK4346 _ _ ?_)); clear hK4346
      refine wp_ret ?_
      replace HW := HW.nilo 9 1
      replace HW : Wd w W4344 ((p0, .cells #[(ptr p0_0), .int .i64 t4323.2.1.f1, .int .i64 t4323.2.1.f2, .int .i64 (IntKind.wrap .i64 (1 - t4323.2.1.f3)), .int .i64 t4323.2.1.f4.f2, .string a1, .slice none 0 0, .int .i64 t4251, .bool t4323.2.1.f8, .bool t4323.2.1.f9] 57 (0, 0)) :: U4326 ++ (F ++ bs)) (⟨9, 1, .slice none 0 0, ([] : List ByteArray).length, encs encS ([] : List ByteArray)⟩ :: (rw0 A4338 t4323.2.1.f6 c4339) :: os) := HW
      obtain ⟨U4347, hU4348, HW⟩ := q00.fold (x := (⟨(), t4323.2.1.f1, t4323.2.1.f2, IntKind.wrap .i64 (1 - t4323.2.1.f3), (⟨(), (), t4323.2.1.f4.f2⟩ : q03), a1, ([] : List ByteArray), t4251, t4323.2.1.f8, t4323.2.1.f9⟩ : q00)) (HW)
      replace HW := HW
      replace HW : Wd w W4344 (U4347 ++ (U4326 ++ (F ++ bs))) ((rw0 A4338 t4323.2.1.f6 c4339) :: os) := HW
      obtain rfl := Option.some.inj h
      exact finv ha _ _ rfl (.tmp (v := .int .i64 0) KR .nil) (.int .i64 0) rfl ⟨U4347, U4326, rfl, hU4348, hU4312, (Wd.sg [U4347, U4326, F] bs [(rw0 A4338 t4323.2.1.f6 c4339)] os [U4347, U4326, F] [] HW [0, 1, 2] [] [] KR KR (by decide) KR)⟩
     ·
      replace h := q0c h hp4333
      refine condT ha KR KR (t := (t4323.1 != 0)) (q2e hp4333) ?_
      refine wp_seq_k (fun K4334 hK4335 => ?_)
      refine wp_region_lit ?_
      refine sp2 ha 49 (.int .i64 t4323.1) 4 (.int .i64 t4323.1) ?_; clear ha a; intro a ha
      refine endl (thenN (hK4335 _ _ ?_)); clear hK4335
      refine wp_ret ?_
      refine thenR ?_
      obtain rfl := Option.some.inj h
      exact finv ha _ _ rfl (.tmp (v := .int .i64 t4323.1) KR .nil) (.int .i64 t4323.1) rfl ⟨U4325, U4326, rfl, hU4322, hU4312, (HW)⟩
end Go.Proofs.YtokdiacjcbolfaaDoor.F
namespace Go.Proofs.YtokdiacjcbolfaaDoor.F
open Go Go.RowKit Go.Proofs.YtokdiacjcbolfaaDoor.X
set_option linter.unusedVariables false
set_option linter.unusedSimpArgs false
def q2r.f (a0 : q04) (a1 : Int) : Option q04 :=
 some (⟨a0.f0, a0.f1, a0.f2, (⟨(), (), a0.f3.f2⟩ : q03), true, mx a1 0, a0.f6⟩ : q04)
set_option maxRecDepth 100000 in
set_option maxHeartbeats 4000000 in
theorem q2r.calls (a0 : q04) (a1 : Int) (p0 : Nat) (U0 : Blks)  (r : q04) (w w1 : World) (F bs : Blks) (os : List OwnA) (hU0 : q04.At p0  a0 U0) (HW : Wd w w1 (U0 ++ (F ++ bs)) os) (h : q2r.f a0 a1 = some r) :
  Calls Tryd.prog 21 #[.pointer (some ⟨p0, 0, none⟩), .int .i64 a1] w1 (fun e W' => ∃ U0' : Blks, e = .returned (.tuple #[]) ∧ q04.At p0  r U0' ∧ Wd w W' (U0' ++ (F ++ bs)) (os)) := by
 refine q17 (n := 14) (l := [(0, (ptr p0)), (1, .int .i64 a1)]) Tryd.func21 rfl rfl (Nat.le_of_ble_eq_true KR) (q07 rfl (q07 rfl (q0q _))) ?_
 intro a ha
 replace HW : Wd w w1 (U0 ++ (F ++ bs)) (os) := HW
 unfold q2r.f at h
 refine wp_seq_k (fun K5111 hK5112 => ?_)
 refine wp_region_lit ?_
 refine sp2 ha 4 ((ptr p0)) 5 (.bool true) ?_; clear ha a; intro a ha
 refine endl (thenN (hK5112 _ _ ?_)); clear hK5112
 refine condT ha KR KR (t := true) (rfl) ?_
 refine wp_region_lit ?_
 refine sp3 ha 6 ((ptr p0)) 7 ((ptr p0)) 8 (.int .i64 a1) ?_; clear ha a; intro a ha
 refine stepmx ha 9 #[3, 3] (.tmp 8) (.const (.int .i64 0)) .i64 a1 0 rfl KR KR KR ?_; clear ha a; intro a ha
 refine sp2 ha 10 ((ptr p0)) 11 (.pointer (some ⟨p0, 4, none⟩)) ?_; clear ha a; intro a ha
 obtain ⟨A5113, c5114, A5116, c5117, A5119, c5120, HW⟩ := q04.unfold hU0 (HW)
 replace HW : Wd w w1 ((p0, .cells (ar0 A5113 a0.f0.length c5114 A5116 a0.f1.length c5117 A5119 a0.f2.length c5120 a0.f3.f2 a0.f4 a0.f5 a0.f6) 53 (0, 0)) :: F ++ bs) ((rw0 A5113 a0.f0 c5114) :: (rw0 A5116 a0.f1 c5117) :: (rw1 A5119 a0.f2 c5120) :: os) := HW; clear hU0
 refine q26 ha HW 0 (b := p0) (C := (ar0 A5113 a0.f0.length c5114 A5116 a0.f1.length c5117 A5119 a0.f2.length c5120 a0.f3.f2 a0.f4 a0.f5 a0.f6)) (T := 53) KR 4 4 (.tmp 11) (.const (.bool true)) (.bool true) (ar0 A5113 a0.f0.length c5114 A5116 a0.f1.length c5117 A5119 a0.f2.length c5120 a0.f3.f2 true a0.f5 a0.f6) rfl KR KR KR KR KR KR KR ?_; clear ha HW a; intro a W5122 HW ha
 refine sp2 ha 12 ((ptr p0)) 13 (.pointer (some ⟨p0, 5, none⟩)) ?_; clear ha a; intro a ha
 refine q26 ha HW 0 (b := p0) (C := (ar0 A5113 a0.f0.length c5114 A5116 a0.f1.length c5117 A5119 a0.f2.length c5120 a0.f3.f2 true a0.f5 a0.f6)) (T := 53) KR 3 5 (.tmp 13) (.tmp 9) (.int .i64 (mx a1 0)) (ar0 A5113 a0.f0.length c5114 A5116 a0.f1.length c5117 A5119 a0.f2.length c5120 a0.f3.f2 true (mx a1 0) a0.f6) rfl KR KR KR KR KR KR KR ?_; clear ha HW a; intro a W5123 HW ha
 refine endl ?_
 obtain ⟨U5124, hU5125, HW⟩ := q04.fold (x := (⟨a0.f0, a0.f1, a0.f2, (⟨(), (), a0.f3.f2⟩ : q03), true, mx a1 0, a0.f6⟩ : q04)) (HW)
 replace HW := HW
 replace HW : Wd w W5123 (U5124 ++ (F ++ bs)) (os) := HW
 obtain rfl := Option.some.inj h
 exact finn ha [] [] rfl .nil (.tuple #[]) rfl ⟨U5124, rfl, hU5125, (HW)⟩
end Go.Proofs.YtokdiacjcbolfaaDoor.F
