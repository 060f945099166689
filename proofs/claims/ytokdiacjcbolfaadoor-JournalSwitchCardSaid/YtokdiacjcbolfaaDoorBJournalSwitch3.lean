import Derived.Laws.Externs
import Derived.Laws.IdiomStrings
import Derived.Test.YtokdiacjcbolfaaDoorProg
import Derived.Test.YtokdiacjcbolfaaDoorBJournalSwitch2
set_option linter.unusedVariables false
set_option linter.unusedSimpArgs false
namespace Go.Proofs.YtokdiacjcbolfaaDoor.F
open Go Go.RowKit Go.Proofs.YtokdiacjcbolfaaDoor.X
set_option linter.unusedVariables false
set_option linter.unusedSimpArgs false
def q0j.f (K : Nat) (a0 : q00) (a0_0 : q04) : Option (Int × q00 × q04) :=
 (q1z.f K a0_0).bind fun t838 => ((q0w.f (⟨(), a0.f1, a0.f2, a0.f3, (⟨(), (), a0.f4.f2⟩ : q03), a0.f5, a0.f6, a0.f7, a0.f8, a0.f9⟩ : q00) t838.2 t838.1).bind fun t847 => (if t847.1 = 0 then (some (t847.1, (⟨(), t847.2.1.f1, t847.2.1.f2, t847.2.1.f3, (⟨(), (), t847.2.1.f4.f2⟩ : q03), t847.2.1.f5, t847.2.1.f6, t847.2.1.f7, false, t847.2.1.f9⟩ : q00), t847.2.2)) else (some (t847.1, t847.2.1, t847.2.2))))
set_option maxRecDepth 100000 in
set_option maxHeartbeats 4000000 in
theorem q0j.calls (K : Nat) (a0 : q00) (a0_0 : q04) (p0 : Nat) (U0 : Blks) (p0_0 : Nat) (U0_0 : Blks)  (r : Int × q00 × q04) (w w1 : World) (F bs : Blks) (os : List OwnA) (hU0 : q00.At p0 p0_0 a0 U0) (hU0_0 : q04.At p0_0  a0_0 U0_0) (HW : Wd w w1 (U0 ++ (U0_0 ++ (F ++ bs))) os) (h : q0j.f K a0 a0_0 = some r) :
  Calls Tryd.prog 26 #[.pointer (some ⟨p0, 0, none⟩)] w1 (fun e W' => ∃ U0' : Blks, ∃ U0_0' : Blks, e = .returned (.int .i64 r.1) ∧ q00.At p0 p0_0 r.2.1 U0' ∧ q04.At p0_0  r.2.2 U0_0' ∧ Wd w W' (U0' ++ (U0_0' ++ (F ++ bs))) (os)) := by
 refine q17 (n := 17) (l := [(0, (ptr p0))]) Tryd.func26 rfl rfl (Nat.le_of_ble_eq_true KR) (q07 rfl (q0q _)) ?_
 intro a ha
 replace HW : Wd w w1 (U0 ++ (U0_0 ++ (F ++ bs))) (os) := HW
 unfold q0j.f at h
 refine wp_seq_k (fun K831 hK832 => ?_)
 refine wp_region_lit ?_
 refine sp1 ha 2 (.int .i64 0) ?_; clear ha a; intro a ha
 refine endl (thenN (hK832 _ _ (wp_seq_k fun K833 hK834 => wp_region_lit ?_))); clear hK832
 refine sp4 ha 4 ((ptr p0)) 5 ((ptr p0)) 6 ((ptr p0)) 7 ((ptr p0)) ?_; clear ha a; intro a ha
 obtain ⟨A835, c836, HW⟩ := q00.unfold hU0 (HW)
 replace HW : Wd w w1 ((p0, .cells (ar1 p0_0 a0.f1 a0.f2 a0.f3 a0.f4.f2 a0.f5 A835 a0.f6.length c836 a0.f7 a0.f8 a0.f9) 57 (0, 0)) :: U0_0 ++ (F ++ bs)) ((rw0 A835 a0.f6 c836) :: os) := HW; clear hU0
 refine stepl ha 8 (HW.ca (i := 0) (b := p0) (C := (ar1 p0_0 a0.f1 a0.f2 a0.f3 a0.f4.f2 a0.f5 A835 a0.f6.length c836 a0.f7 a0.f8 a0.f9)) (T := 57) (fr := (0, 0)) KR) 25 0 (.tmp 7) ((ptr p0_0)) rfl KR KR KR ?_; clear ha a; intro a ha
 obtain ⟨t838, ht839, h_⟩ := q08 h; replace h := h_; clear h_
 refine stepc ha 9 KR KR (q1z.calls K a0_0 p0_0 U0_0 t838 _ _ F ([(p0, .cells (ar1 p0_0 a0.f1 a0.f2 a0.f3 a0.f4.f2 a0.f5 A835 a0.f6.length c836 a0.f7 a0.f8 a0.f9) 57 (0, 0))] ++ (bs)) ((rw0 A835 a0.f6 c836) :: os) hU0_0 (Wd.sg [[(p0, .cells (ar1 p0_0 a0.f1 a0.f2 a0.f3 a0.f4.f2 a0.f5 A835 a0.f6.length c836 a0.f7 a0.f8 a0.f9) 57 (0, 0))], U0_0, F] bs [(rw0 A835 a0.f6 c836)] os [U0_0, F, [(p0, .cells (ar1 p0_0 a0.f1 a0.f2 a0.f3 a0.f4.f2 a0.f5 A835 a0.f6.length c836 a0.f7 a0.f8 a0.f9) 57 (0, 0))]] [(rw0 A835 a0.f6 c836)] HW [1, 2, 0] [] [0] KR KR (by decide) KR) ht839) ?_; clear ha a; rintro e W841 ⟨U840, rfl, hU0_0n, HX842⟩
 refine ⟨_, rfl, ?_⟩; intro a ha; clear HW
 clear hU0_0; have hU0_0 := hU0_0n; clear hU0_0n
 have HW : Wd w W841 ((p0, .cells (ar1 p0_0 a0.f1 a0.f2 a0.f3 a0.f4.f2 a0.f5 A835 a0.f6.length c836 a0.f7 a0.f8 a0.f9) 57 (0, 0)) :: U840 ++ (F ++ bs)) ((rw0 A835 a0.f6 c836) :: os) := Wd.sg [U840, F, [(p0, .cells (ar1 p0_0 a0.f1 a0.f2 a0.f3 a0.f4.f2 a0.f5 A835 a0.f6.length c836 a0.f7 a0.f8 a0.f9) 57 (0, 0))]] bs [(rw0 A835 a0.f6 c836)] os [[(p0, .cells (ar1 p0_0 a0.f1 a0.f2 a0.f3 a0.f4.f2 a0.f5 A835 a0.f6.length c836 a0.f7 a0.f8 a0.f9) 57 (0, 0))], U840, F] [(rw0 A835 a0.f6 c836)] HX842 [2, 0, 1] [] [0] KR KR (by decide) KR; clear HX842
 obtain ⟨U845, hU846, HW⟩ := q00.fold (x := (⟨(), a0.f1, a0.f2, a0.f3, (⟨(), (), a0.f4.f2⟩ : q03), a0.f5, a0.f6, a0.f7, a0.f8, a0.f9⟩ : q00)) (HW)
 replace HW := HW
 replace HW : Wd w W841 (U845 ++ (U840 ++ (F ++ bs))) (os) := HW
 obtain ⟨t847, ht848, h_⟩ := q08 h; replace h := h_; clear h_
 refine stepc ha 10 KR KR (q0w.calls (⟨(), a0.f1, a0.f2, a0.f3, (⟨(), (), a0.f4.f2⟩ : q03), a0.f5, a0.f6, a0.f7, a0.f8, a0.f9⟩ : q00) t838.2 t838.1 p0 U845 p0_0 U840 t847 _ _ F bs (os) hU846 hU0_0 (HW) ht848) ?_; clear ha a; rintro e W851 ⟨U849, U850, rfl, hU846n, hU0_0n, HX852⟩
 refine ⟨_, rfl, ?_⟩; intro a ha; clear HW
 clear hU846; have hU846 := hU846n; clear hU846n
 clear hU0_0; have hU0_0 := hU0_0n; clear hU0_0n
 have HW : Wd w W851 (U849 ++ (U850 ++ (F ++ bs))) (os) := HX852; clear HX852
 refine sp1 ha 3 (.int .i64 t847.1) ?_; clear ha a; intro a ha
 refine endl (thenN (hK834 _ _ (wp_seq_k fun K855 hK856 => wp_seq_k fun K857 hK858 => wp_region_lit ?_))); clear hK834
 refine sp2 ha 11 (.int .i64 t847.1) 12 (.bool (t847.1 == 0)) ?_; clear ha a; intro a ha
 refine endl (thenN (hK858 _ _ ?_)); clear hK858
 by_cases hp859 : t847.1 = 0
 ·
  replace h := q0b h hp859
  refine condT ha KR KR (t := (t847.1 == 0)) (ieq_t hp859) ?_
  refine wp_region_lit ?_
  refine sp3 ha 13 ((ptr p0)) 14 ((ptr p0)) 15 (.pointer (some ⟨p0, 8, none⟩)) ?_; clear ha a; intro a ha
  obtain ⟨A860, c861, HW⟩ := q00.unfold hU846 (HW)
  replace HW : Wd w W851 ((p0, .cells (ar1 p0_0 t847.2.1.f1 t847.2.1.f2 t847.2.1.f3 t847.2.1.f4.f2 t847.2.1.f5 A860 t847.2.1.f6.length c861 t847.2.1.f7 t847.2.1.f8 t847.2.1.f9) 57 (0, 0)) :: U850 ++ (F ++ bs)) ((rw0 A860 t847.2.1.f6 c861) :: os) := HW; clear hU846
  refine q26 ha HW 0 (b := p0) (C := (ar1 p0_0 t847.2.1.f1 t847.2.1.f2 t847.2.1.f3 t847.2.1.f4.f2 t847.2.1.f5 A860 t847.2.1.f6.length c861 t847.2.1.f7 t847.2.1.f8 t847.2.1.f9)) (T := 57) KR 4 8 (.tmp 15) (.const (.bool false)) (.bool false) (ar1 p0_0 t847.2.1.f1 t847.2.1.f2 t847.2.1.f3 t847.2.1.f4.f2 t847.2.1.f5 A860 t847.2.1.f6.length c861 t847.2.1.f7 false t847.2.1.f9) rfl KR KR KR KR KR KR KR ?_; clear ha HW a; intro a W863 HW ha
  refine endl (thenN (hK856 _ _ (wp_seq_k fun K864 hK865 => wp_region_lit ?_))); clear hK856
  refine sp2 ha 16 (.int .i64 t847.1) 2 (.int .i64 t847.1) ?_; clear ha a; intro a ha
  refine endl (thenN (hK865 _ _ ?_)); clear hK865
  refine wp_ret ?_
  obtain ⟨U866, hU867, HW⟩ := q00.fold (x := (⟨(), t847.2.1.f1, t847.2.1.f2, t847.2.1.f3, (⟨(), (), t847.2.1.f4.f2⟩ : q03), t847.2.1.f5, t847.2.1.f6, t847.2.1.f7, false, t847.2.1.f9⟩ : q00)) (HW)
  replace HW := HW
  replace HW : Wd w W863 (U866 ++ (U850 ++ (F ++ bs))) (os) := HW
  obtain rfl := Option.some.inj h
  exact finv ha _ _ rfl (.tmp (v := .int .i64 t847.1) KR .nil) (.int .i64 t847.1) rfl ⟨U866, U850, rfl, hU867, hU0_0, (HW)⟩
 ·
  replace h := q0c h hp859
  refine condF ha KR KR (t := (t847.1 == 0)) (ieq_f hp859) ?_
  refine wp_skip ?_
  refine thenN (hK856 _ _ (wp_seq_k fun K868 hK869 => wp_region_lit ?_)); clear hK856
  refine sp2 ha 16 (.int .i64 t847.1) 2 (.int .i64 t847.1) ?_; clear ha a; intro a ha
  refine endl (thenN (hK869 _ _ ?_)); clear hK869
  refine wp_ret ?_
  obtain rfl := Option.some.inj h
  exact finv ha _ _ rfl (.tmp (v := .int .i64 t847.1) KR .nil) (.int .i64 t847.1) rfl ⟨U849, U850, rfl, hU846, hU0_0, (HW)⟩
def q0v.f (a0 : q00) (a1 : Int) (a2 : Int) : Option Int :=
 some (IntKind.wrap .i64 ((IntKind.wrap .i64 ((IntKind.wrap .i64 (a0.f1 + 4)) + (IntKind.wrap .i64 (a1 * a0.f2)))) + a2))
set_option maxRecDepth 100000 in
set_option maxHeartbeats 4000000 in
theorem q0v.calls (a0 : q00) (a1 : Int) (a2 : Int) (A0_0 : Option Addr) (c0_0 : Nat) (cb0 : Nat) (cb1 : Nat) (r : Int) (w : World) (hc0 : CA w cb0 0 #[.pointer (some ⟨cb1, 0, none⟩), .int .i64 a0.f1, .int .i64 a0.f2, .int .i64 a0.f3, .int .i64 a0.f4.f2, .string a0.f5, .slice A0_0 a0.f6.length c0_0, .int .i64 a0.f7, .bool a0.f8, .bool a0.f9]) (hr0_0 : Rd 1 w (.slice A0_0 a0.f6.length c0_0) a0.f6.length (encs encS a0.f6)) (h : q0v.f a0 a1 a2 = some r) :
  Calls Tryd.prog 33 #[.pointer (some ⟨cb0, 0, none⟩), .int .i64 a1, .int .i64 a2] w (fun e W' => e = .returned (.int .i64 r) ∧ Wd w W' [] [] ) := by
 refine q17 (n := 21) (l := [(0, (ptr cb0)), (1, .int .i64 a1), (2, .int .i64 a2)]) Tryd.func33 rfl rfl (Nat.le_of_ble_eq_true KR) (q07 rfl (q07 rfl (q07 rfl (q0q _)))) ?_
 intro a ha
 have HW := Wd.refl w
 unfold q0v.f at h
 refine wp_seq_k (fun K875 hK876 => ?_)
 refine wp_region_lit ?_
 refine sp1 ha 6 (.int .i64 0) ?_; clear ha a; intro a ha
 refine endl (thenN (hK876 _ _ (wp_seq_k fun K877 hK878 => ?_))); clear hK876
 refine q2z 14 KR KR ha HW [.fix ((ptr cb0)), .fix ((ptr cb0)), .fix (.pointer (some ⟨cb0, 1, none⟩)), .fix (.int .i64 a0.f1), .fix (.int .i64 (IntKind.wrap .i64 (a0.f1 + 4))), .fix (.int .i64 a1), .fix ((ptr cb0)), .fix ((ptr cb0)), .fix (.pointer (some ⟨cb0, 2, none⟩)), .fix (.int .i64 a0.f2), .fix (.int .i64 (IntKind.wrap .i64 (a1 * a0.f2))), .fix (.int .i64 (IntKind.wrap .i64 ((IntKind.wrap .i64 (a0.f1 + 4)) + (IntKind.wrap .i64 (a1 * a0.f2))))), .fix (.int .i64 a2), .fix (.int .i64 (IntKind.wrap .i64 ((IntKind.wrap .i64 ((IntKind.wrap .i64 (a0.f1 + 4)) + (IntKind.wrap .i64 (a1 * a0.f2)))) + a2)))] ?_ ?_
 ·
  refine ⟨?_, ?_, ?_, ?_, ?_, ?_, ?_, ?_, ?_, ?_, ?_, ?_, ?_, ?_, trivial⟩
  ·
   intro a wr hn hd HW hs; have ha := q0a hn hd
   have ha := ha.add (seeE hs 0 ((ptr cb0)) KR KR)
   refine yStep ha 7 KR ?_; intro l_ ha HK
   refine stepp ha 7 ((ptr cb0)) KR KR ?_; intro ax hax; exact HK _ _ _ hax rfl (Below.refl _ _)
  ·
   intro a wr hn hd HW hs; have ha := q0a hn hd
   have ha := ha.add (seeF hs 7 0 ((ptr cb0)) KR KR)
   refine yStep ha 8 KR ?_; intro l_ ha HK
   refine stepp ha 8 ((ptr cb0)) KR KR ?_; intro ax hax; exact HK _ _ _ hax rfl (Below.refl _ _)
  ·
   intro a wr hn hd HW hs; have ha := q0a hn hd
   have ha := ha.add (seeF hs 8 1 ((ptr cb0)) KR KR)
   refine yStep ha 9 KR ?_; intro l_ ha HK
   refine stepp ha 9 (.pointer (some ⟨cb0, 1, none⟩)) KR KR ?_; intro ax hax; exact HK _ _ _ hax rfl (Below.refl _ _)
  ·
   intro a wr hn hd HW hs; have ha := q0a hn hd
   have ha := ha.add (seeF hs 9 2 (.pointer (some ⟨cb0, 1, none⟩)) KR KR)
   refine yStep ha 10 KR ?_; intro l_ ha HK
   refine stepl ha 10 (HW.ca0 hc0) 3 1 (.tmp 9) (.int .i64 a0.f1) rfl KR KR KR ?_; intro ax hax; exact HK _ _ _ hax rfl (Below.refl _ _)
  ·
   intro a wr hn hd HW hs; have ha := q0a hn hd
   have ha := ha.add (seeF hs 10 3 (.int .i64 a0.f1) KR KR)
   refine yStep ha 11 KR ?_; intro l_ ha HK
   refine stepp ha 11 (.int .i64 (IntKind.wrap .i64 (a0.f1 + 4))) KR KR ?_; intro ax hax; exact HK _ _ _ hax rfl (Below.refl _ _)
  ·
   intro a wr hn hd HW hs; have ha := q0a hn hd
   have ha := ha.add (seeE hs 1 (.int .i64 a1) KR KR)
   refine yStep ha 12 KR ?_; intro l_ ha HK
   refine stepp ha 12 (.int .i64 a1) KR KR ?_; intro ax hax; exact HK _ _ _ hax rfl (Below.refl _ _)
  ·
   intro a wr hn hd HW hs; have ha := q0a hn hd
   have ha := ha.add (seeE hs 0 ((ptr cb0)) KR KR)
   refine yStep ha 13 KR ?_; intro l_ ha HK
   refine stepp ha 13 ((ptr cb0)) KR KR ?_; intro ax hax; exact HK _ _ _ hax rfl (Below.refl _ _)
  ·
   intro a wr hn hd HW hs; have ha := q0a hn hd
   have ha := ha.add (seeF hs 13 6 ((ptr cb0)) KR KR)
   refine yStep ha 14 KR ?_; intro l_ ha HK
   refine stepp ha 14 ((ptr cb0)) KR KR ?_; intro ax hax; exact HK _ _ _ hax rfl (Below.refl _ _)
  ·
   intro a wr hn hd HW hs; have ha := q0a hn hd
   have ha := ha.add (seeF hs 14 7 ((ptr cb0)) KR KR)
   refine yStep ha 15 KR ?_; intro l_ ha HK
   refine stepp ha 15 (.pointer (some ⟨cb0, 2, none⟩)) KR KR ?_; intro ax hax; exact HK _ _ _ hax rfl (Below.refl _ _)
  ·
   intro a wr hn hd HW hs; have ha := q0a hn hd
   have ha := ha.add (seeF hs 15 8 (.pointer (some ⟨cb0, 2, none⟩)) KR KR)
   refine yStep ha 16 KR ?_; intro l_ ha HK
   refine stepl ha 16 (HW.ca0 hc0) 3 2 (.tmp 15) (.int .i64 a0.f2) rfl KR KR KR ?_; intro ax hax; exact HK _ _ _ hax rfl (Below.refl _ _)
  ·
   intro a wr hn hd HW hs; have ha := q0a hn hd
   have ha := ha.add (seeF hs 12 5 (.int .i64 a1) KR KR)
   have ha := ha.add (seeF hs 16 9 (.int .i64 a0.f2) KR KR)
   refine yStep ha 17 KR ?_; intro l_ ha HK
   refine stepp ha 17 (.int .i64 (IntKind.wrap .i64 (a1 * a0.f2))) KR KR ?_; intro ax hax; exact HK _ _ _ hax rfl (Below.refl _ _)
  ·
   intro a wr hn hd HW hs; have ha := q0a hn hd
   have ha := ha.add (seeF hs 11 4 (.int .i64 (IntKind.wrap .i64 (a0.f1 + 4))) KR KR)
   have ha := ha.add (seeF hs 17 10 (.int .i64 (IntKind.wrap .i64 (a1 * a0.f2))) KR KR)
   refine yStep ha 18 KR ?_; intro l_ ha HK
   refine stepp ha 18 (.int .i64 (IntKind.wrap .i64 ((IntKind.wrap .i64 (a0.f1 + 4)) + (IntKind.wrap .i64 (a1 * a0.f2))))) KR KR ?_; intro ax hax; exact HK _ _ _ hax rfl (Below.refl _ _)
  ·
   intro a wr hn hd HW hs; have ha := q0a hn hd
   have ha := ha.add (seeE hs 2 (.int .i64 a2) KR KR)
   refine yStep ha 19 KR ?_; intro l_ ha HK
   refine stepp ha 19 (.int .i64 a2) KR KR ?_; intro ax hax; exact HK _ _ _ hax rfl (Below.refl _ _)
  ·
   intro a wr hn hd HW hs; have ha := q0a hn hd
   have ha := ha.add (seeF hs 18 11 (.int .i64 (IntKind.wrap .i64 ((IntKind.wrap .i64 (a0.f1 + 4)) + (IntKind.wrap .i64 (a1 * a0.f2))))) KR KR)
   have ha := ha.add (seeF hs 19 12 (.int .i64 a2) KR KR)
   refine yStep ha 20 KR ?_; intro l_ ha HK
   refine stepp ha 20 (.int .i64 (IntKind.wrap .i64 ((IntKind.wrap .i64 ((IntKind.wrap .i64 (a0.f1 + 4)) + (IntKind.wrap .i64 (a1 * a0.f2)))) + a2))) KR KR ?_; intro ax hax; exact HK _ _ _ hax rfl (Below.refl _ _)
 ·
  intro a W879 ha HW he hf
  replace ha := ha.add (gotF (m := 14) (j := 13) (d := 20) (v := .int .i64 (IntKind.wrap .i64 ((IntKind.wrap .i64 ((IntKind.wrap .i64 (a0.f1 + 4)) + (IntKind.wrap .i64 (a1 * a0.f2)))) + a2))) hf KR KR KR)
  clear he hf
  refine sp1 ha 6 (.int .i64 (IntKind.wrap .i64 ((IntKind.wrap .i64 ((IntKind.wrap .i64 (a0.f1 + 4)) + (IntKind.wrap .i64 (a1 * a0.f2)))) + a2))) ?_; clear ha a; intro a ha
  refine endl (thenN (hK878 _ _ ?_)); clear hK878
  refine wp_ret ?_
  obtain rfl := Option.some.inj h
  exact finv ha _ _ rfl (.tmp (v := .int .i64 (IntKind.wrap .i64 ((IntKind.wrap .i64 ((IntKind.wrap .i64 (a0.f1 + 4)) + (IntKind.wrap .i64 (a1 * a0.f2)))) + a2))) KR .nil) (.int .i64 (IntKind.wrap .i64 ((IntKind.wrap .i64 ((IntKind.wrap .i64 (a0.f1 + 4)) + (IntKind.wrap .i64 (a1 * a0.f2)))) + a2))) rfl ⟨rfl, HW.pick [] [] (by decide) (by decide) rfl KR⟩
def q0k.b0 (K : Nat) (a0 : Int) (a1 : Bool) (again961 : (List Int) → Int → Option (List Int)) (x962 : List Int) (x966 : Int) : Option (List Int) :=
 if x966 < a0 then (if a1 = true then (asrt (x962.length + ([IntKind.wrap .i64 (8 * (IntKind.wrap .i64 ((IntKind.wrap .i64 (a0 - 1)) - x966)))] : List Int).length ≤ 17592186044416) (again961 (x962 ++ ([IntKind.wrap .i64 (8 * (IntKind.wrap .i64 ((IntKind.wrap .i64 (a0 - 1)) - x966)))] : List Int)) (IntKind.wrap .i64 (x966 + 1)))) else (asrt (x962.length + ([IntKind.wrap .i64 (8 * x966)] : List Int).length ≤ 17592186044416) (again961 (x962 ++ ([IntKind.wrap .i64 (8 * x966)] : List Int)) (IntKind.wrap .i64 (x966 + 1))))) else (some x962)
def q0k.l0 (K : Nat) (a0 : Int) (a1 : Bool) : Nat → (List Int) → Int → Option (List Int)
 | 0, _, _ => none
 | k_ + 1, x962, x966 => q0k.b0 K a0 a1 (q0k.l0 K a0 a1 k_) x962 x966
def q0k.f (K : Nat) (a0 : Int) (a1 : Bool) : Option (List Int) :=
 q0k.l0 K a0 a1 K ([] : List Int) 0
set_option maxRecDepth 100000 in
set_option maxHeartbeats 4000000 in
theorem q0k.calls (K : Nat) (a0 : Int) (a1 : Bool)  (r : List Int) (w : World)  (h : q0k.f K a0 a1 = some r) :
  Calls Tryd.prog 72 #[.int .i64 a0, .bool a1] w (fun e W' => ∃ A_0 c_0, e = .returned (.slice A_0 r.length c_0) ∧ Wd w W' [] [⟨3, 1, .slice A_0 r.length c_0, r.length, encs (encIK .i64) r⟩] ) := by
 refine q17 (n := 27) (l := [(0, .int .i64 a0), (1, .bool a1)]) Tryd.func72 rfl rfl (Nat.le_of_ble_eq_true KR) (q07 rfl (q07 rfl (q0q _))) ?_
 intro a ha
 have HW := Wd.refl w
 unfold q0k.f at h
 refine wp_seq_k (fun K884 hK885 => ?_)
 refine wp_region_lit ?_
 refine sp1 ha 4 (.slice none 0 0) ?_; clear ha a; intro a ha
 refine endl (thenN (hK885 _ _ (wp_seq_k fun K886 hK887 => wp_region_lit ?_))); clear hK885
 refine sp1 ha 5 (.slice none 0 0) ?_; clear ha a; intro a ha
 refine endl (thenN (hK887 _ _ (wp_seq_k fun K888 hK889 => wp_seq_k fun K890 hK891 => wp_region_lit ?_))); clear hK887
 refine sp2 ha 7 (.int .i64 a0) 8 (.int .i64 0) ?_; clear ha a; intro a ha
 refine endl (thenN (hK891 _ _ ?_)); clear hK891
 refine wp_block ?_
 refine loopk (fun k => fun a W967 => ∃ (x962 : List Int), ∃ A963, ∃ c964, ∃ (x966 : Int), q0k.l0 K a0 a1 k x962 x966 = some r ∧ Has 27 [(0, .int .i64 a0), (1, .bool a1), (5, .slice A963 x962.length c964), (7, .int .i64 a0), (8, .int .i64 x966)] a ∧ Wd w W967 [] [(rw2 A963 x962 c964)]) K ?_ ?_
 ·
  replace HW := HW.nilo 3 1
  exact ⟨([] : List Int), none, 0, 0, h, ha.sub (q05 KR (q05 KR (q05 KR (q05 KR (q05 KR (q0t _)))))), HW.pick [] [0] (by decide) (by decide) KR KR⟩
 ·
  intro k a W967 hI
  obtain ⟨x962, A963, c964, x966, h, ha, HW⟩ := hI
  cases k with
  | zero => exact (q1n (show none = some r from h)).elim
  | succ k968 =>
   replace h : q0k.b0 K a0 a1 (q0k.l0 K a0 a1 k968) x962 x966 = some r := h
   obtain ⟨again961, hag969⟩ : ∃ g_, g_ = q0k.l0 K a0 a1 k968 := ⟨_, rfl⟩
   rw [← hag969] at h
   unfold q0k.b0 at h
   refine wp_seq_k (fun K970 hK971 => ?_)
   refine wp_region_lit ?_
   refine sp1 ha 9 (.bool (decide (x966 < a0))) ?_; clear ha a; intro a ha
   refine endl (thenN (hK971 _ _ (wp_seq_k fun K972 hK973 => ?_))); clear hK971
   by_cases hp974 : x966 < a0
   ·
    replace h := q0b h hp974
    refine condT ha KR KR (t := decide (x966 < a0)) (decide_eq_true hp974) ?_
    refine wp_skip ?_
    refine thenN (hK973 _ _ (wp_seq_k fun K975 hK976 => ?_)); clear hK973
    refine wp_block ?_
    refine wp_seq_k (fun K977 hK978 => ?_)
    refine wp_region_lit ?_
    refine sp2 ha 10 (.int .i64 x966) 6 (.int .i64 x966) ?_; clear ha a; intro a ha
    refine endl (thenN (hK978 _ _ (wp_seq_k fun K979 hK980 => wp_region_lit ?_))); clear hK978
    refine sp1 ha 11 (.bool a1) ?_; clear ha a; intro a ha
    refine endl (thenN (hK980 _ _ ?_)); clear hK980
    by_cases hp981 : a1 = true
    ·
     replace h := q0b h hp981
     refine condT ha KR KR (t := a1) (hp981) ?_
     refine wp_region_lit ?_
     refine sp6 ha 12 (.slice A963 x962.length c964) 13 (.int .i64 a0) 14 (.int .i64 (IntKind.wrap .i64 (a0 - 1))) 15 (.int .i64 x966) 16 (.int .i64 (IntKind.wrap .i64 ((IntKind.wrap .i64 (a0 - 1)) - x966))) 17 (.int .i64 (IntKind.wrap .i64 (8 * (IntKind.wrap .i64 ((IntKind.wrap .i64 (a0 - 1)) - x966))))) ?_; clear ha a; intro a ha
     refine stepbs ha HW 18 3 1 1 #[.int .i64 (IntKind.wrap .i64 (8 * (IntKind.wrap .i64 ((IntKind.wrap .i64 (a0 - 1)) - x966))))] [.int .i64 (IntKind.wrap .i64 (8 * (IntKind.wrap .i64 ((IntKind.wrap .i64 (a0 - 1)) - x966))))] (by decide) KR KR KR KR ?_; clear ha HW a; intro b982 a W983 HW ha
     replace HW : Wd w W983 [] [⟨3, 1, .slice (some ⟨b982, 0, none⟩) ([IntKind.wrap .i64 (8 * (IntKind.wrap .i64 ((IntKind.wrap .i64 (a0 - 1)) - x966)))] : List Int).length 1, ([IntKind.wrap .i64 (8 * (IntKind.wrap .i64 ((IntKind.wrap .i64 (a0 - 1)) - x966)))] : List Int).length, encs (encIK .i64) ([IntKind.wrap .i64 (8 * (IntKind.wrap .i64 ((IntKind.wrap .i64 (a0 - 1)) - x966)))] : List Int)⟩, (rw2 A963 x962 c964)] := HW
     replace ha := ha.turn 18 (v := .slice (some ⟨b982, 0, none⟩) ([IntKind.wrap .i64 (8 * (IntKind.wrap .i64 ((IntKind.wrap .i64 (a0 - 1)) - x966)))] : List Int).length 1) KR rfl
     obtain ⟨hA985, h_⟩ := q0d h; replace h := h_; clear h_
     refine stepape (encIK .i64) ha HW 19 1 23 3 (.tmp 12) (.tmp 18) (.int .i64 0) 1 8 (.slice A963 x962.length c964) x962 (.slice (some ⟨b982, 0, none⟩) ([IntKind.wrap .i64 (8 * (IntKind.wrap .i64 ((IntKind.wrap .i64 (a0 - 1)) - x966)))] : List Int).length 1) ([IntKind.wrap .i64 (8 * (IntKind.wrap .i64 ((IntKind.wrap .i64 (a0 - 1)) - x966)))] : List Int) KR rfl KR KR (HW.rdo (i := 0) (q := ⟨3, 1, .slice (some ⟨b982, 0, none⟩) ([IntKind.wrap .i64 (8 * (IntKind.wrap .i64 ((IntKind.wrap .i64 (a0 - 1)) - x966)))] : List Int).length 1, ([IntKind.wrap .i64 (8 * (IntKind.wrap .i64 ((IntKind.wrap .i64 (a0 - 1)) - x966)))] : List Int).length, encs (encIK .i64) ([IntKind.wrap .i64 (8 * (IntKind.wrap .i64 ((IntKind.wrap .i64 (a0 - 1)) - x966)))] : List Int)⟩) KR) (fun _ => rfl) KR KR KR (by decide) (by have := hA985; unfold maxLen; omega) (by have := hA985; omega) KR ?_; clear ha HW a; intro A986 c987 a W988 HW ha
     refine sp1 ha 5 (.slice A986 (x962 ++ ([IntKind.wrap .i64 (8 * (IntKind.wrap .i64 ((IntKind.wrap .i64 (a0 - 1)) - x966)))] : List Int)).length c987) ?_; clear ha a; intro a ha
     refine endl ?_
     refine blkN ?_
     refine thenN (hK976 _ _ (wp_region_lit ?_)); clear hK976
     refine sp2 ha 25 (.int .i64 (IntKind.wrap .i64 (x966 + 1))) 8 (.int .i64 (IntKind.wrap .i64 (x966 + 1))) ?_; clear ha a; intro a ha
     refine endl ?_
     exact thenN ⟨k968, Nat.lt_succ_self k968, x962 ++ ([IntKind.wrap .i64 (8 * (IntKind.wrap .i64 ((IntKind.wrap .i64 (a0 - 1)) - x966)))] : List Int), A986, c987, IntKind.wrap .i64 (x966 + 1), (by rw [← hag969]; exact h), ha.sub (q05 KR (q05 KR (q05 KR (q05 KR (q05 KR (q0t _)))))), HW.pick [] [1] (by decide) (by decide) KR KR⟩
    ·
     replace h := q0c h hp981
     refine condF ha KR KR (t := a1) (q2w hp981) ?_
     refine wp_region_lit ?_
     refine sp3 ha 20 (.slice A963 x962.length c964) 21 (.int .i64 x966) 22 (.int .i64 (IntKind.wrap .i64 (8 * x966))) ?_; clear ha a; intro a ha
     refine stepbs ha HW 23 3 1 1 #[.int .i64 (IntKind.wrap .i64 (8 * x966))] [.int .i64 (IntKind.wrap .i64 (8 * x966))] (by decide) KR KR KR KR ?_; clear ha HW a; intro b991 a W992 HW ha
     replace HW : Wd w W992 [] [(rw2 (some ⟨b991, 0, none⟩) ([IntKind.wrap .i64 (8 * x966)] : List Int) 1), (rw2 A963 x962 c964)] := HW
     replace ha := ha.turn 23 (v := .slice (some ⟨b991, 0, none⟩) ([IntKind.wrap .i64 (8 * x966)] : List Int).length 1) KR rfl
     obtain ⟨hA994, h_⟩ := q0d h; replace h := h_; clear h_
     refine stepape (encIK .i64) ha HW 24 1 23 3 (.tmp 20) (.tmp 23) (.int .i64 0) 1 8 (.slice A963 x962.length c964) x962 (.slice (some ⟨b991, 0, none⟩) ([IntKind.wrap .i64 (8 * x966)] : List Int).length 1) ([IntKind.wrap .i64 (8 * x966)] : List Int) KR rfl KR KR (HW.rdo (i := 0) (q := (rw2 (some ⟨b991, 0, none⟩) ([IntKind.wrap .i64 (8 * x966)] : List Int) 1)) KR) (fun _ => rfl) KR KR KR (by decide) (by have := hA994; unfold maxLen; omega) (by have := hA994; omega) KR ?_; clear ha HW a; intro A995 c996 a W997 HW ha
     refine sp1 ha 5 (.slice A995 (x962 ++ ([IntKind.wrap .i64 (8 * x966)] : List Int)).length c996) ?_; clear ha a; intro a ha
     refine endl ?_
     refine blkN ?_
     refine thenN (hK976 _ _ (wp_region_lit ?_)); clear hK976
     refine sp2 ha 25 (.int .i64 (IntKind.wrap .i64 (x966 + 1))) 8 (.int .i64 (IntKind.wrap .i64 (x966 + 1))) ?_; clear ha a; intro a ha
     refine endl ?_
     exact thenN ⟨k968, Nat.lt_succ_self k968, x962 ++ ([IntKind.wrap .i64 (8 * x966)] : List Int), A995, c996, IntKind.wrap .i64 (x966 + 1), (by rw [← hag969]; exact h), ha.sub (q05 KR (q05 KR (q05 KR (q05 KR (q05 KR (q0t _)))))), HW.pick [] [1] (by decide) (by decide) KR KR⟩
   ·
    replace h := q0c h hp974
    refine condF ha KR KR (t := decide (x966 < a0)) (decide_eq_false hp974) ?_
    refine wp_exit ?_
    refine thenE ?_
    refine thenE ?_
    refine inBlk ?_
    refine thenN (hK889 _ _ (wp_seq_k fun K1000 hK1001 => wp_region_lit ?_)); clear hK889
    refine sp2 ha 26 (.slice A963 x962.length c964) 4 (.slice A963 x962.length c964) ?_; clear ha a; intro a ha
    refine endl (thenN (hK1001 _ _ ?_)); clear hK1001
    refine wp_ret ?_
    obtain rfl := Option.some.inj h
    exact finv ha _ _ rfl (.tmp (v := .slice A963 x962.length c964) KR .nil) (.slice A963 x962.length c964) rfl ⟨A963, c964, rfl, HW.pick [] [0] (by decide) (by decide) rfl KR⟩
def q0g.b0 (K : Nat) (a0 : Int) (t1020 : List Int) (again1081 : (List Int) → Int → Option ByteArray) (x1082 : List Int) (x1086 : Int) : Option ByteArray :=
 if x1086 < (t1020.length : Int) then (asrt (0 ≤ x1086) (asrt (0 ≤ (rdL (0 : Int) t1020 x1086)) (asrt (x1082.length + ([IntKind.wrap .u8 (sshr .u64 a0 (rdL (0 : Int) t1020 x1086))] : List Int).length ≤ 140737488355328) (again1081 (x1082 ++ ([IntKind.wrap .u8 (sshr .u64 a0 (rdL (0 : Int) t1020 x1086))] : List Int)) (IntKind.wrap .i64 (x1086 + 1)))))) else (some (strOfNums x1082))
def q0g.l0 (K : Nat) (a0 : Int) (t1020 : List Int) : Nat → (List Int) → Int → Option ByteArray
 | 0, _, _ => none
 | k_ + 1, x1082, x1086 => q0g.b0 K a0 t1020 (q0g.l0 K a0 t1020 k_) x1082 x1086
def q0g.f (K : Nat) (a0 : Int) (a1 : Int) (a2 : Bool) : Option ByteArray :=
 if a1 < 1 then (some (⟨#[]⟩ : ByteArray)) else (if a1 > 8 then (some (⟨#[]⟩ : ByteArray)) else ((q0k.f K a1 a2).bind fun t1020 => (q0g.l0 K a0 t1020 K ([] : List Int) 0)))
set_option maxRecDepth 100000 in
set_option maxHeartbeats 4000000 in
theorem q0g.calls (K : Nat) (a0 : Int) (a1 : Int) (a2 : Bool)  (r : ByteArray) (w : World)  (h : q0g.f K a0 a1 a2 = some r) :
  Calls Tryd.prog 62 #[.int .u64 a0, .int .i64 a1, .bool a2] w (fun e W' => e = .returned (.string r) ∧ Wd w W' [] [] ) := by
 refine q17 (n := 34) (l := [(0, .int .u64 a0), (1, .int .i64 a1), (2, .bool a2)]) Tryd.func62 rfl rfl (Nat.le_of_ble_eq_true KR) (q07 rfl (q07 rfl (q07 rfl (q0q _)))) ?_
 intro a ha
 have HW := Wd.refl w
 unfold q0g.f at h
 refine wp_seq_k (fun K1002 hK1003 => ?_)
 refine wp_region_lit ?_
 refine sp1 ha 6 (.string (⟨#[]⟩ : ByteArray)) ?_; clear ha a; intro a ha
 refine endl (thenN (hK1003 _ _ (wp_seq_k fun K1004 hK1005 => wp_seq_k fun K1006 hK1007 => wp_region_lit ?_))); clear hK1003
 refine sp3 ha 10 (.int .i64 a1) 11 (.bool (decide (a1 < 1))) 12 (.bool (decide (a1 < 1))) ?_; clear ha a; intro a ha
 by_cases hp1008 : a1 < 1
 ·
  replace h := q0b h hp1008
  replace ha := ha.bool 12 KR (decide_eq_true hp1008)
  refine stepo ha 13 KR ?_; clear ha a; intro a ha
  refine stepo ha 14 KR ?_; clear ha a; intro a ha
  refine sp1 ha 15 (.bool true) ?_; clear ha a; intro a ha
  refine endl (thenN (hK1007 _ _ ?_)); clear hK1007
  refine condT ha KR KR (t := true) (rfl) ?_
  refine wp_seq_k (fun K1009 hK1010 => ?_)
  refine wp_region_lit ?_
  refine sp1 ha 6 (.string (⟨#[]⟩ : ByteArray)) ?_; clear ha a; intro a ha
  refine endl (thenN (hK1010 _ _ ?_)); clear hK1010
  refine wp_ret ?_
  refine thenR ?_
  obtain rfl := Option.some.inj h
  exact finv ha _ _ rfl (.tmp (v := .string (⟨#[]⟩ : ByteArray)) KR .nil) (.string (⟨#[]⟩ : ByteArray)) rfl ⟨rfl, HW.pick [] [] (by decide) (by decide) rfl KR⟩
 ·
  replace h := q0c h hp1008
  replace ha := ha.bool 12 KR (decide_eq_false hp1008)
  refine sp3 ha 13 (.int .i64 a1) 14 (.bool (decide (a1 > 8))) 15 (.bool (decide (a1 > 8))) ?_; clear ha a; intro a ha
  refine endl (thenN (hK1007 _ _ ?_)); clear hK1007
  by_cases hp1011 : a1 > 8
  ·
   replace h := q0b h hp1011
   refine condT ha KR KR (t := decide (a1 > 8)) (decide_eq_true hp1011) ?_
   refine wp_seq_k (fun K1012 hK1013 => ?_)
   refine wp_region_lit ?_
   refine sp1 ha 6 (.string (⟨#[]⟩ : ByteArray)) ?_; clear ha a; intro a ha
   refine endl (thenN (hK1013 _ _ ?_)); clear hK1013
   refine wp_ret ?_
   refine thenR ?_
   obtain rfl := Option.some.inj h
   exact finv ha _ _ rfl (.tmp (v := .string (⟨#[]⟩ : ByteArray)) KR .nil) (.string (⟨#[]⟩ : ByteArray)) rfl ⟨rfl, HW.pick [] [] (by decide) (by decide) rfl KR⟩
  ·
   replace h := q0c h hp1011
   refine condF ha KR KR (t := decide (a1 > 8)) (decide_eq_false hp1011) ?_
   refine wp_skip ?_
   refine thenN (hK1005 _ _ (wp_seq_k fun K1014 hK1015 => wp_region_lit ?_)); clear hK1005
   refine sp1 ha 7 (.slice none 0 0) ?_; clear ha a; intro a ha
   refine endl (thenN (hK1015 _ _ (wp_seq_k fun K1016 hK1017 => wp_seq_k fun K1018 hK1019 => wp_region_lit ?_))); clear hK1015
   refine sp2 ha 16 (.int .i64 a1) 17 (.bool a2) ?_; clear ha a; intro a ha
   obtain ⟨t1020, ht1021, h_⟩ := q08 h; replace h := h_; clear h_
   refine stepc ha 18 KR KR (q0k.calls K a1 a2 t1020 _ ht1021) ?_; clear ha a; rintro e W1025 ⟨A1022, c1023, rfl, HX1026⟩
   refine ⟨_, rfl, ?_⟩; intro a ha; replace HW := HW.callw HX1026; clear HX1026
   refine sp2 ha 19 (.int .i64 (t1020.length : Int)) 20 (.int .i64 0) ?_; clear ha a; intro a ha
   refine endl (thenN (hK1019 _ _ ?_)); clear hK1019
   refine wp_block ?_
   refine loopk (fun k => fun a W1087 => ∃ (x1082 : List Int), ∃ A1083, ∃ c1084, ∃ (x1086 : Int), q0g.l0 K a0 t1020 k x1082 x1086 = some r ∧ Has 34 [(0, .int .u64 a0), (7, .slice A1083 x1082.length c1084), (18, .slice A1022 t1020.length c1023), (19, .int .i64 (t1020.length : Int)), (20, .int .i64 x1086)] a ∧ Wd w W1087 [] [(rw3 A1083 x1082 c1084), (rw2 A1022 t1020 c1023)]) K ?_ ?_
   ·
    replace HW := HW.nilo 5 1
    exact ⟨([] : List Int), none, 0, 0, h, ha.sub (q05 KR (q05 KR (q05 KR (q05 KR (q05 KR (q0t _)))))), HW.pick [] [0, 1] (by decide) (by decide) KR KR⟩
   ·
    intro k a W1087 hI
    obtain ⟨x1082, A1083, c1084, x1086, h, ha, HW⟩ := hI
    cases k with
    | zero => exact (q1n (show none = some r from h)).elim
    | succ k1088 =>
     replace h : q0g.b0 K a0 t1020 (q0g.l0 K a0 t1020 k1088) x1082 x1086 = some r := h
     obtain ⟨again1081, hag1089⟩ : ∃ g_, g_ = q0g.l0 K a0 t1020 k1088 := ⟨_, rfl⟩
     rw [← hag1089] at h
     unfold q0g.b0 at h
     refine wp_seq_k (fun K1090 hK1091 => ?_)
     refine wp_region_lit ?_
     refine sp1 ha 21 (.bool (decide (x1086 < (t1020.length : Int)))) ?_; clear ha a; intro a ha
     refine endl (thenN (hK1091 _ _ (wp_seq_k fun K1092 hK1093 => ?_))); clear hK1091
     by_cases hp1094 : x1086 < (t1020.length : Int)
     ·
      replace h := q0b h hp1094
      refine condT ha KR KR (t := decide (x1086 < (t1020.length : Int))) (decide_eq_true hp1094) ?_
      refine wp_skip ?_
      refine thenN (hK1093 _ _ (wp_seq_k fun K1095 hK1096 => ?_)); clear hK1093
      refine wp_block ?_
      refine wp_seq_k (fun K1097 hK1098 => ?_)
      refine wp_region_lit ?_
      obtain ⟨hA1099, h_⟩ := q0d h; replace h := h_; clear h_
      refine stepie (encIK .i64) (0 : Int) ha 22 (fun _ => rfl) (v := .slice A1022 t1020.length c1023) (xs := t1020) (HW.rdo (i := 1) (q := (rw2 A1022 t1020 c1023)) KR) 23 3 (.tmp 18) (.tmp 20) .i64 x1086 rfl KR KR KR KR hA1099 (show (x1086 : Int) < ((t1020).length : Int) from hp1094) KR ?_; clear ha a; intro b1100 off1101 a hC1102 ha
      refine stepl ha 23 hC1102 3 0 (.tmp 22) (.int .i64 (rdL (0 : Int) t1020 x1086)) rfl KR KR KR ?_; clear ha a; intro a ha
      refine sp1 ha 9 (.int .i64 (rdL (0 : Int) t1020 x1086)) ?_; clear ha a; intro a ha
      refine endl (thenN (hK1098 _ _ (wp_region_lit ?_))); clear hK1098
      refine sp3 ha 24 (.slice A1083 x1082.length c1084) 25 (.int .u64 a0) 26 (.int .i64 (rdL (0 : Int) t1020 x1086)) ?_; clear ha a; intro a ha
      obtain ⟨hA1103, h_⟩ := q0d h; replace h := h_; clear h_
      refine stepshr ha 27 68 3 (.tmp 25) (.tmp 26) .u64 .i64 a0 (rdL (0 : Int) t1020 x1086) rfl KR KR hA1103 KR ?_; clear ha a; intro a ha
      refine sp1 ha 28 (.int .u8 (IntKind.wrap .u8 (sshr .u64 a0 (rdL (0 : Int) t1020 x1086)))) ?_; clear ha a; intro a ha
      refine stepbs ha HW 29 5 1 1 #[.int .u8 (IntKind.wrap .u8 (sshr .u64 a0 (rdL (0 : Int) t1020 x1086)))] [.int .u8 (IntKind.wrap .u8 (sshr .u64 a0 (rdL (0 : Int) t1020 x1086)))] (by decide) KR KR KR KR ?_; clear ha HW a; intro b1104 a W1105 HW ha
      replace HW : Wd w W1105 [] [⟨5, 1, .slice (some ⟨b1104, 0, none⟩) ([IntKind.wrap .u8 (sshr .u64 a0 (rdL (0 : Int) t1020 x1086))] : List Int).length 1, ([IntKind.wrap .u8 (sshr .u64 a0 (rdL (0 : Int) t1020 x1086))] : List Int).length, encs (encIK .u8) ([IntKind.wrap .u8 (sshr .u64 a0 (rdL (0 : Int) t1020 x1086))] : List Int)⟩, (rw3 A1083 x1082 c1084), (rw2 A1022 t1020 c1023)] := HW
      replace ha := ha.turn 29 (v := .slice (some ⟨b1104, 0, none⟩) ([IntKind.wrap .u8 (sshr .u64 a0 (rdL (0 : Int) t1020 x1086))] : List Int).length 1) KR rfl
      obtain ⟨hA1107, h_⟩ := q0d h; replace h := h_; clear h_
      refine stepape (encIK .u8) ha HW 30 1 71 5 (.tmp 24) (.tmp 29) (.int .u8 0) 1 1 (.slice A1083 x1082.length c1084) x1082 (.slice (some ⟨b1104, 0, none⟩) ([IntKind.wrap .u8 (sshr .u64 a0 (rdL (0 : Int) t1020 x1086))] : List Int).length 1) ([IntKind.wrap .u8 (sshr .u64 a0 (rdL (0 : Int) t1020 x1086))] : List Int) KR rfl KR KR (HW.rdo (i := 0) (q := ⟨5, 1, .slice (some ⟨b1104, 0, none⟩) ([IntKind.wrap .u8 (sshr .u64 a0 (rdL (0 : Int) t1020 x1086))] : List Int).length 1, ([IntKind.wrap .u8 (sshr .u64 a0 (rdL (0 : Int) t1020 x1086))] : List Int).length, encs (encIK .u8) ([IntKind.wrap .u8 (sshr .u64 a0 (rdL (0 : Int) t1020 x1086))] : List Int)⟩) KR) (fun _ => rfl) KR KR KR (by decide) (by have := hA1107; unfold maxLen; omega) (by have := hA1107; omega) KR ?_; clear ha HW a; intro A1108 c1109 a W1110 HW ha
      refine sp1 ha 7 (.slice A1108 (x1082 ++ ([IntKind.wrap .u8 (sshr .u64 a0 (rdL (0 : Int) t1020 x1086))] : List Int)).length c1109) ?_; clear ha a; intro a ha
      refine endl ?_
      refine blkN ?_
      refine thenN (hK1096 _ _ (wp_region_lit ?_)); clear hK1096
      refine sp2 ha 31 (.int .i64 (IntKind.wrap .i64 (x1086 + 1))) 20 (.int .i64 (IntKind.wrap .i64 (x1086 + 1))) ?_; clear ha a; intro a ha
      refine endl ?_
      exact thenN ⟨k1088, Nat.lt_succ_self k1088, x1082 ++ ([IntKind.wrap .u8 (sshr .u64 a0 (rdL (0 : Int) t1020 x1086))] : List Int), A1108, c1109, IntKind.wrap .i64 (x1086 + 1), (by rw [← hag1089]; exact h), ha.sub (q05 KR (q05 KR (q05 KR (q05 KR (q05 KR (q0t _)))))), HW.pick [] [1, 2] (by decide) (by decide) KR KR⟩
     ·
      replace h := q0c h hp1094
      refine condF ha KR KR (t := decide (x1086 < (t1020.length : Int))) (decide_eq_false hp1094) ?_
      refine wp_exit ?_
      refine thenE ?_
      refine thenE ?_
      refine inBlk ?_
      refine thenN (hK1017 _ _ (wp_seq_k fun K1113 hK1114 => wp_region_lit ?_)); clear hK1017
      refine sp1 ha 32 (.slice A1083 x1082.length c1084) ?_; clear ha a; intro a ha
      refine stepbt ha 33 71 9 5 (.tmp 32) (v := .slice A1083 x1082.length c1084) (xs := x1082) (HW.rdo (i := 0) (q := (rw3 A1083 x1082 c1084)) KR) rfl KR KR KR KR KR ?_; clear ha a; intro a ha
      refine sp1 ha 6 (.string (strOfNums x1082)) ?_; clear ha a; intro a ha
      refine endl (thenN (hK1114 _ _ ?_)); clear hK1114
      refine wp_ret ?_
      obtain rfl := Option.some.inj h
      exact finv ha _ _ rfl (.tmp (v := .string (strOfNums x1082)) KR .nil) (.string (strOfNums x1082)) rfl ⟨rfl, HW.pick [] [] (by decide) (by decide) rfl KR⟩
def q1b.f (K : Nat) (a0 : Int) (a1 : Int) : Option ByteArray :=
 (q0g.f K a0 a1 false).bind fun t1151 => (some t1151)
set_option maxRecDepth 100000 in
set_option maxHeartbeats 4000000 in
theorem q1b.calls (K : Nat) (a0 : Int) (a1 : Int)  (r : ByteArray) (w : World)  (h : q1b.f K a0 a1 = some r) :
  Calls Tryd.prog 70 #[.int .u64 a0, .int .i64 a1] w (fun e W' => e = .returned (.string r) ∧ Wd w W' [] [] ) := by
 refine q17 (n := 8) (l := [(0, .int .u64 a0), (1, .int .i64 a1)]) Tryd.func70 rfl rfl (Nat.le_of_ble_eq_true KR) (q07 rfl (q07 rfl (q0q _))) ?_
 intro a ha
 have HW := Wd.refl w
 unfold q1b.f at h
 refine wp_seq_k (fun K1147 hK1148 => ?_)
 refine wp_region_lit ?_
 refine sp1 ha 4 (.string (⟨#[]⟩ : ByteArray)) ?_; clear ha a; intro a ha
 refine endl (thenN (hK1148 _ _ (wp_seq_k fun K1149 hK1150 => wp_region_lit ?_))); clear hK1148
 refine sp2 ha 5 (.int .u64 a0) 6 (.int .i64 a1) ?_; clear ha a; intro a ha
 obtain ⟨t1151, ht1152, h_⟩ := q08 h; replace h := h_; clear h_
 refine stepc ha 7 KR KR (q0g.calls K a0 a1 false t1151 _ ht1152) ?_; clear ha a; rintro e W1153 ⟨rfl, HX1154⟩
 refine ⟨_, rfl, ?_⟩; intro a ha; replace HW := HW.callw HX1154; clear HX1154
 refine sp1 ha 4 (.string t1151) ?_; clear ha a; intro a ha
 refine endl (thenN (hK1150 _ _ ?_)); clear hK1150
 refine wp_ret ?_
 obtain rfl := Option.some.inj h
 exact finv ha _ _ rfl (.tmp (v := .string t1151) KR .nil) (.string t1151) rfl ⟨rfl, HW.pick [] [] (by decide) (by decide) rfl KR⟩
def q1p.b0 (K : Nat) (a1 : ByteArray) (again1203 : Int → Int → Option Int) (x1204 : Int) (x1205 : Int) : Option Int :=
 if x1205 < (a1.size : Int) then (asrt (0 ≤ x1205) (asrt (0 ≤ (band .u32 (bxor .u32 x1204 (IntKind.wrap .u32 (bt a1 x1205))) 15)) (asrt ((band .u32 (bxor .u32 x1204 (IntKind.wrap .u32 (bt a1 x1205))) 15) < 16) (asrt (0 ≤ (band .u32 (bxor .u32 ((bxor .u32 x1204 (IntKind.wrap .u32 (bt a1 x1205))).fdiv 16) (rdL (0 : Int) q0h (band .u32 (bxor .u32 x1204 (IntKind.wrap .u32 (bt a1 x1205))) 15))) 15)) (asrt ((band .u32 (bxor .u32 ((bxor .u32 x1204 (IntKind.wrap .u32 (bt a1 x1205))).fdiv 16) (rdL (0 : Int) q0h (band .u32 (bxor .u32 x1204 (IntKind.wrap .u32 (bt a1 x1205))) 15))) 15) < 16) (again1203 (bxor .u32 ((bxor .u32 ((bxor .u32 x1204 (IntKind.wrap .u32 (bt a1 x1205))).fdiv 16) (rdL (0 : Int) q0h (band .u32 (bxor .u32 x1204 (IntKind.wrap .u32 (bt a1 x1205))) 15))).fdiv 16) (rdL (0 : Int) q0h (band .u32 (bxor .u32 ((bxor .u32 x1204 (IntKind.wrap .u32 (bt a1 x1205))).fdiv 16) (rdL (0 : Int) q0h (band .u32 (bxor .u32 x1204 (IntKind.wrap .u32 (bt a1 x1205))) 15))) 15))) (IntKind.wrap .i64 (x1205 + 1)))))))) else (some (bxor .u32 4294967295 x1204))
def q1p.l0 (K : Nat) (a1 : ByteArray) : Nat → Int → Int → Option Int
 | 0, _, _ => none
 | k_ + 1, x1204, x1205 => q1p.b0 K a1 (q1p.l0 K a1 k_) x1204 x1205
def q1p.f (K : Nat) (a0 : Int) (a1 : ByteArray) : Option Int :=
 q1p.l0 K a1 K (bxor .u32 4294967295 a0) 0
set_option maxRecDepth 100000 in
set_option maxHeartbeats 4000000 in
theorem q1p.calls (K : Nat) (a0 : Int) (a1 : ByteArray)  (r : Int) (w : World) (hG1 : CA w 1 0 (encs (encIK .u32) q0h).toArray) (h : q1p.f K a0 a1 = some r) :
  Calls Tryd.prog 80 #[.int .u32 a0, .string a1] w (fun e W' => e = .returned (.int .u32 r) ∧ Wd w W' [] [] ) := by
 refine q17 (n := 36) (l := [(0, .int .u32 a0), (1, .string a1)]) Tryd.func80 rfl rfl (Nat.le_of_ble_eq_true KR) (q07 rfl (q07 rfl (q0q _))) ?_
 intro a ha
 have HW := Wd.refl w
 unfold q1p.f at h
 refine wp_seq_k (fun K1155 hK1156 => ?_)
 refine wp_region_lit ?_
 refine sp1 ha 4 (.int .u32 0) ?_; clear ha a; intro a ha
 refine endl (thenN (hK1156 _ _ (wp_seq_k fun K1157 hK1158 => wp_region_lit ?_))); clear hK1156
 refine sp3 ha 6 (.int .u32 a0) 7 (.int .u32 (bxor .u32 4294967295 a0)) 0 (.int .u32 (bxor .u32 4294967295 a0)) ?_; clear ha a; intro a ha
 refine endl (thenN (hK1158 _ _ (wp_seq_k fun K1159 hK1160 => wp_seq_k fun K1161 hK1162 => wp_region_lit ?_))); clear hK1158
 refine sp3 ha 8 (.string a1) 9 (.int .i64 (a1.size : Int)) 10 (.int .i64 0) ?_; clear ha a; intro a ha
 refine endl (thenN (hK1162 _ _ ?_)); clear hK1162
 refine wp_block ?_
 refine loopk (fun k => fun a W1206 => ∃ (x1204 : Int), ∃ (x1205 : Int), q1p.l0 K a1 k x1204 x1205 = some r ∧ Has 36 [(0, .int .u32 x1204), (1, .string a1), (9, .int .i64 (a1.size : Int)), (10, .int .i64 x1205)] a ∧ Wd w W1206 [] []) K ?_ ?_
 ·
  exact ⟨bxor .u32 4294967295 a0, 0, h, ha.sub (q05 KR (q05 KR (q05 KR (q05 KR (q0t _))))), HW.pick [] [] (by decide) (by decide) KR KR⟩
 ·
  intro k a W1206 hI
  obtain ⟨x1204, x1205, h, ha, HW⟩ := hI
  cases k with
  | zero => exact (q1n (show none = some r from h)).elim
  | succ k1207 =>
   replace h : q1p.b0 K a1 (q1p.l0 K a1 k1207) x1204 x1205 = some r := h
   obtain ⟨again1203, hag1208⟩ : ∃ g_, g_ = q1p.l0 K a1 k1207 := ⟨_, rfl⟩
   rw [← hag1208] at h
   unfold q1p.b0 at h
   refine wp_seq_k (fun K1209 hK1210 => ?_)
   refine wp_region_lit ?_
   refine sp1 ha 11 (.bool (decide (x1205 < (a1.size : Int)))) ?_; clear ha a; intro a ha
   refine endl (thenN (hK1210 _ _ (wp_seq_k fun K1211 hK1212 => ?_))); clear hK1210
   by_cases hp1213 : x1205 < (a1.size : Int)
   ·
    replace h := q0b h hp1213
    refine condT ha KR KR (t := decide (x1205 < (a1.size : Int))) (decide_eq_true hp1213) ?_
    refine wp_skip ?_
    refine thenN (hK1212 _ _ (wp_seq_k fun K1214 hK1215 => ?_)); clear hK1212
    refine wp_block ?_
    refine wp_seq_k (fun K1216 hK1217 => ?_)
    refine wp_region_lit ?_
    refine sp2 ha 12 (.int .i64 x1205) 5 (.int .i64 x1205) ?_; clear ha a; intro a ha
    refine endl (thenN (hK1217 _ _ (wp_seq_k fun K1218 hK1219 => wp_region_lit ?_))); clear hK1217
    refine sp3 ha 13 (.int .u32 x1204) 14 (.string a1) 15 (.int .i64 x1205) ?_; clear ha a; intro a ha
    obtain ⟨hA1220, h_⟩ := q0d h; replace h := h_; clear h_
    refine stepsi ha 16 9 (.tmp 14) (.tmp 15) a1 .i64 x1205 rfl KR KR KR hA1220 (show (x1205 : Int) < ((a1).size : Int) from hp1213) KR ?_; clear ha a; intro a ha
    refine sp3 ha 17 (.int .u32 (IntKind.wrap .u32 (bt a1 x1205))) 18 (.int .u32 (bxor .u32 x1204 (IntKind.wrap .u32 (bt a1 x1205)))) 0 (.int .u32 (bxor .u32 x1204 (IntKind.wrap .u32 (bt a1 x1205)))) ?_; clear ha a; intro a ha
    refine endl (thenN (hK1219 _ _ (wp_seq_k fun K1221 hK1222 => wp_region_lit ?_))); clear hK1219
    refine sp4 ha 19 (.int .u32 (bxor .u32 x1204 (IntKind.wrap .u32 (bt a1 x1205)))) 20 (.int .u32 ((bxor .u32 x1204 (IntKind.wrap .u32 (bt a1 x1205))).fdiv 16)) 21 (.int .u32 (bxor .u32 x1204 (IntKind.wrap .u32 (bt a1 x1205)))) 22 (.int .u32 (band .u32 (bxor .u32 x1204 (IntKind.wrap .u32 (bt a1 x1205))) 15)) ?_; clear ha a; intro a ha
    obtain ⟨hA1223, h_⟩ := q0d h; replace h := h_; clear h_
    obtain ⟨hA1224, h_⟩ := q0d h; replace h := h_; clear h_
    refine stepiw ha 23 (sz := 1) 1 0 127 16 97 (.global 1) (.tmp 22) .u32 (band .u32 (bxor .u32 x1204 (IntKind.wrap .u32 (bt a1 x1205))) 15) rfl KR KR KR KR hA1223 hA1224 KR ?_; clear ha a; intro a ha
    refine stepl ha 24 (CA.el (sz := 1) (encIK .u32) (0 : Int) (fun _ => rfl) (HW.ca0 hG1) q0h rfl (len := 16) rfl hA1223 hA1224) 97 0 (.tmp 23) (.int .u32 (rdL (0 : Int) q0h (band .u32 (bxor .u32 x1204 (IntKind.wrap .u32 (bt a1 x1205))) 15))) rfl KR KR KR ?_; clear ha a; intro a ha
    refine sp2 ha 25 (.int .u32 (bxor .u32 ((bxor .u32 x1204 (IntKind.wrap .u32 (bt a1 x1205))).fdiv 16) (rdL (0 : Int) q0h (band .u32 (bxor .u32 x1204 (IntKind.wrap .u32 (bt a1 x1205))) 15)))) 0 (.int .u32 (bxor .u32 ((bxor .u32 x1204 (IntKind.wrap .u32 (bt a1 x1205))).fdiv 16) (rdL (0 : Int) q0h (band .u32 (bxor .u32 x1204 (IntKind.wrap .u32 (bt a1 x1205))) 15)))) ?_; clear ha a; intro a ha
    refine endl (thenN (hK1222 _ _ (wp_region_lit ?_))); clear hK1222
    refine sp4 ha 26 (.int .u32 (bxor .u32 ((bxor .u32 x1204 (IntKind.wrap .u32 (bt a1 x1205))).fdiv 16) (rdL (0 : Int) q0h (band .u32 (bxor .u32 x1204 (IntKind.wrap .u32 (bt a1 x1205))) 15)))) 27 (.int .u32 ((bxor .u32 ((bxor .u32 x1204 (IntKind.wrap .u32 (bt a1 x1205))).fdiv 16) (rdL (0 : Int) q0h (band .u32 (bxor .u32 x1204 (IntKind.wrap .u32 (bt a1 x1205))) 15))).fdiv 16)) 28 (.int .u32 (bxor .u32 ((bxor .u32 x1204 (IntKind.wrap .u32 (bt a1 x1205))).fdiv 16) (rdL (0 : Int) q0h (band .u32 (bxor .u32 x1204 (IntKind.wrap .u32 (bt a1 x1205))) 15)))) 29 (.int .u32 (band .u32 (bxor .u32 ((bxor .u32 x1204 (IntKind.wrap .u32 (bt a1 x1205))).fdiv 16) (rdL (0 : Int) q0h (band .u32 (bxor .u32 x1204 (IntKind.wrap .u32 (bt a1 x1205))) 15))) 15)) ?_; clear ha a; intro a ha
    obtain ⟨hA1225, h_⟩ := q0d h; replace h := h_; clear h_
    obtain ⟨hA1226, h_⟩ := q0d h; replace h := h_; clear h_
    refine stepiw ha 30 (sz := 1) 1 0 127 16 97 (.global 1) (.tmp 29) .u32 (band .u32 (bxor .u32 ((bxor .u32 x1204 (IntKind.wrap .u32 (bt a1 x1205))).fdiv 16) (rdL (0 : Int) q0h (band .u32 (bxor .u32 x1204 (IntKind.wrap .u32 (bt a1 x1205))) 15))) 15) rfl KR KR KR KR hA1225 hA1226 KR ?_; clear ha a; intro a ha
    refine stepl ha 31 (CA.el (sz := 1) (encIK .u32) (0 : Int) (fun _ => rfl) (HW.ca0 hG1) q0h rfl (len := 16) rfl hA1225 hA1226) 97 0 (.tmp 30) (.int .u32 (rdL (0 : Int) q0h (band .u32 (bxor .u32 ((bxor .u32 x1204 (IntKind.wrap .u32 (bt a1 x1205))).fdiv 16) (rdL (0 : Int) q0h (band .u32 (bxor .u32 x1204 (IntKind.wrap .u32 (bt a1 x1205))) 15))) 15))) rfl KR KR KR ?_; clear ha a; intro a ha
    refine sp2 ha 32 (.int .u32 (bxor .u32 ((bxor .u32 ((bxor .u32 x1204 (IntKind.wrap .u32 (bt a1 x1205))).fdiv 16) (rdL (0 : Int) q0h (band .u32 (bxor .u32 x1204 (IntKind.wrap .u32 (bt a1 x1205))) 15))).fdiv 16) (rdL (0 : Int) q0h (band .u32 (bxor .u32 ((bxor .u32 x1204 (IntKind.wrap .u32 (bt a1 x1205))).fdiv 16) (rdL (0 : Int) q0h (band .u32 (bxor .u32 x1204 (IntKind.wrap .u32 (bt a1 x1205))) 15))) 15)))) 0 (.int .u32 (bxor .u32 ((bxor .u32 ((bxor .u32 x1204 (IntKind.wrap .u32 (bt a1 x1205))).fdiv 16) (rdL (0 : Int) q0h (band .u32 (bxor .u32 x1204 (IntKind.wrap .u32 (bt a1 x1205))) 15))).fdiv 16) (rdL (0 : Int) q0h (band .u32 (bxor .u32 ((bxor .u32 x1204 (IntKind.wrap .u32 (bt a1 x1205))).fdiv 16) (rdL (0 : Int) q0h (band .u32 (bxor .u32 x1204 (IntKind.wrap .u32 (bt a1 x1205))) 15))) 15)))) ?_; clear ha a; intro a ha
    refine endl ?_
    refine blkN ?_
    refine thenN (hK1215 _ _ (wp_region_lit ?_)); clear hK1215
    refine sp2 ha 33 (.int .i64 (IntKind.wrap .i64 (x1205 + 1))) 10 (.int .i64 (IntKind.wrap .i64 (x1205 + 1))) ?_; clear ha a; intro a ha
    refine endl ?_
    exact thenN ⟨k1207, Nat.lt_succ_self k1207, bxor .u32 ((bxor .u32 ((bxor .u32 x1204 (IntKind.wrap .u32 (bt a1 x1205))).fdiv 16) (rdL (0 : Int) q0h (band .u32 (bxor .u32 x1204 (IntKind.wrap .u32 (bt a1 x1205))) 15))).fdiv 16) (rdL (0 : Int) q0h (band .u32 (bxor .u32 ((bxor .u32 x1204 (IntKind.wrap .u32 (bt a1 x1205))).fdiv 16) (rdL (0 : Int) q0h (band .u32 (bxor .u32 x1204 (IntKind.wrap .u32 (bt a1 x1205))) 15))) 15)), IntKind.wrap .i64 (x1205 + 1), (by rw [← hag1208]; exact h), ha.sub (q05 KR (q05 KR (q05 KR (q05 KR (q0t _))))), HW.pick [] [] (by decide) (by decide) KR KR⟩
   ·
    replace h := q0c h hp1213
    refine condF ha KR KR (t := decide (x1205 < (a1.size : Int))) (decide_eq_false hp1213) ?_
    refine wp_exit ?_
    refine thenE ?_
    refine thenE ?_
    refine inBlk ?_
    refine thenN (hK1160 _ _ (wp_seq_k fun K1227 hK1228 => wp_region_lit ?_)); clear hK1160
    refine sp3 ha 34 (.int .u32 x1204) 35 (.int .u32 (bxor .u32 4294967295 x1204)) 4 (.int .u32 (bxor .u32 4294967295 x1204)) ?_; clear ha a; intro a ha
    refine endl (thenN (hK1228 _ _ ?_)); clear hK1228
    refine wp_ret ?_
    obtain rfl := Option.some.inj h
    exact finv ha _ _ rfl (.tmp (v := .int .u32 (bxor .u32 4294967295 x1204)) KR .nil) (.int .u32 (bxor .u32 4294967295 x1204)) rfl ⟨rfl, HW.pick [] [] (by decide) (by decide) rfl KR⟩
def crc_Sum.f (K : Nat) (a0 : ByteArray) : Option Int :=
 (q1p.f K 0 a0).bind fun t1233 => (some t1233)
set_option maxRecDepth 100000 in
set_option maxHeartbeats 4000000 in
theorem crc_Sum.calls (K : Nat) (a0 : ByteArray)  (r : Int) (w : World) (hG1 : CA w 1 0 (encs (encIK .u32) q0h).toArray) (h : crc_Sum.f K a0 = some r) :
  Calls Tryd.prog 71 #[.string a0] w (fun e W' => e = .returned (.int .u32 r) ∧ Wd w W' [] [] ) := by
 refine q17 (n := 5) (l := [(0, .string a0)]) Tryd.func71 rfl rfl (Nat.le_of_ble_eq_true KR) (q07 rfl (q0q _)) ?_
 intro a ha
 have HW := Wd.refl w
 unfold crc_Sum.f at h
 refine wp_seq_k (fun K1229 hK1230 => ?_)
 refine wp_region_lit ?_
 refine sp1 ha 2 (.int .u32 0) ?_; clear ha a; intro a ha
 refine endl (thenN (hK1230 _ _ (wp_seq_k fun K1231 hK1232 => wp_region_lit ?_))); clear hK1230
 refine sp1 ha 3 (.string a0) ?_; clear ha a; intro a ha
 obtain ⟨t1233, ht1234, h_⟩ := q08 h; replace h := h_; clear h_
 refine stepc ha 4 KR KR (q1p.calls K 0 a0 t1233 _ (HW.ca0 hG1) ht1234) ?_; clear ha a; rintro e W1235 ⟨rfl, HX1236⟩
 refine ⟨_, rfl, ?_⟩; intro a ha; replace HW := HW.callw HX1236; clear HX1236
 refine sp1 ha 2 (.int .u32 t1233) ?_; clear ha a; intro a ha
 refine endl (thenN (hK1232 _ _ ?_)); clear hK1232
 refine wp_ret ?_
 obtain rfl := Option.some.inj h
 exact finv ha _ _ rfl (.tmp (v := .int .u32 t1233) KR .nil) (.int .u32 t1233) rfl ⟨rfl, HW.pick [] [] (by decide) (by decide) rfl KR⟩
def q1m.f (K : Nat) (a0 : ByteArray) : Option ByteArray :=
 (crc_Sum.f K a0).bind fun t1241 => ((q1b.f K (IntKind.wrap .u64 t1241) 4).bind fun t1245 => (some t1245))
set_option maxRecDepth 100000 in
set_option maxHeartbeats 4000000 in
theorem q1m.calls (K : Nat) (a0 : ByteArray)  (r : ByteArray) (w : World) (hG1 : CA w 1 0 (encs (encIK .u32) q0h).toArray) (h : q1m.f K a0 = some r) :
  Calls Tryd.prog 61 #[.string a0] w (fun e W' => e = .returned (.string r) ∧ Wd w W' [] [] ) := by
 refine q17 (n := 7) (l := [(0, .string a0)]) Tryd.func61 rfl rfl (Nat.le_of_ble_eq_true KR) (q07 rfl (q0q _)) ?_
 intro a ha
 have HW := Wd.refl w
 unfold q1m.f at h
 refine wp_seq_k (fun K1237 hK1238 => ?_)
 refine wp_region_lit ?_
 refine sp1 ha 2 (.string (⟨#[]⟩ : ByteArray)) ?_; clear ha a; intro a ha
 refine endl (thenN (hK1238 _ _ (wp_seq_k fun K1239 hK1240 => wp_region_lit ?_))); clear hK1238
 refine sp1 ha 3 (.string a0) ?_; clear ha a; intro a ha
 obtain ⟨t1241, ht1242, h_⟩ := q08 h; replace h := h_; clear h_
 refine stepc ha 4 KR KR (crc_Sum.calls K a0 t1241 _ (HW.ca0 hG1) ht1242) ?_; clear ha a; rintro e W1243 ⟨rfl, HX1244⟩
 refine ⟨_, rfl, ?_⟩; intro a ha; replace HW := HW.callw HX1244; clear HX1244
 refine sp1 ha 5 (.int .u64 (IntKind.wrap .u64 t1241)) ?_; clear ha a; intro a ha
 obtain ⟨t1245, ht1246, h_⟩ := q08 h; replace h := h_; clear h_
 refine stepc ha 6 KR KR (q1b.calls K (IntKind.wrap .u64 t1241) 4 t1245 _ ht1246) ?_; clear ha a; rintro e W1247 ⟨rfl, HX1248⟩
 refine ⟨_, rfl, ?_⟩; intro a ha; replace HW := HW.callw HX1248; clear HX1248
 refine sp1 ha 2 (.string t1245) ?_; clear ha a; intro a ha
 refine endl (thenN (hK1240 _ _ ?_)); clear hK1240
 refine wp_ret ?_
 obtain rfl := Option.some.inj h
 exact finv ha _ _ rfl (.tmp (v := .string t1245) KR .nil) (.string t1245) rfl ⟨rfl, HW.pick [] [] (by decide) (by decide) rfl KR⟩
def q1l.f (a0 : Int) (a1 : Int) : Option Int :=
 if a1 < 1 then (some 0) else (asrt (¬ a1 = 0) (some (Int.tmod (IntKind.wrap .i64 ((Int.tmod a0 a1) + a1)) a1)))
set_option maxRecDepth 100000 in
set_option maxHeartbeats 4000000 in
theorem q1l.calls (a0 : Int) (a1 : Int)  (r : Int) (w : World)  (h : q1l.f a0 a1 = some r) :
  Calls Tryd.prog 10 #[.int .i64 a0, .int .i64 a1] w (fun e W' => e = .returned (.int .i64 r) ∧ Wd w W' [] [] ) := by
 refine q17 (n := 14) (l := [(0, .int .i64 a0), (1, .int .i64 a1)]) Tryd.func10 rfl rfl (Nat.le_of_ble_eq_true KR) (q07 rfl (q07 rfl (q0q _))) ?_
 intro a ha
 have HW := Wd.refl w
 unfold q1l.f at h
 refine wp_seq_k (fun K3732 hK3733 => ?_)
 refine wp_region_lit ?_
 refine sp1 ha 4 (.int .i64 0) ?_; clear ha a; intro a ha
 refine endl (thenN (hK3733 _ _ (wp_seq_k fun K3734 hK3735 => wp_seq_k fun K3736 hK3737 => wp_region_lit ?_))); clear hK3733
 refine sp2 ha 5 (.int .i64 a1) 6 (.bool (decide (a1 < 1))) ?_; clear ha a; intro a ha
 refine endl (thenN (hK3737 _ _ ?_)); clear hK3737
 by_cases hp3738 : a1 < 1
 ·
  replace h := q0b h hp3738
  refine condT ha KR KR (t := decide (a1 < 1)) (decide_eq_true hp3738) ?_
  refine wp_seq_k (fun K3739 hK3740 => ?_)
  refine wp_region_lit ?_
  refine sp1 ha 4 (.int .i64 0) ?_; clear ha a; intro a ha
  refine endl (thenN (hK3740 _ _ ?_)); clear hK3740
  refine wp_ret ?_
  refine thenR ?_
  obtain rfl := Option.some.inj h
  exact finv ha _ _ rfl (.tmp (v := .int .i64 0) KR .nil) (.int .i64 0) rfl ⟨rfl, HW.pick [] [] (by decide) (by decide) rfl KR⟩
 ·
  replace h := q0c h hp3738
  refine condF ha KR KR (t := decide (a1 < 1)) (decide_eq_false hp3738) ?_
  refine wp_skip ?_
  refine thenN (hK3735 _ _ (wp_seq_k fun K3741 hK3742 => wp_region_lit ?_)); clear hK3735
  refine sp2 ha 7 (.int .i64 a0) 8 (.int .i64 a1) ?_; clear ha a; intro a ha
  obtain ⟨hA3743, h_⟩ := q0d h; replace h := h_; clear h_
  refine steprem ha 9 3 3 (.tmp 7) (.tmp 8) .i64 a0 a1 rfl KR KR hA3743 KR ?_; clear ha a; intro a ha
  refine sp3 ha 10 (.int .i64 a1) 11 (.int .i64 (IntKind.wrap .i64 ((Int.tmod a0 a1) + a1))) 12 (.int .i64 a1) ?_; clear ha a; intro a ha
  refine steprem ha 13 3 3 (.tmp 11) (.tmp 12) .i64 (IntKind.wrap .i64 ((Int.tmod a0 a1) + a1)) a1 rfl KR KR hA3743 KR ?_; clear ha a; intro a ha
  refine sp1 ha 4 (.int .i64 (Int.tmod (IntKind.wrap .i64 ((Int.tmod a0 a1) + a1)) a1)) ?_; clear ha a; intro a ha
  refine endl (thenN (hK3742 _ _ ?_)); clear hK3742
  refine wp_ret ?_
  obtain rfl := Option.some.inj h
  exact finv ha _ _ rfl (.tmp (v := .int .i64 (Int.tmod (IntKind.wrap .i64 ((Int.tmod a0 a1) + a1)) a1)) KR .nil) (.int .i64 (Int.tmod (IntKind.wrap .i64 ((Int.tmod a0 a1) + a1)) a1)) rfl ⟨rfl, HW.pick [] [] (by decide) (by decide) rfl KR⟩
end Go.Proofs.YtokdiacjcbolfaaDoor.F
namespace Go.Proofs.YtokdiacjcbolfaaDoor.F
open Go Go.RowKit Go.Proofs.YtokdiacjcbolfaaDoor.X
set_option linter.unusedVariables false
set_option linter.unusedSimpArgs false
def q0l.b0 (K : Nat) (a1 : Int) (a2 : ByteArray) (again462 : Int → (List ByteArray) → (List ByteArray) → (List q01) → Int → Bool → Int → Bool → Option (Int × q04)) (x463 : Int) (x464 : List ByteArray) (x468 : List ByteArray) (x472 : List q01) (x476 : Int) (x477 : Bool) (x478 : Int) (x479 : Bool) : Option (Int × q04) :=
 if x463 < (IntKind.wrap .i64 (Int.tdiv (a2.size : Int) 512)) then ((q0z.f K (⟨x464, x468, x472, (⟨(), (), x476⟩ : q03), x477, x478, x479⟩ : q04)).bind fun t498 => (if t498.1 = true then (asrt (0 ≤ (IntKind.wrap .i64 (x463 * 512))) (asrt ((IntKind.wrap .i64 (x463 * 512)) ≤ (IntKind.wrap .i64 ((IntKind.wrap .i64 (x463 + 1)) * 512))) (asrt ((IntKind.wrap .i64 ((IntKind.wrap .i64 (x463 + 1)) * 512)) ≤ (a2.size : Int)) (asrt (t498.2.f2.length + ([(⟨IntKind.wrap .i64 (a1 + x463), a2.extract (IntKind.wrap .i64 (x463 * 512) : Int).toNat (IntKind.wrap .i64 ((IntKind.wrap .i64 (x463 + 1)) * 512) : Int).toNat⟩ : q01)] : List q01).length ≤ 5864062014805) (asrt (0 ≤ (IntKind.wrap .i64 (a1 + x463))) (asrt ((IntKind.wrap .i64 (a1 + x463)) < (t498.2.f1.length : Int)) (again462 (IntKind.wrap .i64 (x463 + 1)) t498.2.f0 (t498.2.f1.set (IntKind.wrap .i64 (a1 + x463) : Int).toNat (a2.extract (IntKind.wrap .i64 (x463 * 512) : Int).toNat (IntKind.wrap .i64 ((IntKind.wrap .i64 (x463 + 1)) * 512) : Int).toNat)) (t498.2.f2 ++ ([(⟨IntKind.wrap .i64 (a1 + x463), a2.extract (IntKind.wrap .i64 (x463 * 512) : Int).toNat (IntKind.wrap .i64 ((IntKind.wrap .i64 (x463 + 1)) * 512) : Int).toNat⟩ : q01)] : List q01)) t498.2.f3.f2 t498.2.f4 t498.2.f5 t498.2.f6))))))) else (some (41, t498.2)))) else (some (0, (⟨x464, x468, x472, (⟨(), (), x476⟩ : q03), x477, x478, x479⟩ : q04)))
def q0l.l0 (K : Nat) (a1 : Int) (a2 : ByteArray) : Nat → Int → (List ByteArray) → (List ByteArray) → (List q01) → Int → Bool → Int → Bool → Option (Int × q04)
 | 0, _, _, _, _, _, _, _, _ => none
 | k_ + 1, x463, x464, x468, x472, x476, x477, x478, x479 => q0l.b0 K a1 a2 (q0l.l0 K a1 a2 k_) x463 x464 x468 x472 x476 x477 x478 x479
def q0l.j0 (K : Nat) (a1 : Int) (a2 : ByteArray) (x289 : Bool) (x290 : q04) : Option (Int × q04) :=
 if x289 = true then (some (40, x290)) else (if x290.f6 = true then (some (41, (⟨x290.f0, x290.f1, x290.f2, (⟨(), (), x290.f3.f2⟩ : q03), x290.f4, x290.f5, x290.f6⟩ : q04))) else (q0l.l0 K a1 a2 K 0 x290.f0 x290.f1 x290.f2 x290.f3.f2 x290.f4 x290.f5 x290.f6))
def q0l.f (K : Nat) (a0 : q04) (a1 : Int) (a2 : ByteArray) : Option (Int × q04) :=
 if (Int.tmod (a2.size : Int) 512) = 0 then (if a1 < 0 then (q0l.j0 K a1 a2 true a0) else (if a1 > (a0.f0.length : Int) then (q0l.j0 K a1 a2 true (⟨a0.f0, a0.f1, a0.f2, (⟨(), (), a0.f3.f2⟩ : q03), a0.f4, a0.f5, a0.f6⟩ : q04)) else (q0l.j0 K a1 a2 (decide ((IntKind.wrap .i64 (Int.tdiv (a2.size : Int) 512)) > (IntKind.wrap .i64 ((a0.f0.length : Int) - a1)))) (⟨a0.f0, a0.f1, a0.f2, (⟨(), (), a0.f3.f2⟩ : q03), a0.f4, a0.f5, a0.f6⟩ : q04)))) else (q0l.j0 K a1 a2 true a0)
set_option maxRecDepth 100000 in
set_option maxHeartbeats 4000000 in
theorem q0l.calls (K : Nat) (a0 : q04) (a1 : Int) (a2 : ByteArray) (p0 : Nat) (U0 : Blks)  (r : Int × q04) (w w1 : World) (F bs : Blks) (os : List OwnA) (hU0 : q04.At p0  a0 U0) (HW : Wd w w1 (U0 ++ (F ++ bs)) os) (h : q0l.f K a0 a1 a2 = some r) :
  Calls Tryd.prog 24 #[.pointer (some ⟨p0, 0, none⟩), .int .i64 a1, .string a2] w1 (fun e W' => ∃ U0' : Blks, e = .returned (.int .i64 r.1) ∧ q04.At p0  r.2 U0' ∧ Wd w W' (U0' ++ (F ++ bs)) (os)) := by
 refine q17 (n := 88) (l := [(0, (ptr p0)), (1, .int .i64 a1), (2, .string a2)]) Tryd.func24 rfl rfl (Nat.le_of_ble_eq_true KR) (q07 rfl (q07 rfl (q07 rfl (q0q _)))) ?_
 intro a ha
 replace HW : Wd w w1 (U0 ++ (F ++ bs)) (os) := HW
 unfold q0l.f at h
 refine wp_seq_k (fun K263 hK264 => ?_)
 refine wp_region_lit ?_
 refine sp1 ha 6 (.int .i64 0) ?_; clear ha a; intro a ha
 refine endl (thenN (hK264 _ _ (wp_seq_k fun K265 hK266 => wp_region_lit ?_))); clear hK264
 refine sp4 ha 10 (.string a2) 11 (.int .i64 (a2.size : Int)) 12 (.int .i64 (IntKind.wrap .i64 (Int.tdiv (a2.size : Int) 512))) 7 (.int .i64 (IntKind.wrap .i64 (Int.tdiv (a2.size : Int) 512))) ?_; clear ha a; intro a ha
 refine endl (thenN (hK266 _ _ (wp_seq_k fun K267 hK268 => ?_))); clear hK266
 refine wp_block ?_
 refine wp_seq_k (fun K269 hK270 => ?_)
 refine wp_region_lit ?_
 refine sp3 ha 14 ((ptr p0)) 15 (.bool false) 13 (.bool false) ?_; clear ha a; intro a ha
 refine endl (thenN (hK270 _ _ ?_)); clear hK270
 refine condF ha KR KR (t := false) (rfl) ?_
 refine wp_seq_k (fun K271 hK272 => ?_)
 refine cutn (fun a W293 => ∃ (x289 : Bool), ∃ (x290 : q04), ∃ (U291 : Blks), q0l.j0 K a1 a2 x289 x290 = some r ∧ Has 88 [(0, (ptr p0)), (1, .int .i64 a1), (2, .string a2), (7, .int .i64 (IntKind.wrap .i64 (Int.tdiv (a2.size : Int) 512))), (16, .bool x289)] a ∧ Wd w W293 (U291 ++ (F ++ bs)) (os) ∧ q04.At p0  x290 U291) ?_ ?_
 ·
  refine wp_region_lit ?_
  refine sp5 ha 17 (.string a2) 18 (.int .i64 (a2.size : Int)) 19 (.int .i64 (Int.tmod (a2.size : Int) 512)) 20 (.bool ((Int.tmod (a2.size : Int) 512) != 0)) 21 (.bool ((Int.tmod (a2.size : Int) 512) != 0)) ?_; clear ha a; intro a ha
  by_cases hp273 : (Int.tmod (a2.size : Int) 512) = 0
  ·
   replace h := q0b h hp273
   replace ha := ha.bool 21 KR (q2f hp273)
   refine sp4 ha 22 (.int .i64 a1) 23 (.bool (decide (a1 < 0))) 24 (.bool (decide (a1 < 0))) 25 (.bool (decide (a1 < 0))) ?_; clear ha a; intro a ha
   by_cases hp274 : a1 < 0
   ·
    replace h := q0b h hp274
    replace ha := ha.bool 25 KR (decide_eq_true hp274)
    refine stepo ha 26 KR ?_; clear ha a; intro a ha
    refine stepo ha 27 KR ?_; clear ha a; intro a ha
    refine stepo ha 28 KR ?_; clear ha a; intro a ha
    refine stepo ha 29 KR ?_; clear ha a; intro a ha
    refine stepo ha 30 KR ?_; clear ha a; intro a ha
    refine stepo ha 31 KR ?_; clear ha a; intro a ha
    refine stepo ha 32 KR ?_; clear ha a; intro a ha
    refine sp2 ha 33 (.bool true) 34 (.bool true) ?_; clear ha a; intro a ha
    refine stepo ha 35 KR ?_; clear ha a; intro a ha
    refine stepo ha 36 KR ?_; clear ha a; intro a ha
    refine stepo ha 37 KR ?_; clear ha a; intro a ha
    refine stepo ha 38 KR ?_; clear ha a; intro a ha
    refine stepo ha 39 KR ?_; clear ha a; intro a ha
    refine stepo ha 40 KR ?_; clear ha a; intro a ha
    refine stepo ha 41 KR ?_; clear ha a; intro a ha
    refine stepo ha 42 KR ?_; clear ha a; intro a ha
    refine stepo ha 43 KR ?_; clear ha a; intro a ha
    refine sp2 ha 44 (.bool true) 16 (.bool true) ?_; clear ha a; intro a ha
    refine endl ?_
    exact thenN ⟨true, a0, U0, h, ha.sub (q05 KR (q05 KR (q05 KR (q05 KR (q05 KR (q0t _)))))), (HW), hU0⟩
   ·
    replace h := q0c h hp274
    replace ha := ha.bool 25 KR (decide_eq_false hp274)
    refine sp4 ha 26 (.int .i64 a1) 27 ((ptr p0)) 28 ((ptr p0)) 29 ((ptr p0)) ?_; clear ha a; intro a ha
    obtain ⟨A275, c276, A278, c279, A281, c282, HW⟩ := q04.unfold hU0 (HW)
    replace HW : Wd w w1 ((p0, .cells (ar0 A275 a0.f0.length c276 A278 a0.f1.length c279 A281 a0.f2.length c282 a0.f3.f2 a0.f4 a0.f5 a0.f6) 53 (0, 0)) :: F ++ bs) ((rw0 A275 a0.f0 c276) :: (rw0 A278 a0.f1 c279) :: (rw1 A281 a0.f2 c282) :: os) := HW; clear hU0
    refine stepl ha 30 (HW.ca (i := 0) (b := p0) (C := (ar0 A275 a0.f0.length c276 A278 a0.f1.length c279 A281 a0.f2.length c282 a0.f3.f2 a0.f4 a0.f5 a0.f6)) (T := 53) (fr := (0, 0)) KR) 22 0 (.tmp 29) (.slice A275 a0.f0.length c276) rfl KR KR KR ?_; clear ha a; intro a ha
    refine sp4 ha 31 (.int .i64 (a0.f0.length : Int)) 32 (.bool (decide (a1 > (a0.f0.length : Int)))) 33 (.bool (decide (a1 > (a0.f0.length : Int)))) 34 (.bool (decide (a1 > (a0.f0.length : Int)))) ?_; clear ha a; intro a ha
    by_cases hp284 : a1 > (a0.f0.length : Int)
    ·
     replace h := q0b h hp284
     replace ha := ha.bool 34 KR (decide_eq_true hp284)
     refine stepo ha 35 KR ?_; clear ha a; intro a ha
     refine stepo ha 36 KR ?_; clear ha a; intro a ha
     refine stepo ha 37 KR ?_; clear ha a; intro a ha
     refine stepo ha 38 KR ?_; clear ha a; intro a ha
     refine stepo ha 39 KR ?_; clear ha a; intro a ha
     refine stepo ha 40 KR ?_; clear ha a; intro a ha
     refine stepo ha 41 KR ?_; clear ha a; intro a ha
     refine stepo ha 42 KR ?_; clear ha a; intro a ha
     refine stepo ha 43 KR ?_; clear ha a; intro a ha
     refine sp2 ha 44 (.bool true) 16 (.bool true) ?_; clear ha a; intro a ha
     refine endl ?_
     obtain ⟨U285, hU286, HW⟩ := q04.fold (x := (⟨a0.f0, a0.f1, a0.f2, (⟨(), (), a0.f3.f2⟩ : q03), a0.f4, a0.f5, a0.f6⟩ : q04)) (HW)
     replace HW := HW
     replace HW : Wd w w1 (U285 ++ (F ++ bs)) (os) := HW
     exact thenN ⟨true, (⟨a0.f0, a0.f1, a0.f2, (⟨(), (), a0.f3.f2⟩ : q03), a0.f4, a0.f5, a0.f6⟩ : q04), U285, h, ha.sub (q05 KR (q05 KR (q05 KR (q05 KR (q05 KR (q0t _)))))), (HW), hU286⟩
    ·
     replace h := q0c h hp284
     replace ha := ha.bool 34 KR (decide_eq_false hp284)
     refine sp4 ha 35 (.int .i64 (IntKind.wrap .i64 (Int.tdiv (a2.size : Int) 512))) 36 ((ptr p0)) 37 ((ptr p0)) 38 ((ptr p0)) ?_; clear ha a; intro a ha
     refine stepl ha 39 (HW.ca (i := 0) (b := p0) (C := (ar0 A275 a0.f0.length c276 A278 a0.f1.length c279 A281 a0.f2.length c282 a0.f3.f2 a0.f4 a0.f5 a0.f6)) (T := 53) (fr := (0, 0)) KR) 22 0 (.tmp 38) (.slice A275 a0.f0.length c276) rfl KR KR KR ?_; clear ha a; intro a ha
     refine sp6 ha 40 (.int .i64 (a0.f0.length : Int)) 41 (.int .i64 a1) 42 (.int .i64 (IntKind.wrap .i64 ((a0.f0.length : Int) - a1))) 43 (.bool (decide ((IntKind.wrap .i64 (Int.tdiv (a2.size : Int) 512)) > (IntKind.wrap .i64 ((a0.f0.length : Int) - a1))))) 44 (.bool (decide ((IntKind.wrap .i64 (Int.tdiv (a2.size : Int) 512)) > (IntKind.wrap .i64 ((a0.f0.length : Int) - a1))))) 16 (.bool (decide ((IntKind.wrap .i64 (Int.tdiv (a2.size : Int) 512)) > (IntKind.wrap .i64 ((a0.f0.length : Int) - a1))))) ?_; clear ha a; intro a ha
     refine endl ?_
     obtain ⟨U287, hU288, HW⟩ := q04.fold (x := (⟨a0.f0, a0.f1, a0.f2, (⟨(), (), a0.f3.f2⟩ : q03), a0.f4, a0.f5, a0.f6⟩ : q04)) (HW)
     replace HW := HW
     replace HW : Wd w w1 (U287 ++ (F ++ bs)) (os) := HW
     exact thenN ⟨decide ((IntKind.wrap .i64 (Int.tdiv (a2.size : Int) 512)) > (IntKind.wrap .i64 ((a0.f0.length : Int) - a1))), (⟨a0.f0, a0.f1, a0.f2, (⟨(), (), a0.f3.f2⟩ : q03), a0.f4, a0.f5, a0.f6⟩ : q04), U287, h, ha.sub (q05 KR (q05 KR (q05 KR (q05 KR (q05 KR (q0t _)))))), (HW), hU288⟩
  ·
   replace h := q0c h hp273
   replace ha := ha.bool 21 KR (q2e hp273)
   refine stepo ha 22 KR ?_; clear ha a; intro a ha
   refine stepo ha 23 KR ?_; clear ha a; intro a ha
   refine sp2 ha 24 (.bool true) 25 (.bool true) ?_; clear ha a; intro a ha
   refine stepo ha 26 KR ?_; clear ha a; intro a ha
   refine stepo ha 27 KR ?_; clear ha a; intro a ha
   refine stepo ha 28 KR ?_; clear ha a; intro a ha
   refine stepo ha 29 KR ?_; clear ha a; intro a ha
   refine stepo ha 30 KR ?_; clear ha a; intro a ha
   refine stepo ha 31 KR ?_; clear ha a; intro a ha
   refine stepo ha 32 KR ?_; clear ha a; intro a ha
   refine sp2 ha 33 (.bool true) 34 (.bool true) ?_; clear ha a; intro a ha
   refine stepo ha 35 KR ?_; clear ha a; intro a ha
   refine stepo ha 36 KR ?_; clear ha a; intro a ha
   refine stepo ha 37 KR ?_; clear ha a; intro a ha
   refine stepo ha 38 KR ?_; clear ha a; intro a ha
   refine stepo ha 39 KR ?_; clear ha a; intro a ha
   refine stepo ha 40 KR ?_; clear ha a; intro a ha
   refine stepo ha 41 KR ?_; clear ha a; intro a ha
   refine stepo ha 42 KR ?_; clear ha a; intro a ha
   refine stepo ha 43 KR ?_; clear ha a; intro a ha
   refine sp2 ha 44 (.bool true) 16 (.bool true) ?_; clear ha a; intro a ha
   refine endl ?_
   exact thenN ⟨true, a0, U0, h, ha.sub (q05 KR (q05 KR (q05 KR (q05 KR (q05 KR (q0t _)))))), (HW), hU0⟩
 ·
  intro a W293 hJ
  obtain ⟨x289, x290, U291, h, ha, HW, hU292⟩ := hJ
  replace h : q0l.j0 K a1 a2 x289 x290 = some r := h
  unfold q0l.j0 at h
  refine hK272 _ _ ?_; clear hK272
  by_cases hp294 : x289 = true
  ·
   replace h := q0b h hp294
   refine condT ha KR KR (t := x289) (hp294) ?_
   refine wp_seq_k (fun K295 hK296 => ?_)
   refine wp_region_lit ?_
   refine sp1 ha 6 (.int .i64 40) ?_; clear ha a; intro a ha
   refine endl (thenN (hK296 _ _ ?_)); clear hK296
   refine wp_ret ?_
   refine blkR ?_
   refine thenR ?_
   obtain rfl := Option.some.inj h
   exact finv ha _ _ rfl (.tmp (v := .int .i64 40) KR .nil) (.int .i64 40) rfl ⟨U291, rfl, hU292, (HW)⟩
  ·
   replace h := q0c h hp294
   refine condF ha KR KR (t := x289) (q2w hp294) ?_
   refine wp_seq_k (fun K297 hK298 => ?_)
   refine wp_region_lit ?_
   refine sp3 ha 46 ((ptr p0)) 47 ((ptr p0)) 48 (.pointer (some ⟨p0, 6, none⟩)) ?_; clear ha a; intro a ha
   obtain ⟨A299, c300, A302, c303, A305, c306, HW⟩ := q04.unfold hU292 (HW)
   replace HW : Wd w W293 ((p0, .cells (ar0 A299 x290.f0.length c300 A302 x290.f1.length c303 A305 x290.f2.length c306 x290.f3.f2 x290.f4 x290.f5 x290.f6) 53 (0, 0)) :: F ++ bs) ((rw0 A299 x290.f0 c300) :: (rw0 A302 x290.f1 c303) :: (rw1 A305 x290.f2 c306) :: os) := HW; clear hU292
   refine stepl ha 49 (HW.ca (i := 0) (b := p0) (C := (ar0 A299 x290.f0.length c300 A302 x290.f1.length c303 A305 x290.f2.length c306 x290.f3.f2 x290.f4 x290.f5 x290.f6)) (T := 53) (fr := (0, 0)) KR) 4 6 (.tmp 48) (.bool x290.f6) rfl KR KR KR ?_; clear ha a; intro a ha
   refine sp1 ha 45 (.bool x290.f6) ?_; clear ha a; intro a ha
   refine endl (thenN (hK298 _ _ ?_)); clear hK298
   by_cases hp308 : x290.f6 = true
   ·
    replace h := q0b h hp308
    refine condT ha KR KR (t := x290.f6) (hp308) ?_
    refine wp_seq_k (fun K309 hK310 => ?_)
    refine wp_region_lit ?_
    refine sp1 ha 6 (.int .i64 41) ?_; clear ha a; intro a ha
    refine endl (thenN (hK310 _ _ ?_)); clear hK310
    refine wp_ret ?_
    refine blkR ?_
    refine thenR ?_
    obtain ⟨U311, hU312, HW⟩ := q04.fold (x := (⟨x290.f0, x290.f1, x290.f2, (⟨(), (), x290.f3.f2⟩ : q03), x290.f4, x290.f5, x290.f6⟩ : q04)) (HW)
    replace HW := HW
    replace HW : Wd w W293 (U311 ++ (F ++ bs)) (os) := HW
    obtain rfl := Option.some.inj h
    exact finv ha _ _ rfl (.tmp (v := .int .i64 41) KR .nil) (.int .i64 41) rfl ⟨U311, rfl, hU312, (HW)⟩
   ·
    replace h := q0c h hp308
    refine condF ha KR KR (t := x290.f6) (q2w hp308) ?_
    refine wp_skip ?_
    refine blkN ?_
    refine thenN (hK268 _ _ (wp_seq_k fun K313 hK314 => wp_seq_k fun K315 hK316 => wp_region_lit ?_)); clear hK268
    refine sp2 ha 50 (.int .i64 (IntKind.wrap .i64 (Int.tdiv (a2.size : Int) 512))) 51 (.int .i64 0) ?_; clear ha a; intro a ha
    refine endl (thenN (hK316 _ _ ?_)); clear hK316
    refine wp_block ?_
    refine loopk (fun k => fun a W480 => ∃ (x463 : Int), ∃ (x464 : List ByteArray), ∃ A465, ∃ c466, ∃ (x468 : List ByteArray), ∃ A469, ∃ c470, ∃ (x472 : List q01), ∃ A473, ∃ c474, ∃ (x476 : Int), ∃ (x477 : Bool), ∃ (x478 : Int), ∃ (x479 : Bool), q0l.l0 K a1 a2 k x463 x464 x468 x472 x476 x477 x478 x479 = some r ∧ Has 88 [(0, (ptr p0)), (1, .int .i64 a1), (2, .string a2), (50, .int .i64 (IntKind.wrap .i64 (Int.tdiv (a2.size : Int) 512))), (51, .int .i64 x463)] a ∧ Wd w W480 ((p0, .cells (ar0 A465 x464.length c466 A469 x468.length c470 A473 x472.length c474 x476 x477 x478 x479) 53 (0, 0)) :: F ++ bs) ((rw0 A465 x464 c466) :: (rw0 A469 x468 c470) :: (rw1 A473 x472 c474) :: os)) K ?_ ?_
    ·
     exact ⟨0, x290.f0, A299, c300, x290.f1, A302, c303, x290.f2, A305, c306, x290.f3.f2, x290.f4, x290.f5, x290.f6, h, ha.sub (q05 KR (q05 KR (q05 KR (q05 KR (q05 KR (q0t _)))))), (HW)⟩
    ·
     intro k a W480 hI
     obtain ⟨x463, x464, A465, c466, x468, A469, c470, x472, A473, c474, x476, x477, x478, x479, h, ha, HW⟩ := hI
     cases k with
     | zero => exact (q1n (show none = some r from h)).elim
     | succ k481 =>
      replace h : q0l.b0 K a1 a2 (q0l.l0 K a1 a2 k481) x463 x464 x468 x472 x476 x477 x478 x479 = some r := h
      obtain ⟨again462, hag482⟩ : ∃ g_, g_ = q0l.l0 K a1 a2 k481 := ⟨_, rfl⟩
      rw [← hag482] at h
      unfold q0l.b0 at h
      refine wp_seq_k (fun K483 hK484 => ?_)
      refine wp_region_lit ?_
      refine sp1 ha 52 (.bool (decide (x463 < (IntKind.wrap .i64 (Int.tdiv (a2.size : Int) 512))))) ?_; clear ha a; intro a ha
      refine endl (thenN (hK484 _ _ (wp_seq_k fun K485 hK486 => ?_))); clear hK484
      by_cases hp487 : x463 < (IntKind.wrap .i64 (Int.tdiv (a2.size : Int) 512))
      ·
       replace h := q0b h hp487
       refine condT ha KR KR (t := decide (x463 < (IntKind.wrap .i64 (Int.tdiv (a2.size : Int) 512)))) (decide_eq_true hp487) ?_
       refine wp_skip ?_
       refine thenN (hK486 _ _ (wp_seq_k fun K488 hK489 => ?_)); clear hK486
       refine wp_block ?_
       refine wp_seq_k (fun K490 hK491 => ?_)
       refine wp_region_lit ?_
       refine sp2 ha 53 (.int .i64 x463) 8 (.int .i64 x463) ?_; clear ha a; intro a ha
       refine endl (thenN (hK491 _ _ (wp_seq_k fun K492 hK493 => wp_seq_k fun K494 hK495 => wp_region_lit ?_))); clear hK491
       refine sp1 ha 54 ((ptr p0)) ?_; clear ha a; intro a ha
       obtain ⟨U496, hU497, HW⟩ := q04.fold (x := (⟨x464, x468, x472, (⟨(), (), x476⟩ : q03), x477, x478, x479⟩ : q04)) (HW)
       replace HW := HW
       replace HW : Wd w W480 (U496 ++ (F ++ bs)) (os) := HW
       obtain ⟨t498, ht499, h_⟩ := q08 h; replace h := h_; clear h_
       refine stepc ha 55 KR KR (q0z.calls K (⟨x464, x468, x472, (⟨(), (), x476⟩ : q03), x477, x478, x479⟩ : q04) p0 U496 t498 _ _ F bs (os) hU497 (HW) ht499) ?_; clear ha a; rintro e W501 ⟨U500, rfl, hU497n, HX502⟩
       refine ⟨_, rfl, ?_⟩; intro a ha; clear HW
       clear hU497; have hU497 := hU497n; clear hU497n
       have HW : Wd w W501 (U500 ++ (F ++ bs)) (os) := HX502; clear HX502
       refine sp1 ha 56 (.bool (!t498.1)) ?_; clear ha a; intro a ha
       refine endl (thenN (hK495 _ _ ?_)); clear hK495
       by_cases hp505 : t498.1 = true
       ·
        replace h := q0b h hp505
        refine condF ha KR KR (t := (!t498.1)) (not_f (hp505)) ?_
        refine wp_skip ?_
        refine thenN (hK493 _ _ (wp_seq_k fun K508 hK509 => wp_region_lit ?_)); clear hK493
        refine sp6 ha 57 (.int .i64 a1) 58 (.int .i64 x463) 59 (.int .i64 (IntKind.wrap .i64 (a1 + x463))) 60 (.string a2) 61 (.int .i64 x463) 62 (.int .i64 (IntKind.wrap .i64 (x463 * 512))) ?_; clear ha a; intro a ha
        refine sp3 ha 63 (.int .i64 x463) 64 (.int .i64 (IntKind.wrap .i64 (x463 + 1))) 65 (.int .i64 (IntKind.wrap .i64 ((IntKind.wrap .i64 (x463 + 1)) * 512))) ?_; clear ha a; intro a ha
        obtain ⟨hA510, h_⟩ := q0d h; replace h := h_; clear h_
        obtain ⟨hA511, h_⟩ := q0d h; replace h := h_; clear h_
        obtain ⟨hA512, h_⟩ := q0d h; replace h := h_; clear h_
        refine stepss ha 66 9 (.tmp 60) (.tmp 62) (.tmp 65) a2 .i64 .i64 (IntKind.wrap .i64 (x463 * 512)) (IntKind.wrap .i64 ((IntKind.wrap .i64 (x463 + 1)) * 512)) rfl KR KR KR KR hA510 hA511 (show (IntKind.wrap .i64 ((IntKind.wrap .i64 (x463 + 1)) * 512) : Int) ≤ ((a2).size : Int) from hA512) KR ?_; clear ha a; intro a ha
        refine sp1 ha 67 (.agg #[.int .i64 (IntKind.wrap .i64 (a1 + x463)), .string (a2.extract (IntKind.wrap .i64 (x463 * 512) : Int).toNat (IntKind.wrap .i64 ((IntKind.wrap .i64 (x463 + 1)) * 512) : Int).toNat)]) ?_; clear ha a; intro a ha
        refine stepnew ha HW 9 #[.int .i64 0, .string (⟨#[]⟩ : ByteArray)] 62 KR KR ?_; clear ha HW a; intro b513 a W514 HW ha
        refine q26 ha HW 0 (b := b513) (C := #[.int .i64 0, .string (⟨#[]⟩ : ByteArray)]) (T := 62) KR 62 0 (.tmp 9) (.tmp 67) (.agg #[.int .i64 (IntKind.wrap .i64 (a1 + x463)), .string (a2.extract (IntKind.wrap .i64 (x463 * 512) : Int).toNat (IntKind.wrap .i64 ((IntKind.wrap .i64 (x463 + 1)) * 512) : Int).toNat)]) #[.int .i64 (IntKind.wrap .i64 (a1 + x463)), .string (a2.extract (IntKind.wrap .i64 (x463 * 512) : Int).toNat (IntKind.wrap .i64 ((IntKind.wrap .i64 (x463 + 1)) * 512) : Int).toNat)] rfl KR KR KR KR KR KR KR ?_; clear ha HW a; intro a W515 HW ha
        refine endl (thenN (hK509 _ _ (wp_seq_k fun K516 hK517 => ?_))); clear hK509
        obtain ⟨A518, c519, A521, c522, A524, c525, HW⟩ := q04.unfold hU497 (Wd.sg [[(b513, .cells #[.int .i64 (IntKind.wrap .i64 (a1 + x463)), .string (a2.extract (IntKind.wrap .i64 (x463 * 512) : Int).toNat (IntKind.wrap .i64 ((IntKind.wrap .i64 (x463 + 1)) * 512) : Int).toNat)] 62 (0, 0))], U500, F] bs [] os [U500, [(b513, .cells #[.int .i64 (IntKind.wrap .i64 (a1 + x463)), .string (a2.extract (IntKind.wrap .i64 (x463 * 512) : Int).toNat (IntKind.wrap .i64 ((IntKind.wrap .i64 (x463 + 1)) * 512) : Int).toNat)] 62 (0, 0))], F] [] HW [1, 0, 2] [] [] KR KR (by decide) KR)
        replace HW : Wd w W515 ((p0, .cells (ar0 A518 t498.2.f0.length c519 A521 t498.2.f1.length c522 A524 t498.2.f2.length c525 t498.2.f3.f2 t498.2.f4 t498.2.f5 t498.2.f6) 53 (0, 0)) :: (b513, .cells #[.int .i64 (IntKind.wrap .i64 (a1 + x463)), .string (a2.extract (IntKind.wrap .i64 (x463 * 512) : Int).toNat (IntKind.wrap .i64 ((IntKind.wrap .i64 (x463 + 1)) * 512) : Int).toNat)] 62 (0, 0)) :: F ++ bs) ((rw0 A518 t498.2.f0 c519) :: (rw0 A521 t498.2.f1 c522) :: (rw1 A524 t498.2.f2 c525) :: os) := HW; clear hU497
        obtain ⟨hA531, h_⟩ := q0d h; replace h := h_; clear h_
        refine regionE 8 7 KR [.fix ((ptr p0)), .fix ((ptr p0)), .fix ((ptr p0)), .fix (.pointer (some ⟨p0, 2, none⟩)), .fix (.slice A524 t498.2.f2.length c525), .fix (.agg #[.int .i64 (IntKind.wrap .i64 (a1 + x463)), .string (a2.extract (IntKind.wrap .i64 (x463 * 512) : Int).toNat (IntKind.wrap .i64 ((IntKind.wrap .i64 (x463 + 1)) * 512) : Int).toNat)]), .lit w 62 ([(⟨IntKind.wrap .i64 (a1 + x463), a2.extract (IntKind.wrap .i64 (x463 * 512) : Int).toNat (IntKind.wrap .i64 ((IntKind.wrap .i64 (x463 + 1)) * 512) : Int).toNat⟩ : q01)] : List q01).length #[.int .i64 (IntKind.wrap .i64 (a1 + x463)), .string (a2.extract (IntKind.wrap .i64 (x463 * 512) : Int).toNat (IntKind.wrap .i64 ((IntKind.wrap .i64 (x463 + 1)) * 512) : Int).toNat)] ((p0, .cells (ar0 A518 t498.2.f0.length c519 A521 t498.2.f1.length c522 A524 t498.2.f2.length c525 t498.2.f3.f2 t498.2.f4 t498.2.f5 t498.2.f6) 53 (0, 0)) :: (b513, .cells #[.int .i64 (IntKind.wrap .i64 (a1 + x463)), .string (a2.extract (IntKind.wrap .i64 (x463 * 512) : Int).toNat (IntKind.wrap .i64 ((IntKind.wrap .i64 (x463 + 1)) * 512) : Int).toNat)] 62 (0, 0)) :: F ++ bs) ((rw0 A518 t498.2.f0 c519) :: (rw0 A521 t498.2.f1 c522) :: os), (.wd (fun As537 ns538 => .slice (As537.getD 0 none) (t498.2.f2 ++ ([(⟨IntKind.wrap .i64 (a1 + x463), a2.extract (IntKind.wrap .i64 (x463 * 512) : Int).toNat (IntKind.wrap .i64 ((IntKind.wrap .i64 (x463 + 1)) * 512) : Int).toNat⟩ : q01)] : List q01)).length (ns538.getD 0 0)) w (fun As537 ns538 => ((p0, .cells (ar0 A518 t498.2.f0.length c519 A521 t498.2.f1.length c522 A524 t498.2.f2.length c525 t498.2.f3.f2 t498.2.f4 t498.2.f5 t498.2.f6) 53 (0, 0)) :: (b513, .cells #[.int .i64 (IntKind.wrap .i64 (a1 + x463)), .string (a2.extract (IntKind.wrap .i64 (x463 * 512) : Int).toNat (IntKind.wrap .i64 ((IntKind.wrap .i64 (x463 + 1)) * 512) : Int).toNat)] 62 (0, 0)) :: F ++ bs)) (fun As537 ns538 => ((rw0 A518 t498.2.f0 c519) :: (rw0 A521 t498.2.f1 c522) :: ⟨62, 2, .slice (As537.getD 0 none) (t498.2.f2 ++ ([(⟨IntKind.wrap .i64 (a1 + x463), a2.extract (IntKind.wrap .i64 (x463 * 512) : Int).toNat (IntKind.wrap .i64 ((IntKind.wrap .i64 (x463 + 1)) * 512) : Int).toNat⟩ : q01)] : List q01)).length (ns538.getD 0 0), (t498.2.f2 ++ ([(⟨IntKind.wrap .i64 (a1 + x463), a2.extract (IntKind.wrap .i64 (x463 * 512) : Int).toNat (IntKind.wrap .i64 ((IntKind.wrap .i64 (x463 + 1)) * 512) : Int).toNat⟩ : q01)] : List q01)).length, encs q01.enc (t498.2.f2 ++ ([(⟨IntKind.wrap .i64 (a1 + x463), a2.extract (IntKind.wrap .i64 (x463 * 512) : Int).toNat (IntKind.wrap .i64 ((IntKind.wrap .i64 (x463 + 1)) * 512) : Int).toNat⟩ : q01)] : List q01))⟩ :: os)))] [false, false, false, false, false, false, true, false] KR (((p0, .cells (ar0 A518 t498.2.f0.length c519 A521 t498.2.f1.length c522 A524 t498.2.f2.length c525 t498.2.f3.f2 t498.2.f4 t498.2.f5 t498.2.f6) 53 (0, 0)) :: (b513, .cells #[.int .i64 (IntKind.wrap .i64 (a1 + x463)), .string (a2.extract (IntKind.wrap .i64 (x463 * 512) : Int).toNat (IntKind.wrap .i64 ((IntKind.wrap .i64 (x463 + 1)) * 512) : Int).toNat)] 62 (0, 0)) :: F ++ bs), ((rw0 A518 t498.2.f0 c519) :: (rw0 A521 t498.2.f1 c522) :: os)) (((p0, .cells (ar0 A518 t498.2.f0.length c519 A521 t498.2.f1.length c522 A524 t498.2.f2.length c525 t498.2.f3.f2 t498.2.f4 t498.2.f5 t498.2.f6) 53 (0, 0)) :: (b513, .cells #[.int .i64 (IntKind.wrap .i64 (a1 + x463)), .string (a2.extract (IntKind.wrap .i64 (x463 * 512) : Int).toNat (IntKind.wrap .i64 ((IntKind.wrap .i64 (x463 + 1)) * 512) : Int).toNat)] 62 (0, 0)) :: F ++ bs), ((rw0 A518 t498.2.f0 c519) :: (rw0 A521 t498.2.f1 c522) :: (rw1 A524 t498.2.f2 c525) :: os)) ha HW (.wd (fun As537 ns538 => .slice (As537.getD 0 none) (t498.2.f2 ++ ([(⟨IntKind.wrap .i64 (a1 + x463), a2.extract (IntKind.wrap .i64 (x463 * 512) : Int).toNat (IntKind.wrap .i64 ((IntKind.wrap .i64 (x463 + 1)) * 512) : Int).toNat⟩ : q01)] : List q01)).length (ns538.getD 0 0)) w (fun As537 ns538 => ((p0, .cells (ar0 A518 t498.2.f0.length c519 A521 t498.2.f1.length c522 A524 t498.2.f2.length c525 t498.2.f3.f2 t498.2.f4 t498.2.f5 t498.2.f6) 53 (0, 0)) :: (b513, .cells #[.int .i64 (IntKind.wrap .i64 (a1 + x463)), .string (a2.extract (IntKind.wrap .i64 (x463 * 512) : Int).toNat (IntKind.wrap .i64 ((IntKind.wrap .i64 (x463 + 1)) * 512) : Int).toNat)] 62 (0, 0)) :: F ++ bs)) (fun As537 ns538 => ((rw0 A518 t498.2.f0 c519) :: (rw0 A521 t498.2.f1 c522) :: ⟨62, 2, .slice (As537.getD 0 none) (t498.2.f2 ++ ([(⟨IntKind.wrap .i64 (a1 + x463), a2.extract (IntKind.wrap .i64 (x463 * 512) : Int).toNat (IntKind.wrap .i64 ((IntKind.wrap .i64 (x463 + 1)) * 512) : Int).toNat⟩ : q01)] : List q01)).length (ns538.getD 0 0), (t498.2.f2 ++ ([(⟨IntKind.wrap .i64 (a1 + x463), a2.extract (IntKind.wrap .i64 (x463 * 512) : Int).toNat (IntKind.wrap .i64 ((IntKind.wrap .i64 (x463 + 1)) * 512) : Int).toNat⟩ : q01)] : List q01)).length, encs q01.enc (t498.2.f2 ++ ([(⟨IntKind.wrap .i64 (a1 + x463), a2.extract (IntKind.wrap .i64 (x463 * 512) : Int).toNat (IntKind.wrap .i64 ((IntKind.wrap .i64 (x463 + 1)) * 512) : Int).toNat⟩ : q01)] : List q01))⟩ :: os))) KR (fun w_ h_ => (Wd.sg [[(p0, .cells (ar0 A518 t498.2.f0.length c519 A521 t498.2.f1.length c522 A524 t498.2.f2.length c525 t498.2.f3.f2 t498.2.f4 t498.2.f5 t498.2.f6) 53 (0, 0))], [(b513, .cells #[.int .i64 (IntKind.wrap .i64 (a1 + x463)), .string (a2.extract (IntKind.wrap .i64 (x463 * 512) : Int).toNat (IntKind.wrap .i64 ((IntKind.wrap .i64 (x463 + 1)) * 512) : Int).toNat)] 62 (0, 0))], F] bs [(rw0 A518 t498.2.f0 c519), (rw0 A521 t498.2.f1 c522), (rw1 A524 t498.2.f2 c525)] os [[(p0, .cells (ar0 A518 t498.2.f0.length c519 A521 t498.2.f1.length c522 A524 t498.2.f2.length c525 t498.2.f3.f2 t498.2.f4 t498.2.f5 t498.2.f6) 53 (0, 0))], [(b513, .cells #[.int .i64 (IntKind.wrap .i64 (a1 + x463)), .string (a2.extract (IntKind.wrap .i64 (x463 * 512) : Int).toNat (IntKind.wrap .i64 ((IntKind.wrap .i64 (x463 + 1)) * 512) : Int).toNat)] 62 (0, 0))], F] [(rw0 A518 t498.2.f0 c519), (rw0 A521 t498.2.f1 c522)] h_ [0, 1, 2] [] [0, 1] KR KR (by decide) KR)) (fun v_ w_ h_ => by obtain ⟨As537, ns538, _, h_⟩ := h_; exact (Wd.sg [[(p0, .cells (ar0 A518 t498.2.f0.length c519 A521 t498.2.f1.length c522 A524 t498.2.f2.length c525 t498.2.f3.f2 t498.2.f4 t498.2.f5 t498.2.f6) 53 (0, 0))], [(b513, .cells #[.int .i64 (IntKind.wrap .i64 (a1 + x463)), .string (a2.extract (IntKind.wrap .i64 (x463 * 512) : Int).toNat (IntKind.wrap .i64 ((IntKind.wrap .i64 (x463 + 1)) * 512) : Int).toNat)] 62 (0, 0))], F] bs [(rw0 A518 t498.2.f0 c519), (rw0 A521 t498.2.f1 c522), ⟨62, 2, .slice (As537.getD 0 none) (t498.2.f2 ++ ([(⟨IntKind.wrap .i64 (a1 + x463), a2.extract (IntKind.wrap .i64 (x463 * 512) : Int).toNat (IntKind.wrap .i64 ((IntKind.wrap .i64 (x463 + 1)) * 512) : Int).toNat⟩ : q01)] : List q01)).length (ns538.getD 0 0), (t498.2.f2 ++ ([(⟨IntKind.wrap .i64 (a1 + x463), a2.extract (IntKind.wrap .i64 (x463 * 512) : Int).toNat (IntKind.wrap .i64 ((IntKind.wrap .i64 (x463 + 1)) * 512) : Int).toNat⟩ : q01)] : List q01)).length, encs q01.enc (t498.2.f2 ++ ([(⟨IntKind.wrap .i64 (a1 + x463), a2.extract (IntKind.wrap .i64 (x463 * 512) : Int).toNat (IntKind.wrap .i64 ((IntKind.wrap .i64 (x463 + 1)) * 512) : Int).toNat⟩ : q01)] : List q01))⟩] os [[(p0, .cells (ar0 A518 t498.2.f0.length c519 A521 t498.2.f1.length c522 A524 t498.2.f2.length c525 t498.2.f3.f2 t498.2.f4 t498.2.f5 t498.2.f6) 53 (0, 0))], [(b513, .cells #[.int .i64 (IntKind.wrap .i64 (a1 + x463)), .string (a2.extract (IntKind.wrap .i64 (x463 * 512) : Int).toNat (IntKind.wrap .i64 ((IntKind.wrap .i64 (x463 + 1)) * 512) : Int).toNat)] 62 (0, 0))], F] [(rw0 A518 t498.2.f0 c519), (rw0 A521 t498.2.f1 c522)] h_ [0, 1, 2] [] [0, 1] KR KR (by decide) KR)) KR ?_ ?_
        ·
         refine ⟨?_, ?_, ?_, ?_, ?_, ?_, ?_, ?_, trivial⟩
         ·
          show OpOkX _ _ _ _ _ _ _ _ _ _
          intro a wr hn hd HW hs; have ha := q0a hn hd
          have ha := ha.add (seeE hs 0 ((ptr p0)) KR KR)
          refine yStep ha 68 KR ?_; intro l_ ha HK
          refine stepp ha 68 ((ptr p0)) KR KR ?_; intro ax hax; exact HK _ _ _ hax rfl (Below.refl _ _)
         ·
          show OpOkX _ _ _ _ _ _ _ _ _ _
          intro a wr hn hd HW hs; have ha := q0a hn hd
          have ha := ha.add (seeE hs 0 ((ptr p0)) KR KR)
          refine yStep ha 69 KR ?_; intro l_ ha HK
          refine stepp ha 69 ((ptr p0)) KR KR ?_; intro ax hax; exact HK _ _ _ hax rfl (Below.refl _ _)
         ·
          show OpOkX _ _ _ _ _ _ _ _ _ _
          intro a wr hn hd HW hs; have ha := q0a hn hd
          have ha := ha.add (seeF hs 69 1 ((ptr p0)) KR KR)
          refine yStep ha 70 KR ?_; intro l_ ha HK
          refine stepp ha 70 ((ptr p0)) KR KR ?_; intro ax hax; exact HK _ _ _ hax rfl (Below.refl _ _)
         ·
          show OpOkX _ _ _ _ _ _ _ _ _ _
          intro a wr hn hd HW hs; have ha := q0a hn hd
          have ha := ha.add (seeF hs 70 2 ((ptr p0)) KR KR)
          refine yStep ha 71 KR ?_; intro l_ ha HK
          refine stepp ha 71 (.pointer (some ⟨p0, 2, none⟩)) KR KR ?_; intro ax hax; exact HK _ _ _ hax rfl (Below.refl _ _)
         ·
          show OpOkX _ _ _ _ _ _ _ _ _ _
          intro a wr hn hd HW hs; have ha := q0a hn hd
          have ha := ha.add (seeF hs 71 3 (.pointer (some ⟨p0, 2, none⟩)) KR KR)
          refine yStep ha 72 KR ?_; intro l_ ha HK
          refine stepl ha 72 (HW.ca (i := 0) (b := p0) (C := (ar0 A518 t498.2.f0.length c519 A521 t498.2.f1.length c522 A524 t498.2.f2.length c525 t498.2.f3.f2 t498.2.f4 t498.2.f5 t498.2.f6)) (T := 53) (fr := (0, 0)) KR) 46 2 (.tmp 71) (.slice A524 t498.2.f2.length c525) rfl KR KR KR ?_; intro ax hax; exact HK _ _ _ hax rfl (Below.refl _ _)
         ·
          show OpOkX _ _ _ _ _ _ _ _ _ _
          intro a wr hn hd HW hs; have ha := q0a hn hd
          have ha := ha.add (seeE hs 9 ((ptr b513)) KR KR)
          refine yStep ha 73 KR ?_; intro l_ ha HK
          refine stepl ha 73 (HW.ca (i := 1) (b := b513) (C := #[.int .i64 (IntKind.wrap .i64 (a1 + x463)), .string (a2.extract (IntKind.wrap .i64 (x463 * 512) : Int).toNat (IntKind.wrap .i64 ((IntKind.wrap .i64 (x463 + 1)) * 512) : Int).toNat)]) (T := 62) (fr := (0, 0)) KR) 62 0 (.tmp 9) (.agg #[.int .i64 (IntKind.wrap .i64 (a1 + x463)), .string (a2.extract (IntKind.wrap .i64 (x463 * 512) : Int).toNat (IntKind.wrap .i64 ((IntKind.wrap .i64 (x463 + 1)) * 512) : Int).toNat)]) rfl KR KR KR ?_; intro ax hax; exact HK _ _ _ hax rfl (Below.refl _ _)
         ·
          show OpOkX _ _ _ _ _ _ _ _ _ _
          intro a wr hn hd HW hs; have ha := q0a hn hd
          have ha := ha.add (seeF hs 73 5 (.agg #[.int .i64 (IntKind.wrap .i64 (a1 + x463)), .string (a2.extract (IntKind.wrap .i64 (x463 * 512) : Int).toNat (IntKind.wrap .i64 ((IntKind.wrap .i64 (x463 + 1)) * 512) : Int).toNat)]) KR KR)
          refine yStep ha 74 KR ?_; intro l_ ha HK
          refine stepbk ha (Wd.refl wr) 74 62 1 #[.int .i64 (IntKind.wrap .i64 (a1 + x463)), .string (a2.extract (IntKind.wrap .i64 (x463 * 512) : Int).toNat (IntKind.wrap .i64 ((IntKind.wrap .i64 (x463 + 1)) * 512) : Int).toNat)] KR KR ?_; intro b527 ax W528 HV hax
          exact HK _ _ _ hax ⟨b527, rfl, HW.callw HV⟩ HV.below
         ·
          show EffOkX _ _ _ _ _ _ _ _ _
          intro a wr hn hd HW hs; have ha := q0a hn hd
          have ha := ha.add (seeF hs 72 4 (.slice A524 t498.2.f2.length c525) KR KR)
          obtain ⟨b527, he_, hR530⟩ := seeL (enc := q01.enc) hs 74 6 2 62 #[.int .i64 (IntKind.wrap .i64 (a1 + x463)), .string (a2.extract (IntKind.wrap .i64 (x463 * 512) : Int).toNat (IntKind.wrap .i64 ((IntKind.wrap .i64 (x463 + 1)) * 512) : Int).toNat)] ([(⟨IntKind.wrap .i64 (a1 + x463), a2.extract (IntKind.wrap .i64 (x463 * 512) : Int).toNat (IntKind.wrap .i64 ((IntKind.wrap .i64 (x463 + 1)) * 512) : Int).toNat⟩ : q01)] : List q01) (w1 := w) (bs1 := ((p0, .cells (ar0 A518 t498.2.f0.length c519 A521 t498.2.f1.length c522 A524 t498.2.f2.length c525 t498.2.f3.f2 t498.2.f4 t498.2.f5 t498.2.f6) 53 (0, 0)) :: (b513, .cells #[.int .i64 (IntKind.wrap .i64 (a1 + x463)), .string (a2.extract (IntKind.wrap .i64 (x463 * 512) : Int).toNat (IntKind.wrap .i64 ((IntKind.wrap .i64 (x463 + 1)) * 512) : Int).toNat)] 62 (0, 0)) :: F ++ bs)) (os1 := ((rw0 A518 t498.2.f0 c519) :: (rw0 A521 t498.2.f1 c522) :: os)) KR KR (fun _ => rfl) rfl; have ha := ha.add he_
          refine yStepA ha 75 KR ?_; intro l_ ha HK
          refine stepape q01.enc ha HW 75 2 46 62 (.tmp 72) (.tmp 74) (.agg #[.int .i64 0, .string (⟨#[]⟩ : ByteArray)]) 2 24 (.slice A524 t498.2.f2.length c525) t498.2.f2 (.slice (some ⟨b527, 0, none⟩) ([(⟨IntKind.wrap .i64 (a1 + x463), a2.extract (IntKind.wrap .i64 (x463 * 512) : Int).toNat (IntKind.wrap .i64 ((IntKind.wrap .i64 (x463 + 1)) * 512) : Int).toNat⟩ : q01)] : List q01).length (([(⟨IntKind.wrap .i64 (a1 + x463), a2.extract (IntKind.wrap .i64 (x463 * 512) : Int).toNat (IntKind.wrap .i64 ((IntKind.wrap .i64 (x463 + 1)) * 512) : Int).toNat⟩ : q01)] : List q01).length)) ([(⟨IntKind.wrap .i64 (a1 + x463), a2.extract (IntKind.wrap .i64 (x463 * 512) : Int).toNat (IntKind.wrap .i64 ((IntKind.wrap .i64 (x463 + 1)) * 512) : Int).toNat⟩ : q01)] : List q01) KR rfl KR KR hR530 (fun _ => rfl) KR KR KR (by decide) (by have := hA531; unfold maxLen; omega) (by have := hA531; omega) KR ?_; intro A532 c533 ax wx HV hax; exact HK _ _ _ hax ⟨[A532], [c533], rfl, HV⟩
        ·
         intro a W539 ha hE_ he hf
         clear HW; obtain ⟨_, he_, As537, ns538, rfl, HW⟩ := gotK (m := 8) (j := 7) (d := 75) (f := .wd (fun As537 ns538 => .slice (As537.getD 0 none) (t498.2.f2 ++ ([(⟨IntKind.wrap .i64 (a1 + x463), a2.extract (IntKind.wrap .i64 (x463 * 512) : Int).toNat (IntKind.wrap .i64 ((IntKind.wrap .i64 (x463 + 1)) * 512) : Int).toNat⟩ : q01)] : List q01)).length (ns538.getD 0 0)) w (fun As537 ns538 => ((p0, .cells (ar0 A518 t498.2.f0.length c519 A521 t498.2.f1.length c522 A524 t498.2.f2.length c525 t498.2.f3.f2 t498.2.f4 t498.2.f5 t498.2.f6) 53 (0, 0)) :: (b513, .cells #[.int .i64 (IntKind.wrap .i64 (a1 + x463)), .string (a2.extract (IntKind.wrap .i64 (x463 * 512) : Int).toNat (IntKind.wrap .i64 ((IntKind.wrap .i64 (x463 + 1)) * 512) : Int).toNat)] 62 (0, 0)) :: F ++ bs)) (fun As537 ns538 => ((rw0 A518 t498.2.f0 c519) :: (rw0 A521 t498.2.f1 c522) :: ⟨62, 2, .slice (As537.getD 0 none) (t498.2.f2 ++ ([(⟨IntKind.wrap .i64 (a1 + x463), a2.extract (IntKind.wrap .i64 (x463 * 512) : Int).toNat (IntKind.wrap .i64 ((IntKind.wrap .i64 (x463 + 1)) * 512) : Int).toNat⟩ : q01)] : List q01)).length (ns538.getD 0 0), (t498.2.f2 ++ ([(⟨IntKind.wrap .i64 (a1 + x463), a2.extract (IntKind.wrap .i64 (x463 * 512) : Int).toNat (IntKind.wrap .i64 ((IntKind.wrap .i64 (x463 + 1)) * 512) : Int).toNat⟩ : q01)] : List q01)).length, encs q01.enc (t498.2.f2 ++ ([(⟨IntKind.wrap .i64 (a1 + x463), a2.extract (IntKind.wrap .i64 (x463 * 512) : Int).toNat (IntKind.wrap .i64 ((IntKind.wrap .i64 (x463 + 1)) * 512) : Int).toNat⟩ : q01)] : List q01))⟩ :: os))) hf KR KR KR; replace ha := ha.add he_; clear he_
         replace HW : Wd w W539 ((p0, .cells (ar0 A518 t498.2.f0.length c519 A521 t498.2.f1.length c522 A524 t498.2.f2.length c525 t498.2.f3.f2 t498.2.f4 t498.2.f5 t498.2.f6) 53 (0, 0)) :: (b513, .cells #[.int .i64 (IntKind.wrap .i64 (a1 + x463)), .string (a2.extract (IntKind.wrap .i64 (x463 * 512) : Int).toNat (IntKind.wrap .i64 ((IntKind.wrap .i64 (x463 + 1)) * 512) : Int).toNat)] 62 (0, 0)) :: F ++ bs) ((rw0 A518 t498.2.f0 c519) :: (rw0 A521 t498.2.f1 c522) :: ⟨62, 2, .slice (As537.getD 0 none) (t498.2.f2 ++ ([(⟨IntKind.wrap .i64 (a1 + x463), a2.extract (IntKind.wrap .i64 (x463 * 512) : Int).toNat (IntKind.wrap .i64 ((IntKind.wrap .i64 (x463 + 1)) * 512) : Int).toNat⟩ : q01)] : List q01)).length (ns538.getD 0 0), (t498.2.f2 ++ ([(⟨IntKind.wrap .i64 (a1 + x463), a2.extract (IntKind.wrap .i64 (x463 * 512) : Int).toNat (IntKind.wrap .i64 ((IntKind.wrap .i64 (x463 + 1)) * 512) : Int).toNat⟩ : q01)] : List q01)).length, encs q01.enc (t498.2.f2 ++ ([(⟨IntKind.wrap .i64 (a1 + x463), a2.extract (IntKind.wrap .i64 (x463 * 512) : Int).toNat (IntKind.wrap .i64 ((IntKind.wrap .i64 (x463 + 1)) * 512) : Int).toNat⟩ : q01)] : List q01))⟩ :: os) := HW
         replace ha := ha.add (he 0 ((ptr p0)) KR KR)
         replace ha := ha.add (he 1 (.int .i64 a1) KR KR)
         replace ha := ha.add (he 2 (.string a2) KR KR)
         replace ha := ha.add (he 9 ((ptr b513)) KR KR)
         replace ha := ha.add (he 50 (.int .i64 (IntKind.wrap .i64 (Int.tdiv (a2.size : Int) 512))) KR KR)
         replace ha := ha.add (he 51 (.int .i64 x463) KR KR)
         replace ha := ha.add (gotF (m := 8) (j := 0) (d := 68) (v := (ptr p0)) hf KR KR KR)
         clear he hf
         refine sp2 ha 76 ((ptr p0)) 77 (.pointer (some ⟨p0, 2, none⟩)) ?_; clear ha a; intro a ha
         refine q26 ha HW 0 (b := p0) (C := (ar0 A518 t498.2.f0.length c519 A521 t498.2.f1.length c522 A524 t498.2.f2.length c525 t498.2.f3.f2 t498.2.f4 t498.2.f5 t498.2.f6)) (T := 53) KR 46 2 (.tmp 77) (.tmp 75) (.slice (As537.getD 0 none) (t498.2.f2 ++ ([(⟨IntKind.wrap .i64 (a1 + x463), a2.extract (IntKind.wrap .i64 (x463 * 512) : Int).toNat (IntKind.wrap .i64 ((IntKind.wrap .i64 (x463 + 1)) * 512) : Int).toNat⟩ : q01)] : List q01)).length (ns538.getD 0 0)) #[.slice A518 t498.2.f0.length c519, .slice A521 t498.2.f1.length c522, .slice (As537.getD 0 none) (t498.2.f2 ++ ([(⟨IntKind.wrap .i64 (a1 + x463), a2.extract (IntKind.wrap .i64 (x463 * 512) : Int).toNat (IntKind.wrap .i64 ((IntKind.wrap .i64 (x463 + 1)) * 512) : Int).toNat⟩ : q01)] : List q01)).length (ns538.getD 0 0), .int .i64 t498.2.f3.f2, .bool t498.2.f4, .int .i64 t498.2.f5, .bool t498.2.f6] rfl KR KR KR KR KR KR KR ?_; clear ha HW a; intro a W540 HW ha
         refine endl (thenN (hK517 _ _ ?_)); clear hK517
         refine q2z 8 KR KR ha HW [.fix ((ptr p0)), .fix ((ptr p0)), .fix (.pointer (some ⟨p0, 1, none⟩)), .fix (.slice A521 t498.2.f1.length c522), .fix ((ptr b513)), .fix (.int .i64 (IntKind.wrap .i64 (a1 + x463))), .fix (.pointer (some ⟨b513, 1, none⟩)), .fix (.string (a2.extract (IntKind.wrap .i64 (x463 * 512) : Int).toNat (IntKind.wrap .i64 ((IntKind.wrap .i64 (x463 + 1)) * 512) : Int).toNat))] ?_ ?_
         ·
          refine ⟨?_, ?_, ?_, ?_, ?_, ?_, ?_, ?_, trivial⟩
          ·
           intro a wr hn hd HW hs; have ha := q0a hn hd
           have ha := ha.add (seeE hs 0 ((ptr p0)) KR KR)
           refine yStep ha 78 KR ?_; intro l_ ha HK
           refine stepp ha 78 ((ptr p0)) KR KR ?_; intro ax hax; exact HK _ _ _ hax rfl (Below.refl _ _)
          ·
           intro a wr hn hd HW hs; have ha := q0a hn hd
           have ha := ha.add (seeF hs 78 0 ((ptr p0)) KR KR)
           refine yStep ha 79 KR ?_; intro l_ ha HK
           refine stepp ha 79 ((ptr p0)) KR KR ?_; intro ax hax; exact HK _ _ _ hax rfl (Below.refl _ _)
          ·
           intro a wr hn hd HW hs; have ha := q0a hn hd
           have ha := ha.add (seeF hs 79 1 ((ptr p0)) KR KR)
           refine yStep ha 80 KR ?_; intro l_ ha HK
           refine stepp ha 80 (.pointer (some ⟨p0, 1, none⟩)) KR KR ?_; intro ax hax; exact HK _ _ _ hax rfl (Below.refl _ _)
          ·
           intro a wr hn hd HW hs; have ha := q0a hn hd
           have ha := ha.add (seeF hs 80 2 (.pointer (some ⟨p0, 1, none⟩)) KR KR)
           refine yStep ha 81 KR ?_; intro l_ ha HK
           refine stepl ha 81 (HW.ca (i := 0) (b := p0) (C := #[.slice A518 t498.2.f0.length c519, .slice A521 t498.2.f1.length c522, .slice (As537.getD 0 none) (t498.2.f2 ++ ([(⟨IntKind.wrap .i64 (a1 + x463), a2.extract (IntKind.wrap .i64 (x463 * 512) : Int).toNat (IntKind.wrap .i64 ((IntKind.wrap .i64 (x463 + 1)) * 512) : Int).toNat⟩ : q01)] : List q01)).length (ns538.getD 0 0), .int .i64 t498.2.f3.f2, .bool t498.2.f4, .int .i64 t498.2.f5, .bool t498.2.f6]) (T := 53) (fr := (0, 0)) KR) 22 1 (.tmp 80) (.slice A521 t498.2.f1.length c522) rfl KR KR KR ?_; intro ax hax; exact HK _ _ _ hax rfl (Below.refl _ _)
          ·
           intro a wr hn hd HW hs; have ha := q0a hn hd
           have ha := ha.add (seeE hs 9 ((ptr b513)) KR KR)
           refine yStep ha 82 KR ?_; intro l_ ha HK
           refine stepp ha 82 ((ptr b513)) KR KR ?_; intro ax hax; exact HK _ _ _ hax rfl (Below.refl _ _)
          ·
           intro a wr hn hd HW hs; have ha := q0a hn hd
           have ha := ha.add (seeF hs 82 4 ((ptr b513)) KR KR)
           refine yStep ha 83 KR ?_; intro l_ ha HK
           refine stepl ha 83 (HW.ca (i := 1) (b := b513) (C := #[.int .i64 (IntKind.wrap .i64 (a1 + x463)), .string (a2.extract (IntKind.wrap .i64 (x463 * 512) : Int).toNat (IntKind.wrap .i64 ((IntKind.wrap .i64 (x463 + 1)) * 512) : Int).toNat)]) (T := 62) (fr := (0, 0)) KR) 3 0 (.tmp 82) (.int .i64 (IntKind.wrap .i64 (a1 + x463))) rfl KR KR KR ?_; intro ax hax; exact HK _ _ _ hax rfl (Below.refl _ _)
          ·
           intro a wr hn hd HW hs; have ha := q0a hn hd
           have ha := ha.add (seeE hs 9 ((ptr b513)) KR KR)
           refine yStep ha 84 KR ?_; intro l_ ha HK
           refine stepp ha 84 (.pointer (some ⟨b513, 1, none⟩)) KR KR ?_; intro ax hax; exact HK _ _ _ hax rfl (Below.refl _ _)
          ·
           intro a wr hn hd HW hs; have ha := q0a hn hd
           have ha := ha.add (seeF hs 84 6 (.pointer (some ⟨b513, 1, none⟩)) KR KR)
           refine yStep ha 85 KR ?_; intro l_ ha HK
           refine stepl ha 85 (HW.ca (i := 1) (b := b513) (C := #[.int .i64 (IntKind.wrap .i64 (a1 + x463)), .string (a2.extract (IntKind.wrap .i64 (x463 * 512) : Int).toNat (IntKind.wrap .i64 ((IntKind.wrap .i64 (x463 + 1)) * 512) : Int).toNat)]) (T := 62) (fr := (0, 0)) KR) 9 1 (.tmp 84) (.string (a2.extract (IntKind.wrap .i64 (x463 * 512) : Int).toNat (IntKind.wrap .i64 ((IntKind.wrap .i64 (x463 + 1)) * 512) : Int).toNat)) rfl KR KR KR ?_; intro ax hax; exact HK _ _ _ hax rfl (Below.refl _ _)
         ·
          intro a W541 ha HW he hf
          replace ha := ha.add (he 0 ((ptr p0)) KR KR)
          replace ha := ha.add (he 1 (.int .i64 a1) KR KR)
          replace ha := ha.add (he 2 (.string a2) KR KR)
          replace ha := ha.add (he 50 (.int .i64 (IntKind.wrap .i64 (Int.tdiv (a2.size : Int) 512))) KR KR)
          replace ha := ha.add (he 51 (.int .i64 x463) KR KR)
          replace ha := ha.add (gotF (m := 8) (j := 3) (d := 81) (v := .slice A521 t498.2.f1.length c522) hf KR KR KR)
          replace ha := ha.add (gotF (m := 8) (j := 5) (d := 83) (v := .int .i64 (IntKind.wrap .i64 (a1 + x463))) hf KR KR KR)
          replace ha := ha.add (gotF (m := 8) (j := 7) (d := 85) (v := .string (a2.extract (IntKind.wrap .i64 (x463 * 512) : Int).toNat (IntKind.wrap .i64 ((IntKind.wrap .i64 (x463 + 1)) * 512) : Int).toNat)) hf KR KR KR)
          clear he hf
          obtain ⟨hA542, h_⟩ := q0d h; replace h := h_; clear h_
          obtain ⟨hA543, h_⟩ := q0d h; replace h := h_; clear h_
          refine stepio encS ha HW 86 1 (sz := 1) (e := 9) (v := .slice A521 t498.2.f1.length c522) (xs := t498.2.f1) KR 22 (.tmp 81) (.tmp 83) .i64 (IntKind.wrap .i64 (a1 + x463)) rfl KR KR KR KR hA542 (show (IntKind.wrap .i64 (a1 + x463) : Int) < ((t498.2.f1).length : Int) from hA543) KR ?_; clear ha a; intro b544 a hb545 ha
          refine stepos encS (⟨#[]⟩ : ByteArray) ha HW 1 (sz := 1) (e := 9) (fun _ => rfl) (v := .slice A521 t498.2.f1.length c522) (xs := t498.2.f1) KR hb545 (IntKind.wrap .i64 (a1 + x463)) hA542 (show (IntKind.wrap .i64 (a1 + x463) : Int) < ((t498.2.f1).length : Int) from hA543) 9 0 (.tmp 86) (.tmp 85) (.string (a2.extract (IntKind.wrap .i64 (x463 * 512) : Int).toNat (IntKind.wrap .i64 ((IntKind.wrap .i64 (x463 + 1)) * 512) : Int).toNat)) (a2.extract (IntKind.wrap .i64 (x463 * 512) : Int).toNat (IntKind.wrap .i64 ((IntKind.wrap .i64 (x463 + 1)) * 512) : Int).toNat) rfl KR KR KR KR KR KR KR (.slice A521 (t498.2.f1.set (IntKind.wrap .i64 (a1 + x463) : Int).toNat (a2.extract (IntKind.wrap .i64 (x463 * 512) : Int).toNat (IntKind.wrap .i64 ((IntKind.wrap .i64 (x463 + 1)) * 512) : Int).toNat)).length c522) (by rw [List.length_set]) ?_; clear ha HW a; intro a W546 HW ha
          replace ha := ha.turn 81 (v := .slice A521 (t498.2.f1.set (IntKind.wrap .i64 (a1 + x463) : Int).toNat (a2.extract (IntKind.wrap .i64 (x463 * 512) : Int).toNat (IntKind.wrap .i64 ((IntKind.wrap .i64 (x463 + 1)) * 512) : Int).toNat)).length c522) KR (by rw [List.length_set])
          replace HW : Wd w W546 ((p0, .cells #[.slice A518 t498.2.f0.length c519, .slice A521 (t498.2.f1.set (IntKind.wrap .i64 (a1 + x463) : Int).toNat (a2.extract (IntKind.wrap .i64 (x463 * 512) : Int).toNat (IntKind.wrap .i64 ((IntKind.wrap .i64 (x463 + 1)) * 512) : Int).toNat)).length c522, .slice (As537.getD 0 none) (t498.2.f2 ++ ([(⟨IntKind.wrap .i64 (a1 + x463), a2.extract (IntKind.wrap .i64 (x463 * 512) : Int).toNat (IntKind.wrap .i64 ((IntKind.wrap .i64 (x463 + 1)) * 512) : Int).toNat⟩ : q01)] : List q01)).length (ns538.getD 0 0), .int .i64 t498.2.f3.f2, .bool t498.2.f4, .int .i64 t498.2.f5, .bool t498.2.f6] 53 (0, 0)) :: (b513, .cells #[.int .i64 (IntKind.wrap .i64 (a1 + x463)), .string (a2.extract (IntKind.wrap .i64 (x463 * 512) : Int).toNat (IntKind.wrap .i64 ((IntKind.wrap .i64 (x463 + 1)) * 512) : Int).toNat)] 62 (0, 0)) :: F ++ bs) ((rw0 A518 t498.2.f0 c519) :: ⟨9, 1, .slice A521 (t498.2.f1.set (IntKind.wrap .i64 (a1 + x463) : Int).toNat (a2.extract (IntKind.wrap .i64 (x463 * 512) : Int).toNat (IntKind.wrap .i64 ((IntKind.wrap .i64 (x463 + 1)) * 512) : Int).toNat)).length c522, (t498.2.f1.set (IntKind.wrap .i64 (a1 + x463) : Int).toNat (a2.extract (IntKind.wrap .i64 (x463 * 512) : Int).toNat (IntKind.wrap .i64 ((IntKind.wrap .i64 (x463 + 1)) * 512) : Int).toNat)).length, encs encS (t498.2.f1.set (IntKind.wrap .i64 (a1 + x463) : Int).toNat (a2.extract (IntKind.wrap .i64 (x463 * 512) : Int).toNat (IntKind.wrap .i64 ((IntKind.wrap .i64 (x463 + 1)) * 512) : Int).toNat))⟩ :: ⟨62, 2, .slice (As537.getD 0 none) (t498.2.f2 ++ ([(⟨IntKind.wrap .i64 (a1 + x463), a2.extract (IntKind.wrap .i64 (x463 * 512) : Int).toNat (IntKind.wrap .i64 ((IntKind.wrap .i64 (x463 + 1)) * 512) : Int).toNat⟩ : q01)] : List q01)).length (ns538.getD 0 0), (t498.2.f2 ++ ([(⟨IntKind.wrap .i64 (a1 + x463), a2.extract (IntKind.wrap .i64 (x463 * 512) : Int).toNat (IntKind.wrap .i64 ((IntKind.wrap .i64 (x463 + 1)) * 512) : Int).toNat⟩ : q01)] : List q01)).length, encs q01.enc (t498.2.f2 ++ ([(⟨IntKind.wrap .i64 (a1 + x463), a2.extract (IntKind.wrap .i64 (x463 * 512) : Int).toNat (IntKind.wrap .i64 ((IntKind.wrap .i64 (x463 + 1)) * 512) : Int).toNat⟩ : q01)] : List q01))⟩ :: os) := by simp only [List.length_set] at HW ⊢; exact HW
          refine endl ?_
          refine blkN ?_
          refine thenN (hK489 _ _ (wp_region_lit ?_)); clear hK489
          refine sp2 ha 87 (.int .i64 (IntKind.wrap .i64 (x463 + 1))) 51 (.int .i64 (IntKind.wrap .i64 (x463 + 1))) ?_; clear ha a; intro a ha
          refine endl ?_
          exact thenN ⟨k481, Nat.lt_succ_self k481, IntKind.wrap .i64 (x463 + 1), t498.2.f0, A518, c519, t498.2.f1.set (IntKind.wrap .i64 (a1 + x463) : Int).toNat (a2.extract (IntKind.wrap .i64 (x463 * 512) : Int).toNat (IntKind.wrap .i64 ((IntKind.wrap .i64 (x463 + 1)) * 512) : Int).toNat), A521, c522, t498.2.f2 ++ ([(⟨IntKind.wrap .i64 (a1 + x463), a2.extract (IntKind.wrap .i64 (x463 * 512) : Int).toNat (IntKind.wrap .i64 ((IntKind.wrap .i64 (x463 + 1)) * 512) : Int).toNat⟩ : q01)] : List q01), (As537.getD 0 none), (ns538.getD 0 0), t498.2.f3.f2, t498.2.f4, t498.2.f5, t498.2.f6, (by rw [← hag482]; exact h), ha.sub (q05 KR (q05 KR (q05 KR (q05 KR (q05 KR (q0t _)))))), (Wd.sg [[(p0, .cells #[.slice A518 t498.2.f0.length c519, .slice A521 (t498.2.f1.set (IntKind.wrap .i64 (a1 + x463) : Int).toNat (a2.extract (IntKind.wrap .i64 (x463 * 512) : Int).toNat (IntKind.wrap .i64 ((IntKind.wrap .i64 (x463 + 1)) * 512) : Int).toNat)).length c522, .slice (As537.getD 0 none) (t498.2.f2 ++ ([(⟨IntKind.wrap .i64 (a1 + x463), a2.extract (IntKind.wrap .i64 (x463 * 512) : Int).toNat (IntKind.wrap .i64 ((IntKind.wrap .i64 (x463 + 1)) * 512) : Int).toNat⟩ : q01)] : List q01)).length (ns538.getD 0 0), .int .i64 t498.2.f3.f2, .bool t498.2.f4, .int .i64 t498.2.f5, .bool t498.2.f6] 53 (0, 0))], [(b513, .cells #[.int .i64 (IntKind.wrap .i64 (a1 + x463)), .string (a2.extract (IntKind.wrap .i64 (x463 * 512) : Int).toNat (IntKind.wrap .i64 ((IntKind.wrap .i64 (x463 + 1)) * 512) : Int).toNat)] 62 (0, 0))], F] bs [(rw0 A518 t498.2.f0 c519), ⟨9, 1, .slice A521 (t498.2.f1.set (IntKind.wrap .i64 (a1 + x463) : Int).toNat (a2.extract (IntKind.wrap .i64 (x463 * 512) : Int).toNat (IntKind.wrap .i64 ((IntKind.wrap .i64 (x463 + 1)) * 512) : Int).toNat)).length c522, (t498.2.f1.set (IntKind.wrap .i64 (a1 + x463) : Int).toNat (a2.extract (IntKind.wrap .i64 (x463 * 512) : Int).toNat (IntKind.wrap .i64 ((IntKind.wrap .i64 (x463 + 1)) * 512) : Int).toNat)).length, encs encS (t498.2.f1.set (IntKind.wrap .i64 (a1 + x463) : Int).toNat (a2.extract (IntKind.wrap .i64 (x463 * 512) : Int).toNat (IntKind.wrap .i64 ((IntKind.wrap .i64 (x463 + 1)) * 512) : Int).toNat))⟩, ⟨62, 2, .slice (As537.getD 0 none) (t498.2.f2 ++ ([(⟨IntKind.wrap .i64 (a1 + x463), a2.extract (IntKind.wrap .i64 (x463 * 512) : Int).toNat (IntKind.wrap .i64 ((IntKind.wrap .i64 (x463 + 1)) * 512) : Int).toNat⟩ : q01)] : List q01)).length (ns538.getD 0 0), (t498.2.f2 ++ ([(⟨IntKind.wrap .i64 (a1 + x463), a2.extract (IntKind.wrap .i64 (x463 * 512) : Int).toNat (IntKind.wrap .i64 ((IntKind.wrap .i64 (x463 + 1)) * 512) : Int).toNat⟩ : q01)] : List q01)).length, encs q01.enc (t498.2.f2 ++ ([(⟨IntKind.wrap .i64 (a1 + x463), a2.extract (IntKind.wrap .i64 (x463 * 512) : Int).toNat (IntKind.wrap .i64 ((IntKind.wrap .i64 (x463 + 1)) * 512) : Int).toNat⟩ : q01)] : List q01))⟩] os [[(p0, .cells #[.slice A518 t498.2.f0.length c519, .slice A521 (t498.2.f1.set (IntKind.wrap .i64 (a1 + x463) : Int).toNat (a2.extract (IntKind.wrap .i64 (x463 * 512) : Int).toNat (IntKind.wrap .i64 ((IntKind.wrap .i64 (x463 + 1)) * 512) : Int).toNat)).length c522, .slice (As537.getD 0 none) (t498.2.f2 ++ ([(⟨IntKind.wrap .i64 (a1 + x463), a2.extract (IntKind.wrap .i64 (x463 * 512) : Int).toNat (IntKind.wrap .i64 ((IntKind.wrap .i64 (x463 + 1)) * 512) : Int).toNat⟩ : q01)] : List q01)).length (ns538.getD 0 0), .int .i64 t498.2.f3.f2, .bool t498.2.f4, .int .i64 t498.2.f5, .bool t498.2.f6] 53 (0, 0))], F] [(rw0 A518 t498.2.f0 c519), ⟨9, 1, .slice A521 (t498.2.f1.set (IntKind.wrap .i64 (a1 + x463) : Int).toNat (a2.extract (IntKind.wrap .i64 (x463 * 512) : Int).toNat (IntKind.wrap .i64 ((IntKind.wrap .i64 (x463 + 1)) * 512) : Int).toNat)).length c522, (t498.2.f1.set (IntKind.wrap .i64 (a1 + x463) : Int).toNat (a2.extract (IntKind.wrap .i64 (x463 * 512) : Int).toNat (IntKind.wrap .i64 ((IntKind.wrap .i64 (x463 + 1)) * 512) : Int).toNat)).length, encs encS (t498.2.f1.set (IntKind.wrap .i64 (a1 + x463) : Int).toNat (a2.extract (IntKind.wrap .i64 (x463 * 512) : Int).toNat (IntKind.wrap .i64 ((IntKind.wrap .i64 (x463 + 1)) * 512) : Int).toNat))⟩, ⟨62, 2, .slice (As537.getD 0 none) (t498.2.f2 ++ ([(⟨IntKind.wrap .i64 (a1 + x463), a2.extract (IntKind.wrap .i64 (x463 * 512) : Int).toNat (IntKind.wrap .i64 ((IntKind.wrap .i64 (x463 + 1)) * 512) : Int).toNat⟩ : q01)] : List q01)).length (ns538.getD 0 0), (t498.2.f2 ++ ([(⟨IntKind.wrap .i64 (a1 + x463), a2.extract (IntKind.wrap .i64 (x463 * 512) : Int).toNat (IntKind.wrap .i64 ((IntKind.wrap .i64 (x463 + 1)) * 512) : Int).toNat⟩ : q01)] : List q01)).length, encs q01.enc (t498.2.f2 ++ ([(⟨IntKind.wrap .i64 (a1 + x463), a2.extract (IntKind.wrap .i64 (x463 * 512) : Int).toNat (IntKind.wrap .i64 ((IntKind.wrap .i64 (x463 + 1)) * 512) : Int).toNat⟩ : q01)] : List q01))⟩] HW [0, 2] [1] [0, 1, 2] KR KR (by decide) KR)⟩
       ·
        replace h := q0c h hp505
        refine condT ha KR KR (t := (!t498.1)) (not_t (q2w hp505)) ?_
        refine wp_seq_k (fun K506 hK507 => ?_)
        refine wp_region_lit ?_
        refine sp1 ha 6 (.int .i64 41) ?_; clear ha a; intro a ha
        refine endl (thenN (hK507 _ _ ?_)); clear hK507
        refine wp_ret ?_
        refine thenR ?_
        refine blkR ?_
        refine thenR ?_
        refine thenR ?_
        refine blkR ?_
        refine thenR ?_
        obtain rfl := Option.some.inj h
        exact finv ha _ _ rfl (.tmp (v := .int .i64 41) KR .nil) (.int .i64 41) rfl ⟨U500, rfl, hU497, (HW)⟩
      ·
       replace h := q0c h hp487
       refine condF ha KR KR (t := decide (x463 < (IntKind.wrap .i64 (Int.tdiv (a2.size : Int) 512)))) (decide_eq_false hp487) ?_
       refine wp_exit ?_
       refine thenE ?_
       refine thenE ?_
       refine inBlk ?_
       refine thenN (hK314 _ _ (wp_seq_k fun K547 hK548 => wp_region_lit ?_)); clear hK314
       refine sp1 ha 6 (.int .i64 0) ?_; clear ha a; intro a ha
       refine endl (thenN (hK548 _ _ ?_)); clear hK548
       refine wp_ret ?_
       obtain ⟨U549, hU550, HW⟩ := q04.fold (x := (⟨x464, x468, x472, (⟨(), (), x476⟩ : q03), x477, x478, x479⟩ : q04)) (HW)
       replace HW := HW
       replace HW : Wd w W480 (U549 ++ (F ++ bs)) (os) := HW
       obtain rfl := Option.some.inj h
       exact finv ha _ _ rfl (.tmp (v := .int .i64 0) KR .nil) (.int .i64 0) rfl ⟨U549, rfl, hU550, (HW)⟩
def q1g.f (a0 : ByteArray) (a1 : Int) : Option ByteArray :=
 asrt (0 ≤ a1) (asrt (a1 ≤ 9223372036854775807) (asrt (a0.size * a1.toNat ≤ 140737488355328) (some ⟨(Lib.repeatL a0.data.toList a1.toNat).toArray⟩)))
theorem q1g.calls (a0 : ByteArray) (a1 : Int)  (r : ByteArray) (w : World) (h : q1g.f a0 a1 = some r) :
  Calls Tryd.prog 25 #[.string a0, .int .i64 a1] w (fun e W' => e = .returned (.string r) ∧ Wd w W' [] []) := by
 unfold q1g.f at h
 obtain ⟨h0, h⟩ := q0d h
 obtain ⟨h1, h⟩ := q0d h
 obtain ⟨h2, h⟩ := q0d h
 obtain rfl := Option.some.inj h
 obtain ⟨c, rfl⟩ := Int.eq_ofNat_of_zero_le h0
 exact (Tryd.strings_Repeat a0 c w (by omega) h2).mono fun e W' ⟨he, hb⟩ => ⟨he, (Wd.refl w).call hb⟩
def q0u.f (K : Nat) (a0 : Int) (a1 : Int) : Option ByteArray :=
 (q0g.f K a0 a1 true).bind fun t1119 => (some t1119)
set_option maxRecDepth 100000 in
set_option maxHeartbeats 4000000 in
theorem q0u.calls (K : Nat) (a0 : Int) (a1 : Int)  (r : ByteArray) (w : World)  (h : q0u.f K a0 a1 = some r) :
  Calls Tryd.prog 47 #[.int .u64 a0, .int .i64 a1] w (fun e W' => e = .returned (.string r) ∧ Wd w W' [] [] ) := by
 refine q17 (n := 8) (l := [(0, .int .u64 a0), (1, .int .i64 a1)]) Tryd.func47 rfl rfl (Nat.le_of_ble_eq_true KR) (q07 rfl (q07 rfl (q0q _))) ?_
 intro a ha
 have HW := Wd.refl w
 unfold q0u.f at h
 refine wp_seq_k (fun K1115 hK1116 => ?_)
 refine wp_region_lit ?_
 refine sp1 ha 4 (.string (⟨#[]⟩ : ByteArray)) ?_; clear ha a; intro a ha
 refine endl (thenN (hK1116 _ _ (wp_seq_k fun K1117 hK1118 => wp_region_lit ?_))); clear hK1116
 refine sp2 ha 5 (.int .u64 a0) 6 (.int .i64 a1) ?_; clear ha a; intro a ha
 obtain ⟨t1119, ht1120, h_⟩ := q08 h; replace h := h_; clear h_
 refine stepc ha 7 KR KR (q0g.calls K a0 a1 true t1119 _ ht1120) ?_; clear ha a; rintro e W1121 ⟨rfl, HX1122⟩
 refine ⟨_, rfl, ?_⟩; intro a ha; replace HW := HW.callw HX1122; clear HX1122
 refine sp1 ha 4 (.string t1119) ?_; clear ha a; intro a ha
 refine endl (thenN (hK1118 _ _ ?_)); clear hK1118
 refine wp_ret ?_
 obtain rfl := Option.some.inj h
 exact finv ha _ _ rfl (.tmp (v := .string t1119) KR .nil) (.string t1119) rfl ⟨rfl, HW.pick [] [] (by decide) (by decide) rfl KR⟩
def q2b.f (a0 : ByteArray) (a1 : Int) : Option ByteArray :=
 if a1 < 1 then (some a0) else (if a1 > 4096 then (some a0) else (asrt (¬ a1 = 0) (if (Int.tmod (a0.size : Int) a1) = 0 then (some a0) else (asrt (0 ≤ (IntKind.wrap .i64 (a1 - (Int.tmod (a0.size : Int) a1)))) (asrt ((IntKind.wrap .i64 (a1 - (Int.tmod (a0.size : Int) a1))) ≤ 281474976710656) (asrt (a0.size + (strOfNums (List.replicate (IntKind.wrap .i64 (a1 - (Int.tmod (a0.size : Int) a1)) : Int).toNat (0 : Int))).size ≤ 9223372036854775807) (some (a0 ++ (strOfNums (List.replicate (IntKind.wrap .i64 (a1 - (Int.tmod (a0.size : Int) a1)) : Int).toNat (0 : Int)))))))))))
set_option maxRecDepth 100000 in
set_option maxHeartbeats 4000000 in
theorem q2b.calls (a0 : ByteArray) (a1 : Int)  (r : ByteArray) (w : World)  (h : q2b.f a0 a1 = some r) :
  Calls Tryd.prog 60 #[.string a0, .int .i64 a1] w (fun e W' => e = .returned (.string r) ∧ Wd w W' [] [] ) := by
 refine q17 (n := 29) (l := [(0, .string a0), (1, .int .i64 a1)]) Tryd.func60 rfl rfl (Nat.le_of_ble_eq_true KR) (q07 rfl (q07 rfl (q0q _))) ?_
 intro a ha
 have HW := Wd.refl w
 unfold q2b.f at h
 refine wp_seq_k (fun K1123 hK1124 => ?_)
 refine wp_region_lit ?_
 refine sp1 ha 4 (.string (⟨#[]⟩ : ByteArray)) ?_; clear ha a; intro a ha
 refine endl (thenN (hK1124 _ _ (wp_seq_k fun K1125 hK1126 => wp_seq_k fun K1127 hK1128 => wp_region_lit ?_))); clear hK1124
 refine sp3 ha 5 (.int .i64 a1) 6 (.bool (decide (a1 < 1))) 7 (.bool (decide (a1 < 1))) ?_; clear ha a; intro a ha
 by_cases hp1129 : a1 < 1
 ·
  replace h := q0b h hp1129
  replace ha := ha.bool 7 KR (decide_eq_true hp1129)
  refine stepo ha 8 KR ?_; clear ha a; intro a ha
  refine stepo ha 9 KR ?_; clear ha a; intro a ha
  refine sp2 ha 10 (.bool true) 11 (.bool true) ?_; clear ha a; intro a ha
  refine stepo ha 12 KR ?_; clear ha a; intro a ha
  refine stepo ha 13 KR ?_; clear ha a; intro a ha
  refine stepo ha 14 KR ?_; clear ha a; intro a ha
  refine stepo ha 15 KR ?_; clear ha a; intro a ha
  refine stepo ha 16 KR ?_; clear ha a; intro a ha
  refine sp1 ha 17 (.bool true) ?_; clear ha a; intro a ha
  refine endl (thenN (hK1128 _ _ ?_)); clear hK1128
  refine condT ha KR KR (t := true) (rfl) ?_
  refine wp_seq_k (fun K1132 hK1133 => ?_)
  refine wp_region_lit ?_
  refine sp2 ha 18 (.string a0) 4 (.string a0) ?_; clear ha a; intro a ha
  refine endl (thenN (hK1133 _ _ ?_)); clear hK1133
  refine wp_ret ?_
  refine thenR ?_
  obtain rfl := Option.some.inj h
  exact finv ha _ _ rfl (.tmp (v := .string a0) KR .nil) (.string a0) rfl ⟨rfl, HW.pick [] [] (by decide) (by decide) rfl KR⟩
 ·
  replace h := q0c h hp1129
  replace ha := ha.bool 7 KR (decide_eq_false hp1129)
  refine sp4 ha 8 (.int .i64 a1) 9 (.bool (decide (a1 > 4096))) 10 (.bool (decide (a1 > 4096))) 11 (.bool (decide (a1 > 4096))) ?_; clear ha a; intro a ha
  by_cases hp1130 : a1 > 4096
  ·
   replace h := q0b h hp1130
   replace ha := ha.bool 11 KR (decide_eq_true hp1130)
   refine stepo ha 12 KR ?_; clear ha a; intro a ha
   refine stepo ha 13 KR ?_; clear ha a; intro a ha
   refine stepo ha 14 KR ?_; clear ha a; intro a ha
   refine stepo ha 15 KR ?_; clear ha a; intro a ha
   refine stepo ha 16 KR ?_; clear ha a; intro a ha
   refine sp1 ha 17 (.bool true) ?_; clear ha a; intro a ha
   refine endl (thenN (hK1128 _ _ ?_)); clear hK1128
   refine condT ha KR KR (t := true) (rfl) ?_
   refine wp_seq_k (fun K1134 hK1135 => ?_)
   refine wp_region_lit ?_
   refine sp2 ha 18 (.string a0) 4 (.string a0) ?_; clear ha a; intro a ha
   refine endl (thenN (hK1135 _ _ ?_)); clear hK1135
   refine wp_ret ?_
   refine thenR ?_
   obtain rfl := Option.some.inj h
   exact finv ha _ _ rfl (.tmp (v := .string a0) KR .nil) (.string a0) rfl ⟨rfl, HW.pick [] [] (by decide) (by decide) rfl KR⟩
  ·
   replace h := q0c h hp1130
   replace ha := ha.bool 11 KR (decide_eq_false hp1130)
   refine sp3 ha 12 (.string a0) 13 (.int .i64 (a0.size : Int)) 14 (.int .i64 a1) ?_; clear ha a; intro a ha
   obtain ⟨hA1131, h_⟩ := q0d h; replace h := h_; clear h_
   refine steprem ha 15 3 3 (.tmp 13) (.tmp 14) .i64 (a0.size : Int) a1 rfl KR KR hA1131 KR ?_; clear ha a; intro a ha
   refine sp2 ha 16 (.bool ((Int.tmod (a0.size : Int) a1) == 0)) 17 (.bool ((Int.tmod (a0.size : Int) a1) == 0)) ?_; clear ha a; intro a ha
   refine endl (thenN (hK1128 _ _ ?_)); clear hK1128
   by_cases hp1136 : (Int.tmod (a0.size : Int) a1) = 0
   ·
    replace h := q0b h hp1136
    refine condT ha KR KR (t := ((Int.tmod (a0.size : Int) a1) == 0)) (ieq_t hp1136) ?_
    refine wp_seq_k (fun K1137 hK1138 => ?_)
    refine wp_region_lit ?_
    refine sp2 ha 18 (.string a0) 4 (.string a0) ?_; clear ha a; intro a ha
    refine endl (thenN (hK1138 _ _ ?_)); clear hK1138
    refine wp_ret ?_
    refine thenR ?_
    obtain rfl := Option.some.inj h
    exact finv ha _ _ rfl (.tmp (v := .string a0) KR .nil) (.string a0) rfl ⟨rfl, HW.pick [] [] (by decide) (by decide) rfl KR⟩
   ·
    replace h := q0c h hp1136
    refine condF ha KR KR (t := ((Int.tmod (a0.size : Int) a1) == 0)) (ieq_f hp1136) ?_
    refine wp_skip ?_
    refine thenN (hK1126 _ _ (wp_seq_k fun K1139 hK1140 => wp_region_lit ?_)); clear hK1126
    refine sp5 ha 19 (.string a0) 20 (.int .i64 a1) 21 (.string a0) 22 (.int .i64 (a0.size : Int)) 23 (.int .i64 a1) ?_; clear ha a; intro a ha
    refine steprem ha 24 3 3 (.tmp 22) (.tmp 23) .i64 (a0.size : Int) a1 rfl KR KR hA1131 KR ?_; clear ha a; intro a ha
    refine sp1 ha 25 (.int .i64 (IntKind.wrap .i64 (a1 - (Int.tmod (a0.size : Int) a1)))) ?_; clear ha a; intro a ha
    obtain ⟨hA1141, h_⟩ := q0d h; replace h := h_; clear h_
    obtain ⟨hA1142, h_⟩ := q0d h; replace h := h_; clear h_
    refine stepmk (encIK .u8) (0 : Int) ha HW 26 71 5 (.tmp 25) (.tmp 25) .i64 .i64 (IntKind.wrap .i64 (a1 - (Int.tmod (a0.size : Int) a1))) (.int .u8 0) 1 rfl KR KR KR KR rfl rfl hA1141 (by have := hA1142; omega) (by have := hA1142; omega) KR ?_; clear ha HW a; intro b1143 a W1144 HW ha
    refine stepbt ha 27 71 9 5 (.tmp 26) (v := .slice (some ⟨b1143, 0, none⟩) (List.replicate (IntKind.wrap .i64 (a1 - (Int.tmod (a0.size : Int) a1)) : Int).toNat (0 : Int)).length ((IntKind.wrap .i64 (a1 - (Int.tmod (a0.size : Int) a1)) : Int).toNat)) (xs := List.replicate (IntKind.wrap .i64 (a1 - (Int.tmod (a0.size : Int) a1)) : Int).toNat (0 : Int)) (HW.rdo (i := 0) (q := ⟨5, 1, .slice (some ⟨b1143, 0, none⟩) (List.replicate (IntKind.wrap .i64 (a1 - (Int.tmod (a0.size : Int) a1)) : Int).toNat (0 : Int)).length ((IntKind.wrap .i64 (a1 - (Int.tmod (a0.size : Int) a1)) : Int).toNat), (List.replicate (IntKind.wrap .i64 (a1 - (Int.tmod (a0.size : Int) a1)) : Int).toNat (0 : Int)).length, encs (encIK .u8) (List.replicate (IntKind.wrap .i64 (a1 - (Int.tmod (a0.size : Int) a1)) : Int).toNat (0 : Int))⟩) KR) rfl KR KR KR KR KR ?_; clear ha a; intro a ha
    obtain ⟨hA1146, h_⟩ := q0d h; replace h := h_; clear h_
    refine stepsa ha 28 9 9 (.tmp 19) (.tmp 27) a0 (strOfNums (List.replicate (IntKind.wrap .i64 (a1 - (Int.tmod (a0.size : Int) a1)) : Int).toNat (0 : Int))) rfl KR KR (show (a0).size + (strOfNums (List.replicate (IntKind.wrap .i64 (a1 - (Int.tmod (a0.size : Int) a1)) : Int).toNat (0 : Int))).size ≤ 9223372036854775807 from hA1146) KR ?_; clear ha a; intro a ha
    refine sp1 ha 4 (.string (a0 ++ (strOfNums (List.replicate (IntKind.wrap .i64 (a1 - (Int.tmod (a0.size : Int) a1)) : Int).toNat (0 : Int))))) ?_; clear ha a; intro a ha
    refine endl (thenN (hK1140 _ _ ?_)); clear hK1140
    refine wp_ret ?_
    obtain rfl := Option.some.inj h
    exact finv ha _ _ rfl (.tmp (v := .string (a0 ++ (strOfNums (List.replicate (IntKind.wrap .i64 (a1 - (Int.tmod (a0.size : Int) a1)) : Int).toNat (0 : Int))))) KR .nil) (.string (a0 ++ (strOfNums (List.replicate (IntKind.wrap .i64 (a1 - (Int.tmod (a0.size : Int) a1)) : Int).toNat (0 : Int))))) rfl ⟨rfl, HW.pick [] [] (by decide) (by decide) rfl KR⟩
def q2a.f (K : Nat) (a0 : Int) (a1 : ByteArray) : Option (ByteArray × Int) :=
 if (a1.size : Int) > 65536 then (some ((⟨#[]⟩ : ByteArray), 2)) else ((q0u.f K a0 8).bind fun t1260 => (asrt (4 + t1260.size ≤ 9223372036854775807) ((q0u.f K (IntKind.wrap .u64 (a1.size : Int)) 4).bind fun t1265 => (asrt (((⟨#[72, 71, 70, 82]⟩ : ByteArray) ++ t1260).size + t1265.size ≤ 9223372036854775807) ((q1m.f K (((⟨#[72, 71, 70, 82]⟩ : ByteArray) ++ t1260) ++ t1265)).bind fun t1272 => (asrt ((((⟨#[72, 71, 70, 82]⟩ : ByteArray) ++ t1260) ++ t1265).size + t1272.size ≤ 9223372036854775807) (asrt (((((⟨#[72, 71, 70, 82]⟩ : ByteArray) ++ t1260) ++ t1265) ++ t1272).size + a1.size ≤ 9223372036854775807) ((q1m.f K a1).bind fun t1278 => (asrt ((((((⟨#[72, 71, 70, 82]⟩ : ByteArray) ++ t1260) ++ t1265) ++ t1272) ++ a1).size + t1278.size ≤ 9223372036854775807) ((q2b.f ((((((⟨#[72, 71, 70, 82]⟩ : ByteArray) ++ t1260) ++ t1265) ++ t1272) ++ a1) ++ t1278) 512).bind fun t1283 => (some (t1283, 0))))))))))))
set_option maxRecDepth 100000 in
set_option maxHeartbeats 4000000 in
theorem q2a.calls (K : Nat) (a0 : Int) (a1 : ByteArray)  (r : ByteArray × Int) (w : World) (hG1 : CA w 1 0 (encs (encIK .u32) q0h).toArray) (h : q2a.f K a0 a1 = some r) :
  Calls Tryd.prog 46 #[.int .u64 a0, .string a1] w (fun e W' => e = .returned (.tuple #[.string r.1, .int .i64 r.2]) ∧ Wd w W' [] [] ) := by
 refine q17 (n := 28) (l := [(0, .int .u64 a0), (1, .string a1)]) Tryd.func46 rfl rfl (Nat.le_of_ble_eq_true KR) (q07 rfl (q07 rfl (q0q _))) ?_
 intro a ha
 have HW := Wd.refl w
 unfold q2a.f at h
 refine wp_seq_k (fun K1249 hK1250 => ?_)
 refine wp_region_lit ?_
 refine sp2 ha 4 (.string (⟨#[]⟩ : ByteArray)) 5 (.int .i64 0) ?_; clear ha a; intro a ha
 refine endl (thenN (hK1250 _ _ (wp_seq_k fun K1251 hK1252 => wp_seq_k fun K1253 hK1254 => wp_region_lit ?_))); clear hK1250
 refine sp3 ha 7 (.string a1) 8 (.int .i64 (a1.size : Int)) 9 (.bool (decide ((a1.size : Int) > 65536))) ?_; clear ha a; intro a ha
 refine endl (thenN (hK1254 _ _ ?_)); clear hK1254
 by_cases hp1255 : (a1.size : Int) > 65536
 ·
  replace h := q0b h hp1255
  refine condT ha KR KR (t := decide ((a1.size : Int) > 65536)) (decide_eq_true hp1255) ?_
  refine wp_seq_k (fun K1256 hK1257 => ?_)
  refine wp_region_lit ?_
  refine sp2 ha 4 (.string (⟨#[]⟩ : ByteArray)) 5 (.int .i64 2) ?_; clear ha a; intro a ha
  refine endl (thenN (hK1257 _ _ ?_)); clear hK1257
  refine wp_ret ?_
  refine thenR ?_
  obtain rfl := Option.some.inj h
  exact finv ha _ _ rfl (.tmp (v := .string (⟨#[]⟩ : ByteArray)) KR (.tmp (v := .int .i64 2) KR .nil)) (.tuple #[.string (⟨#[]⟩ : ByteArray), .int .i64 2]) rfl ⟨rfl, HW.pick [] [] (by decide) (by decide) rfl KR⟩
 ·
  replace h := q0c h hp1255
  refine condF ha KR KR (t := decide ((a1.size : Int) > 65536)) (decide_eq_false hp1255) ?_
  refine wp_skip ?_
  refine thenN (hK1252 _ _ (wp_seq_k fun K1258 hK1259 => wp_region_lit ?_)); clear hK1252
  refine sp1 ha 10 (.int .u64 a0) ?_; clear ha a; intro a ha
  obtain ⟨t1260, ht1261, h_⟩ := q08 h; replace h := h_; clear h_
  refine stepc ha 11 KR KR (q0u.calls K a0 8 t1260 _ ht1261) ?_; clear ha a; rintro e W1262 ⟨rfl, HX1263⟩
  refine ⟨_, rfl, ?_⟩; intro a ha; replace HW := HW.callw HX1263; clear HX1263
  obtain ⟨hA1264, h_⟩ := q0d h; replace h := h_; clear h_
  refine stepsa ha 12 9 9 (.const (.string (⟨#[72, 71, 70, 82]⟩ : ByteArray))) (.tmp 11) (⟨#[72, 71, 70, 82]⟩ : ByteArray) t1260 rfl KR KR (show ((⟨#[72, 71, 70, 82]⟩ : ByteArray)).size + (t1260).size ≤ 9223372036854775807 from hA1264) KR ?_; clear ha a; intro a ha
  refine sp3 ha 13 (.string a1) 14 (.int .i64 (a1.size : Int)) 15 (.int .u64 (IntKind.wrap .u64 (a1.size : Int))) ?_; clear ha a; intro a ha
  obtain ⟨t1265, ht1266, h_⟩ := q08 h; replace h := h_; clear h_
  refine stepc ha 16 KR KR (q0u.calls K (IntKind.wrap .u64 (a1.size : Int)) 4 t1265 _ ht1266) ?_; clear ha a; rintro e W1267 ⟨rfl, HX1268⟩
  refine ⟨_, rfl, ?_⟩; intro a ha; replace HW := HW.callw HX1268; clear HX1268
  obtain ⟨hA1269, h_⟩ := q0d h; replace h := h_; clear h_
  refine stepsa ha 17 9 9 (.tmp 12) (.tmp 16) ((⟨#[72, 71, 70, 82]⟩ : ByteArray) ++ t1260) t1265 rfl KR KR (show ((⟨#[72, 71, 70, 82]⟩ : ByteArray) ++ t1260).size + (t1265).size ≤ 9223372036854775807 from hA1269) KR ?_; clear ha a; intro a ha
  refine sp1 ha 6 (.string (((⟨#[72, 71, 70, 82]⟩ : ByteArray) ++ t1260) ++ t1265)) ?_; clear ha a; intro a ha
  refine endl (thenN (hK1259 _ _ (wp_seq_k fun K1270 hK1271 => wp_region_lit ?_))); clear hK1259
  refine sp2 ha 18 (.string (((⟨#[72, 71, 70, 82]⟩ : ByteArray) ++ t1260) ++ t1265)) 19 (.string (((⟨#[72, 71, 70, 82]⟩ : ByteArray) ++ t1260) ++ t1265)) ?_; clear ha a; intro a ha
  obtain ⟨t1272, ht1273, h_⟩ := q08 h; replace h := h_; clear h_
  refine stepc ha 20 KR KR (q1m.calls K (((⟨#[72, 71, 70, 82]⟩ : ByteArray) ++ t1260) ++ t1265) t1272 _ (HW.ca0 hG1) ht1273) ?_; clear ha a; rintro e W1274 ⟨rfl, HX1275⟩
  refine ⟨_, rfl, ?_⟩; intro a ha; replace HW := HW.callw HX1275; clear HX1275
  obtain ⟨hA1276, h_⟩ := q0d h; replace h := h_; clear h_
  refine stepsa ha 21 9 9 (.tmp 18) (.tmp 20) (((⟨#[72, 71, 70, 82]⟩ : ByteArray) ++ t1260) ++ t1265) t1272 rfl KR KR (show (((⟨#[72, 71, 70, 82]⟩ : ByteArray) ++ t1260) ++ t1265).size + (t1272).size ≤ 9223372036854775807 from hA1276) KR ?_; clear ha a; intro a ha
  refine sp1 ha 22 (.string a1) ?_; clear ha a; intro a ha
  obtain ⟨hA1277, h_⟩ := q0d h; replace h := h_; clear h_
  refine stepsa ha 23 9 9 (.tmp 21) (.tmp 22) ((((⟨#[72, 71, 70, 82]⟩ : ByteArray) ++ t1260) ++ t1265) ++ t1272) a1 rfl KR KR (show ((((⟨#[72, 71, 70, 82]⟩ : ByteArray) ++ t1260) ++ t1265) ++ t1272).size + (a1).size ≤ 9223372036854775807 from hA1277) KR ?_; clear ha a; intro a ha
  refine sp1 ha 24 (.string a1) ?_; clear ha a; intro a ha
  obtain ⟨t1278, ht1279, h_⟩ := q08 h; replace h := h_; clear h_
  refine stepc ha 25 KR KR (q1m.calls K a1 t1278 _ (HW.ca0 hG1) ht1279) ?_; clear ha a; rintro e W1280 ⟨rfl, HX1281⟩
  refine ⟨_, rfl, ?_⟩; intro a ha; replace HW := HW.callw HX1281; clear HX1281
  obtain ⟨hA1282, h_⟩ := q0d h; replace h := h_; clear h_
  refine stepsa ha 26 9 9 (.tmp 23) (.tmp 25) (((((⟨#[72, 71, 70, 82]⟩ : ByteArray) ++ t1260) ++ t1265) ++ t1272) ++ a1) t1278 rfl KR KR (show (((((⟨#[72, 71, 70, 82]⟩ : ByteArray) ++ t1260) ++ t1265) ++ t1272) ++ a1).size + (t1278).size ≤ 9223372036854775807 from hA1282) KR ?_; clear ha a; intro a ha
  obtain ⟨t1283, ht1284, h_⟩ := q08 h; replace h := h_; clear h_
  refine stepc ha 27 KR KR (q2b.calls ((((((⟨#[72, 71, 70, 82]⟩ : ByteArray) ++ t1260) ++ t1265) ++ t1272) ++ a1) ++ t1278) 512 t1283 _ ht1284) ?_; clear ha a; rintro e W1285 ⟨rfl, HX1286⟩
  refine ⟨_, rfl, ?_⟩; intro a ha; replace HW := HW.callw HX1286; clear HX1286
  refine sp2 ha 4 (.string t1283) 5 (.int .i64 0) ?_; clear ha a; intro a ha
  refine endl (thenN (hK1271 _ _ ?_)); clear hK1271
  refine wp_ret ?_
  obtain rfl := Option.some.inj h
  exact finv ha _ _ rfl (.tmp (v := .string t1283) KR (.tmp (v := .int .i64 0) KR .nil)) (.tuple #[.string t1283, .int .i64 0]) rfl ⟨rfl, HW.pick [] [] (by decide) (by decide) rfl KR⟩
end Go.Proofs.YtokdiacjcbolfaaDoor.F
namespace Go.Proofs.YtokdiacjcbolfaaDoor.X
open Go Go.RowKit
set_option linter.unusedVariables false
set_option linter.unusedSimpArgs false
section
variable {P : Program} {n : Nat} {l : List (Nat × Value)} {a : Act} {ops : Array Oper} {o : Oper} {rest : List Oper} {Q : Exit → Act → World → Prop} {w0 W : World} {bs : List (Nat × Obj)} {os : List OwnA}
end
end Go.Proofs.YtokdiacjcbolfaaDoor.X
namespace Go.Proofs.YtokdiacjcbolfaaDoor.X
open Go Go.RowKit
set_option linter.unusedVariables false
set_option linter.unusedSimpArgs false
theorem ptr_ne_self {P : Program} {t te : Nat} (ht : P.underlying t = some (.pointer te)) (hi : (P.info? te).isSome = true) (b o : Nat) (X Y : Operand) (W : World) :
  (do eqGuard .neq t X Y (.pointer (some ⟨b, o, none⟩)) (.pointer (some ⟨b, o, none⟩)); binOp .neq t (.pointer (some ⟨b, o, none⟩)) (.pointer (some ⟨b, o, none⟩)) : Sem Value).run P W = .ok (.bool false) W := by
 obtain ⟨j, hj⟩ := Option.isSome_iff_exists.mp hi
 have h : asame P .neq t (.pointer (some ⟨b, o, none⟩)) (.pointer (some ⟨b, o, none⟩)) = some (.bool false) := by
  simp [asame, ht, hj]
 have hv : VR (fun k => some ⟨k, 0, 0, 0⟩) (.pointer (some ⟨b, o, none⟩)) (.pointer (some ⟨b, o, none⟩)) := by
  have := VR.ptr (μ := fun k => some ⟨k, 0, 0, 0⟩) (k := b) (o := o) (l := ⟨b, 0, 0, 0⟩) rfl
  simpa using this
 exact (asame_ok (P := P) (X := X) (Y := Y) h hv hv).1
theorem toUnsafe (P : Program) (W : World) (b src dst t e cells : Nat) (hsh : W.shape? b = some (e, cells)) (hs : P.underlying src = some (.pointer t)) (hd : P.underlying dst = some .unsafePointer) (ht : (P.info? t).map (fun j => Nat.blt 0 j.size) = some true) (hc : Nat.blt 0 cells = true) :
  (convert src dst (.pointer (some ⟨b, 0, none⟩))).run P W = .ok (.pointer (some ⟨b, 0, none⟩)) W := by
 cases hi : P.info? t with
 | none => simp [hi] at ht
 | some j =>
  have hj : 0 < j.size := by simpa [hi] using ht
  exact Lib.run_to_unsafe W ⟨b, 0, none⟩ hs hd hi (by omega) hsh (Nat.le_of_ble_eq_true hc)
theorem fromUnsafe (P : Program) (W : World) (b src dst u e cells : Nat) (hsh : W.shape? b = some (e, cells)) (hs : P.underlying src = some .unsafePointer) (hd : P.underlying dst = some (.pointer u)) (hu : (P.info? u).isSome = true) (hl : liesAt P P.depth e (cells / P.cellsOf e) 0 u 1 = true) :
  (convert src dst (.pointer (some ⟨b, 0, none⟩))).run P W = .ok (.pointer (some ⟨b, 0, none⟩)) W := by
 obtain ⟨j, hj⟩ := Option.isSome_iff_exists.mp hu
 exact Lib.run_from_unsafe W ⟨b, 0, none⟩ hs hd hj hsh hl
theorem stepcv {P : Program} {n : Nat} {l : List (Nat × Value)} {a : Act} {ops : Array Oper} {o : Oper} {rest : List Oper} {Q : Exit → Act → World → Prop} {W : World}
  (ha : Has n l a) (d t t' : Nat) (X : Operand) {u : Value} (v : Value) (ho : o.op = .convert t t' X) (hx : ev l X = u) (hr : (convert t t' u).run P W = .ok v W) (hok : okB n l ops o d = true) (h : ∀ a', Has n ((d, v) :: l) a' → wpList P ops Q rest a' W) : wpList P ops Q (o :: rest) a W := by
 refine stepv (W' := W) ha d _ hok ?_ h
 unfold execOp
 simp only [ho, hx]
 exact runv hr
theorem stepbi {P : Program} {n : Nat} {l : List (Nat × Value)} {a : Act} {ops : Array Oper} {o : Oper} {rest : List Oper} {Q : Exit → Act → World → Prop} {W W' : World}
  (ha : Has n l a) (d : Nat) (b : Builtin) (ts : Array TypeId) (xs : Array Operand) {vs : Array Value} {v : Value} (ho : o.op = .call { callee := .builtin b, args := xs, argTypes := ts }) (hx : xs.map (ev l) = vs) (hr : ∀ cs : Array Bool, (builtin b ts o.type cs vs).run P W = .ok (.value v) W') (hok : okB n l ops o d = true)
  (h : ∀ a', Has n ((d, v) :: l) a' → wpList P ops Q rest a' W') : wpList P ops Q (o :: rest) a W := by
 refine stepv (W' := W') ha d _ hok ?_ h
 unfold execOp
 simp only [ho, resolve, invoke, Sem.run_bind, Sem.run_pure, Result.andThen_ok, hx, hr]
theorem stepnp {P : Program} {n : Nat} {l : List (Nat × Value)} {a : Act} {ops : Array Oper} {o : Oper} {rest : List Oper} {Q : Exit → Act → World → Prop} {W : World}
  (ha : Has n l a) (d t te t' : Nat) (X Y : Operand) (b of : Nat) (ho : o.op = .binOp .neq t X Y t') (hx : ev l X = .pointer (some ⟨b, of, none⟩)) (hy : ev l Y = .pointer (some ⟨b, of, none⟩))
  (ht : P.underlying t = some (.pointer te)) (hi : (P.info? te).isSome = true) (hok : okB n l ops o d = true) (h : ∀ a', Has n ((d, .bool false) :: l) a' → wpList P ops Q rest a' W) : wpList P ops Q (o :: rest) a W := by
 refine stepv (W' := W) ha d _ hok ?_ h
 have h_ := ptr_ne_self (P := P) ht hi b of X Y W
 unfold execOp
 simp only [ho, hx, hy]
 exact runv h_
section
variable {w0 W : World} {bs : List (Nat × Obj)} {os : List OwnA}
theorem wb_check (HW : Wd w0 W bs os) {i b : Nat} {p v : Value} (hi : bs[i]? = some (b, .cells #[p, v] 78 (0, 0))) (hp : p = .pointer none ∨ p = .pointer (some ⟨b, 0, none⟩)) :
  Calls Tryd.prog 57 #[.pointer (some ⟨b, 0, none⟩)] W fun e W' => e = .returned (.tuple #[]) ∧ Wd w0 W' (bs.set i (b, .cells #[.pointer (some ⟨b, 0, none⟩), v] 78 (0, 0))) os := by
 refine q17 (n := 20) (l := [(0, .pointer (some ⟨b, 0, none⟩))]) Tryd.func57 rfl rfl (Nat.le_of_ble_eq_true KR) (q07 rfl (q0q _)) ?_
 intro a ha
 have hsh : W.shape? b = some (78, 2) := by simp [World.shape?, (HW.blk i _ hi).2]
 refine wp_seq_k (fun K hK => ?_)
 refine wp_region_lit ?_
 refine stepp ha 2 (.pointer (some ⟨b, 0, none⟩)) KR KR ?_; clear ha a; intro a ha
 refine stepp ha 3 (.pointer (some ⟨b, 0, none⟩)) KR KR ?_; clear ha a; intro a ha
 refine stepp ha 4 (.pointer (some ⟨b, 0, none⟩)) KR KR ?_; clear ha a; intro a ha
 refine stepl ha 5 (HW.ca hi) 76 0 (.tmp 4) p rfl KR KR KR ?_; clear ha a; intro a ha
 rcases hp with rfl | rfl
 ·refine stepp ha 6 (.bool true) KR KR ?_; clear ha a; intro a ha
  refine endl ?_
  refine thenN (hK _ _ ?_); clear hK
  refine condT ha KR KR (t := true) rfl ?_
  refine wp_region_lit ?_
  refine stepp ha 7 (.pointer (some ⟨b, 0, none⟩)) KR KR ?_; clear ha a; intro a ha
  refine stepp ha 8 (.pointer (some ⟨b, 0, none⟩)) KR KR ?_; clear ha a; intro a ha
  refine stepcv ha 9 76 110 (.tmp 8) (.pointer (some ⟨b, 0, none⟩)) rfl KR (toUnsafe Tryd.prog W b 76 110 78 78 2 hsh KR KR KR rfl) KR ?_; clear ha a; intro a ha
  refine stepp ha 10 (.pointer (some ⟨b, 0, none⟩)) KR ((run_callFunc_extern (e := Extern.AbiNoEscape.same) Tryd.func68 KR KR KR KR _ _).trans KR) ?_; clear ha a; intro a ha
  refine stepcv ha 11 110 76 (.tmp 10) (.pointer (some ⟨b, 0, none⟩)) rfl KR (fromUnsafe Tryd.prog W b 110 76 78 78 2 hsh KR KR KR KR) KR ?_; clear ha a; intro a ha
  refine stepp ha 12 (.pointer (some ⟨b, 0, none⟩)) KR KR ?_; clear ha a; intro a ha
  refine stepp ha 13 (.pointer (some ⟨b, 0, none⟩)) KR KR ?_; clear ha a; intro a ha
  refine q26 ha HW i hi 76 0 (.tmp 13) (.tmp 11) (.pointer (some ⟨b, 0, none⟩)) #[.pointer (some ⟨b, 0, none⟩), v] rfl KR KR KR KR KR KR KR ?_; clear ha HW a; intro a W' HW ha
  refine endl ?_
  exact finv (fn := Tryd.f57) (R := fun e W' => e = .returned (.tuple #[]) ∧ Wd w0 W' _ _) ha [] [] rfl .nil (.tuple #[]) rfl ⟨rfl, HW⟩
 ·refine stepp ha 6 (.bool false) KR KR ?_; clear ha a; intro a ha
  refine endl ?_
  refine thenN (hK _ _ ?_); clear hK
  refine condF ha KR KR (t := false) rfl ?_
  refine wp_seq_k (fun K hK => ?_)
  refine wp_region_lit ?_
  refine stepp ha 14 (.pointer (some ⟨b, 0, none⟩)) KR KR ?_; clear ha a; intro a ha
  refine stepp ha 15 (.pointer (some ⟨b, 0, none⟩)) KR KR ?_; clear ha a; intro a ha
  refine stepp ha 16 (.pointer (some ⟨b, 0, none⟩)) KR KR ?_; clear ha a; intro a ha
  refine stepl ha 17 (HW.ca hi) 76 0 (.tmp 16) (.pointer (some ⟨b, 0, none⟩)) rfl KR KR KR ?_; clear ha a; intro a ha
  refine stepp ha 18 (.pointer (some ⟨b, 0, none⟩)) KR KR ?_; clear ha a; intro a ha
  refine stepnp ha 19 76 78 76 (.tmp 17) (.tmp 18) b 0 rfl KR KR KR KR KR ?_; clear ha a; intro a ha
  refine endl ?_
  refine thenN (hK _ _ ?_); clear hK
  refine condF ha KR KR (t := false) rfl ?_
  refine wp_skip ?_
  have hset : bs.set i (b, .cells #[.pointer (some ⟨b, 0, none⟩), v] 78 (0, 0)) = bs := by
   apply List.ext_getElem?
   intro k
   rw [List.getElem?_set]
   split
   ·rename_i hk; subst hk; split
    ·exact hi.symm
    ·rename_i hk; exact (List.getElem?_eq_none (by omega)).symm
   ·rfl
  exact finv (fn := Tryd.f57) (R := fun e W' => e = .returned (.tuple #[]) ∧ Wd w0 W' _ _) ha [] [] rfl .nil (.tuple #[]) rfl ⟨rfl, by rw [hset]; exact HW⟩
theorem wb_set {i b : Nat} {o o' : Obj} (hi : bs[i]? = some (b, o)) : (bs.set i (b, o'))[i]? = some (b, o') := by
 have := (List.getElem?_eq_some_iff.1 hi).1
 rw [List.getElem?_set_self this]
theorem wb_write (HW : Wd w0 W bs os) {i j b : Nat} {p v : Value} {s0 : ByteArray} (hi : bs[i]? = some (b, .cells #[p, v] 78 (0, 0))) (hp : p = .pointer none ∨ p = .pointer (some ⟨b, 0, none⟩)) (hj : os[j]? = some ⟨5, 1, v, s0.size, byteCells s0⟩)
  (s : ByteArray) (hb : s0.size + s.size ≤ 140737488355328) :
  Calls Tryd.prog 40 #[.pointer (some ⟨b, 0, none⟩), .string s] W fun e W' => ∃ A c, e = .returned (.tuple #[.int .i64 s.size, .nilIface]) ∧
   Wd w0 W' (bs.set i (b, .cells #[.pointer (some ⟨b, 0, none⟩), .slice A (s0 ++ s).size c] 78 (0, 0))) (os.set j ⟨5, 1, .slice A (s0 ++ s).size c, (s0 ++ s).size, byteCells (s0 ++ s)⟩) := by
 refine q17 (n := 19) (l := [(0, .pointer (some ⟨b, 0, none⟩)), (1, .string s)]) Tryd.func40 rfl rfl (Nat.le_of_ble_eq_true KR) (q07 rfl (q07 rfl (q0q _))) ?_
 intro a ha
 refine wp_seq_k (fun K hK => ?_)
 refine wp_region_lit ?_
 refine stepp ha 4 (.int .i64 0) KR KR ?_; clear ha a; intro a ha
 refine stepp ha 5 .nilIface KR KR ?_; clear ha a; intro a ha
 refine endl ?_
 refine thenN (hK _ _ ?_); clear hK
 refine wp_seq_k (fun K hK => ?_)
 refine wp_region_lit ?_
 refine stepp ha 6 (.pointer (some ⟨b, 0, none⟩)) KR KR ?_; clear ha a; intro a ha
 refine stepc ha 7 KR KR (wb_check HW hi hp) ?_; clear ha a; rintro e W1 ⟨rfl, HW1⟩
 refine ⟨_, rfl, ?_⟩; intro a ha
 have hi1 := wb_set (o' := .cells #[.pointer (some ⟨b, 0, none⟩), v] 78 (0, 0)) hi
 refine endl ?_
 refine thenN (hK _ _ ?_); clear hK
 refine wp_seq_k (fun K hK => ?_)
 refine wp_region_lit ?_
 refine stepp ha 8 (.pointer (some ⟨b, 0, none⟩)) KR KR ?_; clear ha a; intro a ha
 refine stepp ha 9 (.pointer (some ⟨b, 0, none⟩)) KR KR ?_; clear ha a; intro a ha
 refine stepp ha 10 (.pointer (some ⟨b, 0, none⟩)) KR KR ?_; clear ha a; intro a ha
 refine stepp ha 11 (.pointer (some ⟨b, 1, none⟩)) KR KR ?_; clear ha a; intro a ha
 refine stepl ha 12 (HW1.ca hi1) 71 1 (.tmp 11) v rfl KR KR KR ?_; clear ha a; intro a ha
 refine stepp ha 13 (.string s) KR KR ?_; clear ha a; intro a ha
 refine stepapt ha HW1 14 j 71 9 5 (.tmp 12) (.tmp 13) v s0 s hj rfl KR KR KR KR KR hb KR ?_; clear ha a; intro A c a W2 HW2 ha
 refine stepp ha 15 (.pointer (some ⟨b, 0, none⟩)) KR KR ?_; clear ha a; intro a ha
 refine stepp ha 16 (.pointer (some ⟨b, 1, none⟩)) KR KR ?_; clear ha a; intro a ha
 refine q26 ha HW2 i hi1 71 1 (.tmp 16) (.tmp 14) (.slice A (s0 ++ s).size c) #[.pointer (some ⟨b, 0, none⟩), .slice A (s0 ++ s).size c] rfl KR KR KR KR KR KR KR ?_; clear ha a; intro a W3 HW3 ha
 refine endl ?_
 refine thenN (hK _ _ ?_); clear hK
 refine wp_seq_k (fun K hK => ?_)
 refine wp_region_lit ?_
 refine stepp ha 17 (.string s) KR KR ?_; clear ha a; intro a ha
 refine stepp ha 18 (.int .i64 s.size) KR KR ?_; clear ha a; intro a ha
 refine stepp ha 4 (.int .i64 s.size) KR KR ?_; clear ha a; intro a ha
 refine stepp ha 5 .nilIface KR KR ?_; clear ha a; intro a ha
 refine endl ?_
 refine thenN (hK _ _ ?_); clear hK
 refine wp_ret ?_
 rw [List.set_set] at HW3
 exact finv ha _ _ rfl (.tmp (v := .int .i64 s.size) KR (.tmp (v := .nilIface) KR .nil)) (.tuple #[.int .i64 s.size, .nilIface]) rfl ⟨A, c, rfl, HW3⟩
theorem wb_string (HW : Wd w0 W bs os) {i j b : Nat} {p v : Value} {s0 : ByteArray} (hi : bs[i]? = some (b, .cells #[p, v] 78 (0, 0))) (hj : os[j]? = some ⟨5, 1, v, s0.size, byteCells s0⟩) :
  Calls Tryd.prog 42 #[.pointer (some ⟨b, 0, none⟩)] W fun e W' => e = .returned (.string s0) ∧ Wd w0 W' [] [] := by
 obtain ⟨A, c, hv⟩ := (HW.rdo hj).shape
 have hv : v = .slice A s0.size c := hv
 subst hv
 have hown := HW.own j _ hj
 have key : ∃ f4 : Fact, (∀ W1 : World, Wd w0 W1 bs os → ∃ u W2, (Builtin.unsafeSliceData_ #[71] 102 #[.slice A s0.size c]).run Tryd.prog W1 = .ok u W2 ∧ f4.holds u W2 ∧ Below W1.heap.size W1 W2) ∧
   (∀ (W1 : World) (u : Value), Wd w0 W1 bs os → f4.holds u W1 → ∃ W2, (Builtin.unsafeString_ #[102, 3] 9 #[u, .int .i64 s0.size]).run Tryd.prog W1 = .ok (.string s0) W2 ∧ Below w0.heap.size W1 W2) := by
  have hPU : (Tryd.prog).underlying 102 = some (.pointer 5) := KR
  have hc1 : (Tryd.prog).cellsOf 5 = 1 := KR
  have hemp : s0.size = 0 → s0 = .empty := fun h => by
   apply ByteArray.ext
   apply Array.ext'
   have : s0.data.toList.length = 0 := by rw [Array.length_toList]; exact h
   rw [List.eq_nil_of_length_eq_zero this]
   rfl
  have none_ : ∀ (W1 : World) (p : Option Addr), s0.size = 0 → (Builtin.unsafeString_ #[102, 3] 9 #[.pointer p, .int .i64 s0.size]).run Tryd.prog W1 = .ok (.string s0) W1 := fun W1 p h => by
   have := Lib.run_unsafeString_none (P := Tryd.prog) W1 102 3 9 p
   rw [h, hemp h]
   exact this
  rcases hown.2 with ⟨hv, hn⟩ | ⟨g, cap, cur, fz, hv, hg0, hg, _, hnc, hcm, _, _⟩
  ·simp only [Value.slice.injEq] at hv
   obtain ⟨rfl, hz, rfl⟩ := hv
   refine ⟨.fix (.pointer none), fun W1 _ => ⟨_, W1, Lib.run_unsafeSliceData_nil W1 _ _ _ _, rfl, Below.refl _ _⟩, fun W1 u _ hu => ?_⟩
   obtain rfl : u = .pointer none := hu
   exact ⟨W1, none_ W1 none hz, Below.refl _ _⟩
  ·simp only [Value.slice.injEq] at hv
   obtain ⟨rfl, _, rfl⟩ := hv
   have at_ : ∀ W1 : World, Wd w0 W1 bs os → ∃ cur1 fz1, W1.heap[g]? = some (.cells cur1 5 fz1) ∧ s0.size ≤ cur1.size ∧ (∀ (j : Nat) (u : Value), (byteCells s0)[j]? = some u → W1.cell? ⟨g, j, none⟩ = some u) := fun W1 h1 => by
    have ho1 := h1.own j _ hj
    have hr1 := h1.rdo hj
    rcases ho1.2 with ⟨hv, _⟩ | ⟨g', cap', cur', fz', hv', _, hg', _, hnc', _, hcs', htk'⟩
    ·cases hv
    ·simp only [Value.slice.injEq, Option.some.injEq, Addr.mk.injEq, and_true] at hv'
     obtain ⟨rfl, _, rfl⟩ := hv'
     refine ⟨cur', fz', hg', by simp only at hcs' hnc'; omega, fun j u hu => ?_⟩
     rw [cell_of_row W1 g j cur' 5 fz' hg']
     simp only at htk'
     rw [← htk', List.getElem?_take] at hu
     split at hu
     ·simpa using hu
     ·cases hu
   by_cases hc : c = 0
   ·subst hc
    have hz : s0.size = 0 := by simp only at hnc; omega
    refine ⟨.ptr, fun W1 h1 => ?_, fun W1 u _ hu => ?_⟩
    ·obtain ⟨cur1, fz1, q1, _⟩ := at_ W1 h1
     exact ⟨_, _, Lib.run_unsafeSliceData_zero W1 _ 102 5 hPU ⟨g, 0, none⟩ s0.size (5, cur1.size) (by simp [World.shape?, q1]), ⟨_, rfl⟩, (Below.refl _ W1).alloc (Nat.le_refl _) _⟩
    ·obtain ⟨p, rfl⟩ : ∃ a, u = .pointer a := hu
     exact ⟨W1, none_ W1 p hz, Below.refl _ _⟩
   ·refine ⟨.fix (.pointer (some ⟨g, 0, none⟩)), fun W1 _ => ⟨_, W1, Lib.run_unsafeSliceData_row W1 _ _ ⟨g, 0, none⟩ _ c hc, rfl, Below.refl _ _⟩, fun W1 u h1 hu => ?_⟩
    obtain rfl : u = .pointer (some ⟨g, 0, none⟩) := hu
    by_cases hz : s0.size = 0
    ·exact ⟨W1, none_ W1 _ hz, Below.refl _ _⟩
    ·obtain ⟨cur1, fz1, q1, q2, q3⟩ := at_ W1 h1
     have hl : s0.data.toList.length = s0.size := Array.length_toList
     have hrun := Lib.run_unsafeString_row (P := Tryd.prog) W1 102 3 9 5 hPU hc1 g cur1.size (by simp [World.shape?, q1]) s0.data.toList (fun e => hz (by rw [← hl, e]; rfl)) (by omega) (by simp only [maxLen] at hcm hnc; omega) (fun j x hx => by
      rw [Addr.add_lit, Nat.zero_add]
      exact q3 j _ (by unfold byteCells; rw [List.getElem?_map, hx]; rfl))
     rw [hl] at hrun
     have e0 : (⟨s0.data.toList.toArray⟩ : ByteArray) = s0 := by rw [Array.toArray_toList]
     rw [e0] at hrun
     exact ⟨_, hrun, Lib.below_freeze (Below.refl _ W1) hg0 _⟩
 obtain ⟨f4, h4, h10⟩ := key
 refine q17 (n := 14) (l := [(0, .pointer (some ⟨b, 0, none⟩))]) Tryd.func42 rfl rfl (Nat.le_of_ble_eq_true KR) (q07 rfl (q0q _)) ?_
 intro a ha
 refine wp_seq_k (fun K hK => ?_)
 refine wp_region_lit ?_
 refine stepp ha 2 (.string ⟨#[]⟩) KR KR ?_; clear ha a; intro a ha
 refine endl ?_
 refine thenN (hK _ _ ?_); clear hK
 refine wp_seq_k (fun K hK => ?_)
 refine regionGT 10 KR KR ha HW [.fix (.pointer (some ⟨b, 0, none⟩)), .fix (.pointer (some ⟨b, 0, none⟩)), .fix (.pointer (some ⟨b, 1, none⟩)), .fix (.slice A s0.size c), f4, .fix (.pointer (some ⟨b, 0, none⟩)), .fix (.pointer (some ⟨b, 0, none⟩)), .fix (.pointer (some ⟨b, 1, none⟩)), .fix (.slice A s0.size c), .fix (.int .i64 s0.size)] ?_ ?_
 ·refine ⟨?_, ?_, ?_, ?_, ?_, ?_, ?_, ?_, ?_, ?_, trivial⟩
  ·intro a wr hn hd HW hs; have ha := q0a hn hd
   have ha := ha.add (seeE hs 0 (.pointer (some ⟨b, 0, none⟩)) KR KR)
   refine yStep ha 3 KR ?_; intro l_ ha HK
   refine stepp ha 3 (.pointer (some ⟨b, 0, none⟩)) KR KR ?_; intro ax hax; exact HK _ _ _ hax rfl (Below.refl _ _)
  ·intro a wr hn hd HW hs; have ha := q0a hn hd
   have ha := ha.add (seeF hs 3 0 (.pointer (some ⟨b, 0, none⟩)) KR KR)
   refine yStep ha 4 KR ?_; intro l_ ha HK
   refine stepp ha 4 (.pointer (some ⟨b, 0, none⟩)) KR KR ?_; intro ax hax; exact HK _ _ _ hax rfl (Below.refl _ _)
  ·intro a wr hn hd HW hs; have ha := q0a hn hd
   have ha := ha.add (seeF hs 4 1 (.pointer (some ⟨b, 0, none⟩)) KR KR)
   refine yStep ha 5 KR ?_; intro l_ ha HK
   refine stepp ha 5 (.pointer (some ⟨b, 1, none⟩)) KR KR ?_; intro ax hax; exact HK _ _ _ hax rfl (Below.refl _ _)
  ·intro a wr hn hd HW hs; have ha := q0a hn hd
   have ha := ha.add (seeF hs 5 2 (.pointer (some ⟨b, 1, none⟩)) KR KR)
   refine yStep ha 6 KR ?_; intro l_ ha HK
   refine stepl ha 6 (HW.ca hi) 71 1 (.tmp 5) (.slice A s0.size c) rfl KR KR KR ?_; intro ax hax; exact HK _ _ _ hax rfl (Below.refl _ _)
  ·intro a wr hn hd HW hs; have ha := q0a hn hd
   have ha := ha.add (seeF hs 6 3 (.slice A s0.size c) KR KR)
   refine yStep ha 7 KR ?_; intro l_ ha HK
   obtain ⟨u, W2, q1, q2, q3⟩ := h4 _ HW
   exact stepbi ha 7 .unsafeSliceData #[71] #[.tmp 6] (vs := #[.slice A s0.size c]) rfl KR (fun _ => runv q1) KR (fun ax hax => HK _ _ _ hax q2 q3)
  ·intro a wr hn hd HW hs; have ha := q0a hn hd
   have ha := ha.add (seeE hs 0 (.pointer (some ⟨b, 0, none⟩)) KR KR)
   refine yStep ha 8 KR ?_; intro l_ ha HK
   refine stepp ha 8 (.pointer (some ⟨b, 0, none⟩)) KR KR ?_; intro ax hax; exact HK _ _ _ hax rfl (Below.refl _ _)
  ·intro a wr hn hd HW hs; have ha := q0a hn hd
   have ha := ha.add (seeF hs 8 5 (.pointer (some ⟨b, 0, none⟩)) KR KR)
   refine yStep ha 9 KR ?_; intro l_ ha HK
   refine stepp ha 9 (.pointer (some ⟨b, 0, none⟩)) KR KR ?_; intro ax hax; exact HK _ _ _ hax rfl (Below.refl _ _)
  ·intro a wr hn hd HW hs; have ha := q0a hn hd
   have ha := ha.add (seeF hs 9 6 (.pointer (some ⟨b, 0, none⟩)) KR KR)
   refine yStep ha 10 KR ?_; intro l_ ha HK
   refine stepp ha 10 (.pointer (some ⟨b, 1, none⟩)) KR KR ?_; intro ax hax; exact HK _ _ _ hax rfl (Below.refl _ _)
  ·intro a wr hn hd HW hs; have ha := q0a hn hd
   have ha := ha.add (seeF hs 10 7 (.pointer (some ⟨b, 1, none⟩)) KR KR)
   refine yStep ha 11 KR ?_; intro l_ ha HK
   refine stepl ha 11 (HW.ca hi) 71 1 (.tmp 10) (.slice A s0.size c) rfl KR KR KR ?_; intro ax hax; exact HK _ _ _ hax rfl (Below.refl _ _)
  ·intro a wr hn hd HW hs; have ha := q0a hn hd
   have ha := ha.add (seeF hs 11 8 (.slice A s0.size c) KR KR)
   refine yStep ha 12 KR ?_; intro l_ ha HK
   refine stepp ha 12 (.int .i64 s0.size) KR KR ?_; intro ax hax; exact HK _ _ _ hax rfl (Below.refl _ _)
 ·intro a W3 ha HW he hf
  obtain ⟨u, hu, hf4⟩ := gotK (m := 10) (j := 4) (d := 7) (f := f4) hf KR KR KR
  replace ha := ha.add hu
  replace ha := ha.add (gotF (m := 10) (j := 9) (d := 12) (v := .int .i64 s0.size) hf KR KR KR)
  clear he hf
  obtain ⟨W4, q1, q2⟩ := h10 _ _ HW hf4
  refine stepbi ha 13 .unsafeString #[102, 3] #[.tmp 7, .tmp 12] (vs := #[u, .int .i64 s0.size]) rfl KR (fun _ => runv q1) KR ?_; clear ha hu a; intro a ha
  refine stepp ha 2 (.string s0) KR KR ?_; clear ha a; intro a ha
  refine endl ?_
  refine thenN (hK _ _ ?_); clear hK
  refine wp_ret ?_
  exact finv ha _ _ rfl (.tmp (v := .string s0) KR .nil) (.string s0) rfl ⟨rfl, HW.below.trans q2, fun _ _ h => by simp at h, fun _ _ h => by simp at h, fun _ _ _ _ h => by simp at h, fun _ _ _ _ h => by simp at h, fun _ _ _ _ h => by simp at h⟩
end
end Go.Proofs.YtokdiacjcbolfaaDoor.X
namespace Go.Proofs.YtokdiacjcbolfaaDoor.X
open Go Go.RowKit
set_option linter.unusedVariables false
set_option linter.unusedSimpArgs false
def isSeq : Code → Bool
 | .seq _ _ => true
 | _ => false
def seqL : Code → Code
 | .seq x _ => x
 | _ => .skip
def seqR : Code → Code
 | .seq _ y => y
 | _ => .skip
theorem q2y {c : Code} (h : isSeq c = true) : c = .seq (seqL c) (seqR c) := by
 cases c with
 | seq x y => rfl
 | _ => cases h
def isIf : Code → Bool
 | .cond _ _ _ => true
 | _ => false
def ifT : Code → Code
 | .cond _ x _ => x
 | _ => .skip
def ifF : Code → Code
 | .cond _ _ y => y
 | _ => .skip
def ifB : Code → Operand
 | .cond b _ _ => b
 | _ => .tmp 0
theorem if_split {c : Code} (h : isIf c = true) : c = .cond (ifB c) (ifT c) (ifF c) := by
 cases c with
 | cond b x y => rfl
 | _ => cases h
def bodyOf (P : Program) (f : Nat) : Code := ((P.funcs[f]?).bind (·.body)).getD .skip
section
variable {P : Program} {ng : Nat}
theorem codeOk_seq {x y : Code} {fr fr1 fr2 : List Value} {H H1 H2 : Heap} {ex : Ex} (hx : q3e P ng x fr H .normal fr1 H1) (hy : q3e P ng y fr1 H1 ex fr2 H2) : q3e P ng (.seq x y) fr H ex fr2 H2 := by
 refine ⟨hx.dom.trans hy.dom, fun ds w0 μ E W a hf hfree hg hw => wp_seq ?_⟩
 refine wp_mono (hx.wp ds w0 μ E W a hf hfree hg hw) fun e a' W' hp => ?_
 obtain ⟨rfl, μ', p1, p2, p3, p4⟩ := hp
 exact wp_mono (hy.wp ds w0 μ' E W' a' p2 p3 (hg.ext p1.ext) p4) fun e a w q => q.trans p1 hx.dom.next
end
end Go.Proofs.YtokdiacjcbolfaaDoor.X
namespace Go.Proofs.YtokdiacjcbolfaaDoor.X
open Go Go.RowKit
set_option linter.unusedVariables false
set_option linter.unusedSimpArgs false
section
variable {ds : List Deferred} {P : Program} {ng : Nat} {w0 W : World} {μ : Nat → Option Loc} {H : Heap} {E : Nat → Option AObj} {fr : List Value} {a : Act} {ops : Array Oper}
theorem runO_pre (hN : NoNum P) {call : CallF} (hcall : ∀ f args H v H', call f args H = some (v, H') → q1o P ng f args H v H') {Q : Exit → Act → World → Prop} (l2 : List Oper) : ∀ (l : List Oper) (fr : List Value) (H : Heap) (fr' : List Value) (H' : Heap) (μ : Nat → Option Loc) (a : Act) (W : World),
  runO P ng call ops l fr H = some (fr', H') → FR ds μ fr a → Free μ H.next → Glob μ ng → HR P w0 μ (ov H E) W → (∀ a' W', PostO ds P w0 μ E H.next fr' H' a' W' → wpList P ops Q l2 a' W') → wpList P ops Q (l ++ l2) a W := by
 intro l
 induction l with
 | nil =>
  intro fr H fr' H' μ a W h hf hfree hg hw hQ
  simp only [runO_nil, Option.some.injEq, Prod.mk.injEq] at h
  obtain ⟨rfl, rfl⟩ := h
  exact hQ a W ⟨μ, .refl _ μ, hf, hfree, hw⟩
 | cons o r ih =>
  intro fr H fr' H' μ a W h hf hfree hg hw hQ
  rw [runO_cons] at h
  unfold stepO at h
  rw [List.cons_append]
  unfold wpList
  rw [hf.want]
  split at h
  ·rename_i hwant
   rw [hwant, if_neg (by simp)]
   exact ih _ _ _ _ μ _ W h (hf.put o.dst VR.undef) hfree hg hw hQ
  ·rename_i hwant
   rw [hwant, if_pos rfl]
   split at h
   ·cases h
   ·rename_i h1
    split at h
    ·cases h
    ·rename_i res h2
     split at h
     ·cases h
     ·rename_i v H1 h3
      rw [aopQ_eq] at h2
      refine .inl (stepP hN hcall (FR.opsR hf hg (q3m h1)) h2 h3 hfree hg hw fun μ' v' W' e1 e2 e3 e4 => ?_)
      refine ih _ _ _ _ μ' _ W' h ((hf.ext e1.ext).put o.dst e2) e3 (hg.ext e1.ext) e4 fun a' W'' hp => hQ a' W'' ?_
      obtain ⟨μ2, p1, p2, p3, p4⟩ := hp
      exact ⟨μ2, e1.trans p1 (q2d hcall h3).next, p2, p3, p4⟩
theorem wpList_call (hN : NoNum P) {o : Oper} {r : List Oper} {f : Nat} {args : List Value} {Q : Exit → Act → World → Prop} {R : Ending → World → Prop} (hwant : awant ops fr o = true) (h1 : opsOk ng o.op = true) (h2 : aopQ P H.get o (aev fr) = some (.enter f args))
  (hbody : ((P.funcs[f]?).bind (·.body)).isSome = true) (hf : FR ds μ fr a) (hg : Glob μ ng) (hw : HR P w0 μ (ov H E) W) (hc : ∀ args' : Array Value, VL μ args args'.toList → Calls P f args' W R)
  (hk : ∀ e W', R e W' → (∃ v', e = .returned v' ∧ wpList P ops Q r (a.put o.dst v') W') ∨ (∃ c, e = .panicked c ∧ Q (.panic c) a W')) : wpList P ops Q (o :: r) a W := by
 unfold wpList
 rw [hf.want, hwant, if_pos rfl]
 left
 rw [aopQ_eq] at h2
 have hok : AOk P w0 μ (ov H E) W ((execOp a.eval o).run P W) (.enter f args) := aop_ok (aop_mono (LeG.ov H E) h2) (FR.opsR hf hg (q3m h1)) hw
 obtain ⟨args', q1, q2⟩ := hok
 unfold Oper.wp
 cases hb : (P.funcs[f]?).bind (·.body) with
 | none => rw [hb] at hbody; cases hbody
 | some c =>
  have hrun : (callFunc f args').run P W = .ok (.enter f args') W := by
   cases hfn : P.funcs[f]? with
   | none => simp [hfn] at hb
   | some fn =>
    simp only [hfn, Option.bind_some] at hb
    have hne := hN f fn hfn (by rw [hb]; rfl)
    simp [callFunc, hfn, hne, hb]
  rw [q1, hrun, Oper.upon_enter]
  refine (hc args' q2).mono fun e W' hR => ?_
  rcases hk e W' hR with ⟨v', rfl, h⟩ | ⟨c, rfl, h⟩
  ·exact h
  ·exact h
theorem wpList_fix {n : Nat} {l : List (Nat × Value)} {o : Oper} {r : List Oper} {Q : Exit → Act → World → Prop} (ha : Has n l a) (v : Value) (hok : (known l o && onB l ops o.guard) = true) (hx : (execOp (ev l) o).run P W = .ok (.value v) W)
  (h : wpList P ops Q r (a.put o.dst v) W) : wpList P ops Q (o :: r) a W := by
 simp only [Bool.and_eq_true] at hok
 unfold wpList
 rw [if_pos (ha.on ops o hok.2)]
 refine .inl ?_
 unfold Oper.wp
 rw [exec_eq ha o hok.1, hx, Oper.upon_value]
 exact h
end
noncomputable def runDp (P : Program) (ng : Nat) (call : CallF) (ops : Array Oper) (fr : List Value) (H : Heap) : Option (List Value × Heap × List (List (Option ARes × Option ARes))) := match chkB ops && chkM ops (masks ops.toList) && dstB fr.length ops with
 | false => none
 | true => match passD P ng call ops H.next (masks ops.toList) ops.toList 0 fr ⟨H.next + ops.size, H.t⟩ [] [] [⟨H.next + ops.size, H.t⟩] [] with
  | none => none
  | some C => match chkC (masks ops.toList) C.effs with
   | false => none
   | true => match chkA H.next (masks ops.toList) C with
    | false => none
    | true => match C.frs[ops.size]?, C.hs[C.effs.length]? with
     | some fr', some S => some (fr', addA H.next (2 ^ ops.size - 1) C.recs 0 S, pairsW P H.next (masks ops.toList) ops C)
     | _, _ => none
section
variable {P : Program} {ng : Nat} {call : CallF} {ops : Array Oper} {fr : List Value} {H : Heap}
theorem runDp_cert {fr' : List Value} {H' : Heap} {ps : List (List (Option ARes × Option ARes))} (h : runDp P ng call ops fr H = some (fr', H', ps)) (hp : ps.map (·.map Prod.fst) = ps.map (·.map Prod.snd)) : CertOk P ng call ops fr H fr' H' := by
 unfold runDp at h
 split at h
 ·cases h
 ·rename_i hb
  simp only [Bool.and_eq_true] at hb
  split at h
  ·cases h
  ·rename_i C hC
   split at h
   ·cases h
   ·rename_i he
    split at h
    ·cases h
    ·rename_i ha
     split at h
     ·rename_i f S hf hS
      simp only [Option.some.injEq, Prod.mk.injEq] at h
      obtain ⟨rfl, rfl, rfl⟩ := h
      obtain ⟨S2, hI, hle⟩ := passD_ok (P := P) (ng := ng) (call := call) (ops := ops) (base := H.next) (ms := masks ops.toList) ops.toList 0 fr ⟨H.next + ops.size, H.t⟩ [] [] [⟨H.next + ops.size, H.t⟩] [] C (by simp) (Nat.zero_le _)
       ⟨rfl, rfl, rfl, rfl, fun l e he => by simp at he, fun j v hj => by simp at hj, fun l m e he => by simp at he, fun l e he => by simp at he, fun j hj => by omega⟩ hC
      obtain ⟨⟨x1, e1⟩, ⟨x2, e2⟩, ⟨x3, e3⟩, ⟨x4, e4⟩⟩ := hle
      exact ⟨C, S, ⟨hb.1.1, hb.1.2, hb.2, .inr ⟨he, pairsW_prop hp⟩, ha, by rw [e2]; rfl, hI.recs, hI.hs, hI.lt, hI.inc, hI.effr, hI.val⟩, hf, hS, by rw [e3]; rfl, rfl⟩
     ·cases h
theorem codeOk_drawn (hN : NoNum P) (hmix : P.follows .mixedOrders = true) (hcall : ∀ f args H v H', call f args H = some (v, H') → q1o P ng f args H v H') {id : Nat} {fr' : List Value} {H' : Heap} (h : (runDp P ng call ops fr H).map (fun x => (x.1, x.2.1)) = some (fr', H'))
  (hp : (runDp P ng call ops fr H).map (fun x => x.2.2.map (·.map Prod.fst)) = (runDp P ng call ops fr H).map (fun x => x.2.2.map (·.map Prod.snd))) : q3e P ng (.region id ops true) fr H .normal fr' H' := by
 cases hr : runDp P ng call ops fr H with
 | none => rw [hr] at h; cases h
 | some x =>
  rw [hr] at h hp
  simp only [Option.map_some, Option.some.injEq, Prod.mk.injEq] at h hp
  obtain ⟨rfl, rfl⟩ := h
  have hc : CertOk P ng call ops fr H x.1 x.2.1 := runDp_cert hr hp
  exact ⟨(runD_domC hcall hc).1, fun ds w0 μ E W a hf hfree hg hw => runD_okC hN hmix hcall hc hf hfree hg hw fun a' W' hq => ⟨rfl, hq⟩⟩
end
def isDrw : Code → Bool
 | .region _ _ true => true
 | _ => false
def q28 : Code → Array Oper
 | .region _ ops _ => ops
 | _ => #[]
def regId : Code → Nat
 | .region id _ _ => id
 | _ => 0
def isLit : Code → Bool
 | .region _ _ false => true
 | _ => false
theorem lit_split {c : Code} (h : isLit c = true) : c = .region (regId c) (q28 c) false := by
 cases c with
 | region id ops d => cases d with
  | false => rfl
  | true => cases h
 | _ => cases h
theorem drw_split {c : Code} (h : isDrw c = true) : c = .region (regId c) (q28 c) true := by
 cases c with
 | region id ops d => cases d with
  | true => rfl
  | false => cases h
 | _ => cases h
def isBlk : Code → Bool
 | .block _ _ => true
 | _ => false
def blkC : Code → Code
 | .block _ x => x
 | _ => .skip
def blkI : Code → Nat
 | .block i _ => i
 | _ => 0
theorem blk_split {c : Code} (h : isBlk c = true) : c = .block (blkI c) (blkC c) := by
 cases c with
 | block id x => rfl
 | _ => cases h
end Go.Proofs.YtokdiacjcbolfaaDoor.X
namespace Go.Proofs.YtokdiacjcbolfaaDoor.X
open Go Go.RowKit
set_option linter.unusedVariables false
set_option linter.unusedSimpArgs false
noncomputable def gB : Code := bodyOf Tryd.prog 34
noncomputable def gB1 : Code := seqR gB
noncomputable def gB2 : Code := seqR gB1
noncomputable def gB3 : Code := seqR gB2
noncomputable def gC : Code := bodyOf Tryd.prog 51
noncomputable def gC1 : Code := blkC (seqR gC)
noncomputable def gC2 : Code := seqR gC1
noncomputable def gC3 : Code := ifF gC2
noncomputable def gC4 : Code := seqR gC3
noncomputable def gC5 : Code := ifT gC4
noncomputable def gcall : CallF := runF Tryd.prog 0 nolib 4
noncomputable def ggo : Code → List Value → Heap → Option (Ex × List Value × Heap) := runC Tryd.prog 0 nolib 4
def gpn (k : Nat) : Value := .pointer (some ⟨k, 0, none⟩)
def gfr0 (s : ByteArray) : List Value := .string s :: List.replicate 15 undef
def gfr1 (s : ByteArray) : List Value := [.string s, undef, gpn 0, gpn 1, gpn 2, gpn 3] ++ List.replicate 10 undef
def gcap : List Value := [gpn 0, gpn 1, gpn 2, gpn 3]
def gfr2 (s : ByteArray) : List Value := [.string s, undef, gpn 0, gpn 1, gpn 2, gpn 3, .func (.func 51) #[] #[gpn 0, gpn 1, gpn 2, gpn 3]] ++ List.replicate 9 undef
def gfr3 (s : ByteArray) : List Value := [.string s, undef, gpn 0, gpn 1, gpn 2, gpn 3, .func (.func 51) #[] #[gpn 0, gpn 1, gpn 2, gpn 3], undef, .string s] ++ List.replicate 7 undef
noncomputable def gH1 : Heap := ((runT Tryd.prog 0 gcall ggo (seqL gB) (gfr0 ⟨#[]⟩) [] (heap0 0)).map (·.2.2.2)).getD (heap0 0)
set_option maxRecDepth 100000 in
theorem gN : NoNum Tryd.prog := noNum_of (by kernel_rfl)
set_option maxRecDepth 100000 in
theorem gM : Tryd.prog.follows .mixedOrders = true := by kernel_rfl
set_option maxRecDepth 100000 in
theorem q3t : ∀ f args H v H', gcall f args H = some (v, H') → q1o Tryd.prog 0 f args H v H' := runF_ok gN gM (nolib_ok _ _) 4
set_option maxRecDepth 100000 in
theorem ggo_ok : ∀ c fr H ex fr' H', ggo c fr H = some (ex, fr', H') → q3e Tryd.prog 0 c fr H ex fr' H' := (runC_ok gN gM (nolib_ok _ _) 4).1
set_option maxRecDepth 100000 in
theorem gtok1 (s : ByteArray) : TOk Tryd.prog 0 (seqL gB) (gfr0 s) [] (heap0 0) .normal (gfr1 s) [] gH1 := runT_ok gN q3t ggo_ok _ _ _ _ _ _ _ _ (by kernel_rfl)
set_option maxRecDepth 100000 in
theorem gtok2 (s : ByteArray) : TOk Tryd.prog 0 (seqL gB1) (gfr1 s) [] gH1 .normal (gfr2 s) [(51, gcap)] gH1 := runT_ok gN q3t ggo_ok _ _ _ _ _ _ _ _ (by kernel_rfl)
set_option maxRecDepth 100000 in
theorem gmu {k : Nat} {q : Loc} {p : Prop} (hk : mu0 0 k = some q) : p := by
 unfold mu0 at hk
 split at hk
 ·rename_i h1; have := Nat.le_of_ble_eq_true h1; omega
 ·cases hk
set_option maxRecDepth 100000 in
theorem gglob (μ : Nat → Option Loc) : Glob μ 0 := fun g hg => absurd hg (by omega)
set_option maxRecDepth 100000 in
theorem get_start (s : ByteArray) (w : World) (R : Ending → World → Prop) (Rg : World → Ending → World → Prop) (h : ∀ W, Below w.heap.size w W → Calls Tryd.prog 52 #[.string s] W (Rg W))
  (hk : ∀ (W0 W : World) (e : Ending) (μ : Nat → Option Loc) (a : Act) (Ds : List Deferred), Rg W0 e W → HR Tryd.prog w μ (ov gH1 fun _ => none) W0 → DR μ [(51, gcap)] Ds → FR Ds μ (gfr3 s) a → Free μ gH1.next →
   (∃ v', e = .returned v' ∧ wpList Tryd.prog (q28 (seqL gB2)) (Exit.then (gB3.wp Tryd.prog (bodyPostD Tryd.prog Tryd.f34 R)) (bodyPostD Tryd.prog Tryd.f34 R)) ((q28 (seqL gB2)).toList.drop 2) (a.put (some 9) v') W) ∨
   (∃ c, e = .panicked c ∧ bodyPostD Tryd.prog Tryd.f34 R (.panic c) a W)) : Calls Tryd.prog 34 #[.string s] w R := by
 have hsp : gB = .seq (seqL gB) gB1 := q2y (by kernel_rfl)
 have hsp1 : gB1 = .seq (seqL gB1) gB2 := q2y (by kernel_rfl)
 have hsp2 : gB2 = .seq (seqL gB2) gB3 := q2y (by kernel_rfl)
 refine calls_of_wp_defers (fn := Tryd.f34) (c := gB) (by kernel_rfl) (by kernel_rfl) ?_
 have hf0 : FR [] (mu0 0) (gfr0 s) { tmps := #[Value.string s] ++ Array.replicate (Tryd.f34.ntmps - (#[Value.string s] : Array Value).size) undef, defers := [] } := by
  refine ⟨rfl, ?_⟩
  have e : (#[Value.string s] ++ Array.replicate (Tryd.f34.ntmps - (#[Value.string s] : Array Value).size) undef).toList = gfr0 s := by
   rw [Array.toList_append, Array.toList_replicate]; rfl
  rw [e]
  refine ⟨rfl, fun i x y hx hy => ?_⟩
  rw [hx] at hy; cases hy
  rcases i with _ | i
  ·simp [gfr0] at hx; subst hx; exact .string s
  ·have : x ∈ List.replicate 15 undef := List.mem_of_getElem? (i := i) (by simpa [gfr0] using hx)
   rw [List.eq_of_mem_replicate this]; exact VR.undef
 have hfree0 : Free (mu0 0) (heap0 0).next := fun k hk => by
  unfold mu0
  split
  ·rename_i h1; have := Nat.le_of_ble_eq_true h1; omega
  ·rfl
 have hw0 : HR Tryd.prog w (mu0 0) (ov (heap0 0) fun _ => none) w := ⟨Below.refl _ _, fun k c e hk => (by simp [ov, heap0, Heap.get, Trie.get] at hk), fun k c e hk => (by simp [ov, heap0, Heap.get, Trie.get] at hk), fun k k' c c' e e' l l' hk => (by simp [ov, heap0, Heap.get, Trie.get] at hk),
    fun k c e hk => (by simp [ov, heap0, Heap.get, Trie.get] at hk), fun k k' c c' e e' l l' hk => (by simp [ov, heap0, Heap.get, Trie.get] at hk)⟩
 rw [hsp]
 refine wp_seq (wp_mono ((gtok1 s).wp [] w (mu0 0) (fun _ => none) w _ hf0 .nil hfree0 (gglob _) hw0) fun e a1 W1 hp => ?_)
 obtain ⟨rfl, Ds1, μ1, hd1, _, hf1, hfree1, hw1⟩ := hp
 show gB1.wp _ _ _ _
 rw [hsp1]
 refine wp_seq (wp_mono ((gtok2 s).wp Ds1 w μ1 (fun _ => none) W1 a1 hf1 hd1 hfree1 (gglob _) hw1) fun e a2 W2 hp => ?_)
 obtain ⟨rfl, Ds2, μ2, hd2, _, hf2, hfree2, hw2⟩ := hp
 show gB2.wp _ _ _ _
 rw [hsp2, lit_split (c := seqL gB2) (by kernel_rfl)]
 refine wp_seq (wp_region_list ?_)
 have hcut : (q28 (seqL gB2)).toList = (q28 (seqL gB2)).toList.take 1 ++ ((q28 (seqL gB2)).toList.drop 1) := (List.take_append_drop 1 _).symm
 show wpList _ (q28 (seqL gB2)) _ _ _ _
 rw [hcut]
 refine runO_pre (call := gcall) gN q3t _ _ (gfr2 s) gH1 (gfr3 s) gH1 μ2 a2 W2 (by kernel_rfl) hf2 hfree2 (gglob _) hw2 fun a3 W3 hp => ?_
 obtain ⟨μ3, e3, hf3, hfree3, hw3⟩ := hp
 have hcut2 : (q28 (seqL gB2)).toList.drop 1 = ((q28 (seqL gB2)).toList.getD 1 (default : Oper)) :: (q28 (seqL gB2)).toList.drop 2 := by kernel_rfl
 rw [hcut2]
 refine wpList_call (H := gH1) (f := 52) (args := [.string s]) (R := Rg W3) gN (by kernel_rfl) (by kernel_rfl) (by kernel_rfl) (by kernel_rfl) hf3 (gglob _) hw3 (fun args' hv => ?_) fun e W' hR => ?_
 ·obtain ⟨y, ys, hy, h1, h2⟩ := hv.inv_cons
  obtain rfl := h2.inv_nil
  cases h1
  have : args' = #[.string s] := by apply Array.ext'; simpa using hy
  rw [this]
  exact h W3 hw3.below
 ·have hdst : ((q28 (seqL gB2)).toList.getD 1 (default : Oper)).dst = some 9 := by kernel_rfl
  rw [hdst]
  exact hk W3 W' e μ3 a3 Ds2 hR hw3 (hd2.ext e3.ext) hf3 hfree3
def gtup (n : Int) (t : ByteArray) (z : Int) : Value := .tuple #[.int .u64 n, .string t, .int .i64 z]
def gfr4 (s : ByteArray) (n : Int) (t : ByteArray) (z : Int) : List Value := [.string s, undef, gpn 0, gpn 1, gpn 2, gpn 3, .func (.func 51) #[] #[gpn 0, gpn 1, gpn 2, gpn 3], undef, .string s, gtup n t z] ++ List.replicate 6 undef
noncomputable def gR4 (s : ByteArray) (n : Int) (t : ByteArray) (z : Int) : List Value × Heap := (runO Tryd.prog 0 gcall (q28 (seqL gB2)) ((q28 (seqL gB2)).toList.drop 2) (gfr4 s n t z) gH1).getD ([], heap0 0)
noncomputable def gR5 (s : ByteArray) (n : Int) (t : ByteArray) (z : Int) : Ex × List Value × Heap := ((runDp Tryd.prog 0 gcall (q28 (seqL gB3)) (gR4 s n t z).1 (gR4 s n t z).2).map fun x => (Ex.ret, x.1, x.2.1)).getD (.normal, [], heap0 0)
noncomputable def gR6 (s : ByteArray) (n : Int) (t : ByteArray) (z : Int) : Heap := (runDs Tryd.prog 0 gcall ggo [(51, gcap)] (gR5 s n t z).2.2).getD (heap0 0)
set_option maxRecDepth 100000 in
theorem get_ok (s : ByteArray) (n : Int) (t : ByteArray) (z : Int) (w : World) (h : ∀ W, Below w.heap.size w W → Calls Tryd.prog 52 #[.string s] W fun e W' => e = .returned (gtup n t z) ∧ Below W.heap.size W W') :
  Calls Tryd.prog 34 #[.string s] w fun e W' => e = .returned (.tuple #[.int .u64 n, .string t, .int .i64 z, .int .i64 0]) ∧ Below w.heap.size w W' := by
 refine (get_start s w (fun e W' => ∃ μ' v', e = Ending.returned v' ∧ ExtN 0 (mu0 0) μ' ∧ VR μ' (oneOf [Value.int .u64 n, .string t, .int .i64 z, .int .i64 0]) v' ∧ Free μ' (gR6 s n t z).next ∧ HR Tryd.prog w μ' (ov (gR6 s n t z) fun _ => none) W') (fun W e W' => e = .returned (gtup n t z) ∧ Below W.heap.size W W') h fun W0 W e μ a Ds hR hw hd hf hfree => .inl ?_).mono ?_
 rotate_left
 ·rintro e W' ⟨μ', v', rfl, _, hv, _, hR⟩
  exact ⟨by rw [flat_eq (v := oneOf [Value.int .u64 n, .string t, .int .i64 z, .int .i64 0]) rfl hv]; rfl, hR.below⟩
 obtain ⟨rfl, hb⟩ := hR
 refine ⟨_, rfl, ?_⟩
 have hw := hw.of_below hb
 have hf4 : FR Ds μ (gfr4 s n t z) (a.put (some 9) (gtup n t z)) := hf.put (some 9) (v := gtup n t z) (q1w rfl)
 refine runO_ok (call := gcall) gN q3t _ _ gH1 (gR4 s n t z).1 (gR4 s n t z).2 μ _ W (by kernel_rfl) hf4 hfree (gglob _) hw fun a4 W4 hp => ?_
 obtain ⟨μ4, e4, hf4, hfree4, hw4⟩ := hp
 have hc5 : q3e Tryd.prog 0 gB3 (gR4 s n t z).1 (gR4 s n t z).2 .ret (gR5 s n t z).2.1 (gR5 s n t z).2.2 := by
  have h1 : gB3 = .seq (seqL gB3) (seqR gB3) := q2y (by kernel_rfl)
  rw [h1, drw_split (c := seqL gB3) (by kernel_rfl)]
  exact codeOk_seq (codeOk_drawn (call := gcall) (fr' := (gR5 s n t z).2.1) (H' := (gR5 s n t z).2.2) gN gM q3t (by kernel_rfl) (by kernel_rfl)) (ggo_ok _ _ _ _ _ _ (by kernel_rfl))
 show gB3.wp _ _ _ _
 refine wp_mono (hc5.wp Ds w μ4 (fun _ => none) W4 a4 hf4 hfree4 (gglob _) hw4) fun e a5 W5 hp => ?_
 obtain ⟨rfl, μ5, e5, hf5, hfree5, hw5⟩ := hp
 have hds : runDs Tryd.prog 0 gcall ggo [(51, gcap)] (gR5 s n t z).2.2 = some (gR6 s n t z) := by kernel_rfl
 have hvs : ares Tryd.prog (gR5 s n t z).2.1 (gR6 s n t z) Tryd.f34.results.toList = some [.int .u64 n, .string t, .int .i64 z, .int .i64 0] := by kernel_rfl
 have hL := runDs_ok gN q3t ggo_ok (fn := Tryd.f34) hvs (n := 0) (μ0 := mu0 0) (w0 := w) (E := fun _ => none) _ _ Ds Ds μ5 W5 hds (Nat.zero_le _) ⟨fun k q hk => gmu hk, fun k hk => absurd hk (by omega)⟩ ((hd.ext e4.ext).ext e5.ext) hf5 hfree5 (gglob _) hw5
 rw [← hf5.1] at hL
 exact hL
def gpv (k : Int) : Value := .iface 93 (.agg #[.int .i64 k])
def gfc0 : List Value := gcap ++ List.replicate 11 undef
noncomputable def gfc1 (k : Int) : List Value := fput gfc0 (some 7) (gpv k)
noncomputable def gfc2 (k : Int) : List Value := fput (gfc1 k) (some 9) (.bool false)
noncomputable def gfc3 (k : Int) : List Value := fput (fput (fput (gfc2 k) (some 10) (.tuple #[.agg #[.int .i64 k], .bool true])) (some 11) (.bool true)) (some 12) (.agg #[.int .i64 k])
noncomputable def gRB (k : Int) : Ex × List Value × Heap := (ggo (seqL gC5) (gfc3 k) gH1).getD (.normal, [], heap0 0)
noncomputable def gRC (k : Int) : Ex × List Value × Heap := ((runDp Tryd.prog 0 gcall (q28 (seqR gC5)) (gRB k).2.1 (gRB k).2.2).map fun x => (Ex.normal, x.1, x.2.1)).getD (.normal, [], heap0 0)
noncomputable def goC : Oper := (q28 (seqL gC)).toList.getD 0 default
set_option maxRecDepth 100000 in
theorem get_pan (s : ByteArray) (k : Int) (w : World) (h : ∀ W, Below w.heap.size w W → Calls Tryd.prog 52 #[.string s] W fun e W' => e = .panicked [{ v := gpv k, recovered := false }] ∧ Below W.heap.size W W') :
  Calls Tryd.prog 34 #[.string s] w fun e W' => e = .returned (.tuple #[.int .u64 0, .string ⟨#[]⟩, .int .i64 0, .int .i64 k]) ∧ Below w.heap.size w W' := by
 refine get_start s w _ (fun W e W' => e = .panicked [{ v := gpv k, recovered := false }] ∧ Below W.heap.size W W') h fun W0 W e μ a Ds hR hw hd hf hfree => .inr ?_
 obtain ⟨rfl, hb⟩ := hR
 refine ⟨_, rfl, ?_⟩
 have hw := hw.of_below hb
 show Leaves _ _ _ _ _ _ _
 rw [hf.1]
 cases hd with
 | cons hd1 hds =>
  cases hds
  obtain ⟨cap, args, rfl, hv⟩ := hd1
  have hv : VL μ gcap (args ++ cap).toList := by simpa using hv
  have hsz : (args ++ cap).size = 4 := by have := hv.1; simpa [gcap] using this.symm
  refine leaves_cons (f := 51) (args := args ++ cap) (by simp) ?_ ?_
  ·have hne := gN 51 Tryd.f51 (by kernel_rfl) (by kernel_rfl)
   have hfn : Tryd.prog.funcs[51]? = some Tryd.f51 := by kernel_rfl
   have hbn : Tryd.f51.body = some gC := by kernel_rfl
   simp [invoke, callFunc, hfn, hne, hbn]
  ·refine callsD_of_wpS (fn := Tryd.f51) (c := gC) (by kernel_rfl) (by kernel_rfl) fun c0 cs hmode => ?_
   have hf0 : FR [] μ gfc0 { tmps := (args ++ cap) ++ Array.replicate (Tryd.f51.ntmps - (args ++ cap).size) undef, defers := [] } := by
    refine ⟨rfl, ?_⟩
    have hn : Tryd.f51.ntmps - (args ++ cap).size = 11 := by rw [hsz]; kernel_rfl
    simp only [hn]
    rw [Array.toList_append, Array.toList_replicate]
    refine hv.append ⟨rfl, fun i x y hx hy => ?_⟩
    rw [hx] at hy; cases hy
    rw [List.eq_of_mem_replicate (List.mem_of_getElem? hx)]; exact VR.undef
   generalize ({ tmps := (args ++ cap) ++ Array.replicate (Tryd.f51.ntmps - (args ++ cap).size) undef, defers := [] } : Act) = a0 at hf0 ⊢
   have hsp : gC = .seq (seqL gC) (seqR gC) := q2y (by kernel_rfl)
   rw [hsp, lit_split (c := seqL gC) (by kernel_rfl)]
   refine wpS_seq (wpS_region ?_)
   have hrg : List.range (q28 (seqL gC)).size = [0] := by kernel_rfl
   rw [hrg]
   have ho : (q28 (seqL gC))[0]? = some goC := by kernel_rfl
   unfold wpOpsS
   simp only [ho]
   have hwant : awant (q28 (seqL gC)) gfc0 goC = true := by kernel_rfl
   rw [hf0.want, hwant, if_pos rfl, isRec_run (by kernel_rfl)]
   have hrec : recoverD (c0 :: cs) = some (gpv k, { c0 with mode := .panicking [{ v := gpv k, recovered := true }] } :: cs) := by simp [recoverD, hmode]
   simp only [hrec]
   have hdst : goC.dst = some 7 := by kernel_rfl
   rw [hdst]
   have hf1 : FR [] μ (gfc1 k) (a0.put (some 7) (gpv k)) := hf0.put (some 7) (v := gpv k) (.iface (q1w rfl))
   have hl7 : (a0.put (some 7) (gpv k)).tmps.toList.length = 15 := hf1.2.1.symm.trans (by rfl)
   have h7 : (a0.put (some 7) (gpv k)).tmps[7]? = some (gpv k) := by
    have h8 : (a0.tmps).size = 15 := by simpa [Act.put] using hl7
    simp [Act.put, h8]
   generalize a0.put (some 7) (gpv k) = a1 at hf1 hl7 h7 ⊢
   show Code.wpS _ _ _ _ _ _
   refine wpS_of_wp ?_
   rw [blk_split (c := seqR gC) (by kernel_rfl)]
   refine wp_block ?_
   show Code.wp _ gC1 _ _ _
   have hsp1 : gC1 = .seq (seqL gC1) gC2 := q2y (by kernel_rfl)
   rw [hsp1, lit_split (c := seqL gC1) (by kernel_rfl)]
   refine wp_seq (wp_region_list ?_)
   have hl1 : (q28 (seqL gC1)).toList = [(q28 (seqL gC1)).toList.getD 0 default] := by kernel_rfl
   rw [hl1]
   have ha1 : Has 15 [(7, gpv k)] a1 := (q0a (by simpa using hl7) hf1.1).add h7
   have hd9 : ((q28 (seqL gC1)).toList.getD 0 default).dst = some 9 := by kernel_rfl
   refine wpList_fix ha1 (.bool false) (by kernel_rfl) (by kernel_rfl) ?_
   rw [hd9]
   have hf2 : FR [] μ (gfc2 k) (a1.put (some 9) (.bool false)) := hf1.put (some 9) (v := .bool false) (.bool _)
   have ha2 : Has 15 [(7, gpv k)] (a1.put (some 9) (.bool false)) := ⟨by have := ha1.size; simpa [Act.put] using this, hf2.1, fun s v hs => by
    have h1 := ha1.slot s v hs
    have hs7 : s = 7 := by
     simp only [look] at hs
     split at hs
     ·rename_i hb; exact (Nat.eq_of_beq_eq_true hb).symm
     ·cases hs
    subst hs7
    show (a1.tmps.setIfInBounds 9 _)[7]? = some v
    rw [Array.getElem?_setIfInBounds, if_neg (by omega)]
    exact h1⟩
   have he9 : (a1.put (some 9) (.bool false)).eval (.tmp 9) = .bool false := by
    have := hf2.ev (gglob μ) (x := .tmp 9) rfl
    exact q1j (v := .bool false) rfl this
   generalize a1.put (some 9) (.bool false) = a2 at hf2 ha2 he9 ⊢
   show Code.wp _ gC2 _ _ _
   rw [if_split (c := gC2) (by kernel_rfl)]
   have hb2 : ifB gC2 = .tmp 9 := by kernel_rfl
   rw [hb2]
   refine wp_cond_false he9 ?_
   show Code.wp _ gC3 _ _ _
   have hsp3 : gC3 = .seq (seqL gC3) gC4 := q2y (by kernel_rfl)
   rw [hsp3, lit_split (c := seqL gC3) (by kernel_rfl)]
   refine wp_seq (wp_region_list ?_)
   have hl3 : (q28 (seqL gC3)).toList = [(q28 (seqL gC3)).toList.getD 0 default, (q28 (seqL gC3)).toList.getD 1 default, (q28 (seqL gC3)).toList.getD 2 default] := by kernel_rfl
   rw [hl3]
   refine wpList_fix ha2 (.tuple #[.agg #[.int .i64 k], .bool true]) (by kernel_rfl) (by kernel_rfl) ?_
   have hd10 : ((q28 (seqL gC3)).toList.getD 0 default).dst = some 10 := by kernel_rfl
   have hd11 : ((q28 (seqL gC3)).toList.getD 1 default).dst = some 11 := by kernel_rfl
   have hd12 : ((q28 (seqL gC3)).toList.getD 2 default).dst = some 12 := by kernel_rfl
   rw [hd10]
   have hf3 := hf2.put (some 10) (v := .tuple #[.agg #[.int .i64 k], .bool true]) (v' := .tuple #[.agg #[.int .i64 k], .bool true]) (q1w rfl)
   generalize a2.put (some 10) (.tuple #[.agg #[.int .i64 k], .bool true]) = a3 at hf3 ⊢
   have ha3 : Has 15 [(10, .tuple #[.agg #[.int .i64 k], .bool true])] a3 := by
    have hl : a3.tmps.toList.length = 15 := hf3.2.1.symm.trans (by rfl)
    refine (q0a (by simpa using hl) hf3.1).add ?_
    obtain ⟨y, h1, h2⟩ := hf3.2.get (i := 10) (x := .tuple #[.agg #[.int .i64 k], .bool true]) (by rfl)
    rw [flat_eq rfl h2] at h1
    simpa using h1
   refine wpList_fix ha3 (.bool true) (by kernel_rfl) (by kernel_rfl) ?_
   rw [hd11]
   have hf4 := hf3.put (some 11) (v := .bool true) (v' := .bool true) (q1w rfl)
   generalize a3.put (some 11) (.bool true) = a4 at hf4 ⊢
   have ha4 : Has 15 [(10, .tuple #[.agg #[.int .i64 k], .bool true])] a4 := by
    have hl : a4.tmps.toList.length = 15 := hf4.2.1.symm.trans (by rfl)
    refine (q0a (by simpa using hl) hf4.1).add ?_
    obtain ⟨y, h1, h2⟩ := hf4.2.get (i := 10) (x := .tuple #[.agg #[.int .i64 k], .bool true]) (by rfl)
    rw [flat_eq rfl h2] at h1
    simpa using h1
   refine wpList_fix ha4 (.agg #[.int .i64 k]) (by kernel_rfl) (by kernel_rfl) ?_
   rw [hd12]
   have hf5 : FR [] μ (gfc3 k) (a4.put (some 12) (.agg #[.int .i64 k])) := hf4.put (some 12) (v := .agg #[.int .i64 k]) (q1w rfl)
   generalize a4.put (some 12) (.agg #[.int .i64 k]) = a5 at hf5 ⊢
   have he11 : a5.eval (.tmp 11) = .bool true := q1j (v := .bool true) rfl (hf5.ev (gglob μ) (x := .tmp 11) rfl)
   show Code.wp _ gC4 _ _ _
   rw [if_split (c := gC4) (by kernel_rfl)]
   have hb4 : ifB gC4 = .tmp 11 := by kernel_rfl
   rw [hb4]
   refine wp_cond_true he11 ?_
   show Code.wp _ gC5 _ _ _
   have hc : q3e Tryd.prog 0 gC5 (gfc3 k) gH1 .normal (gRC k).2.1 (gRC k).2.2 := by
    have h1 : gC5 = .seq (seqL gC5) (seqR gC5) := q2y (by kernel_rfl)
    rw [h1, drw_split (c := seqR gC5) (by kernel_rfl)]
    exact codeOk_seq (fr1 := (gRB k).2.1) (H1 := (gRB k).2.2) (ggo_ok _ _ _ _ _ _ (by kernel_rfl)) (codeOk_drawn (call := gcall) (fr' := (gRC k).2.1) (H' := (gRC k).2.2) gN gM q3t (by kernel_rfl) (by kernel_rfl))
   refine wp_mono (hc.wp [] w μ (fun _ => none) W a5 hf5 hfree (gglob μ) hw) fun e a6 W6 hp => ?_
   obtain ⟨rfl, μ6, e6, hf6, hfree6, hw6⟩ := hp
   obtain ⟨v27, r1, r2⟩ := q34 (fn := Tryd.f51) (vs := []) (LeG.ov (gRC k).2.2 (fun _ => none)) hf6 hw6 (by kernel_rfl)
   refine ⟨hf6.1, _, rfl, v27, r1, ?_⟩
   obtain ⟨v14, q1, q2⟩ := q34 (fn := Tryd.f34) (vs := [.int .u64 0, .string ⟨#[]⟩, .int .i64 0, .int .i64 k]) (LeG.ov (gRC k).2.2 (fun _ => none)) (hf.ext e6.ext) hw6 (by kernel_rfl)
   refine ⟨v14, q1, ?_, hw6.below⟩
   rw [flat_eq (v := oneOf [.int .u64 0, .string ⟨#[]⟩, .int .i64 0, .int .i64 k]) rfl q2]
   rfl
end Go.Proofs.YtokdiacjcbolfaaDoor.X
