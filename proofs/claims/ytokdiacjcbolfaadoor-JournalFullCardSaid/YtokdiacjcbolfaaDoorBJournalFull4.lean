import Derived.Laws.Externs
import Derived.Laws.IdiomStrings
import Derived.Test.YtokdiacjcbolfaaDoorProg
import Derived.Test.YtokdiacjcbolfaaDoorBJournalFull3
set_option linter.unusedVariables false
set_option linter.unusedSimpArgs false
namespace Go.Proofs.YtokdiacjcbolfaaDoor.F
open Go Go.RowKit Go.Proofs.YtokdiacjcbolfaaDoor.X
set_option linter.unusedVariables false
set_option linter.unusedSimpArgs false
def dev_Dev_Write.b0 (K : Nat) (a1 : Int) (a2 : ByteArray) (again462 : Int → (List ByteArray) → (List ByteArray) → (List T_dev_held) → Int → Bool → Int → Bool → Option (Int × T_dev_Dev)) (x463 : Int) (x464 : List ByteArray) (x468 : List ByteArray) (x472 : List T_dev_held) (x476 : Int) (x477 : Bool) (x478 : Int) (x479 : Bool) : Option (Int × T_dev_Dev) :=
  if x463 < (IntKind.wrap .i64 (Int.tdiv (a2.size : Int) 512)) then ((dev_Dev_operation.f K (⟨x464, x468, x472, (⟨(), (), x476⟩ : T_atomic_Int64), x477, x478, x479⟩ : T_dev_Dev)).bind fun t498 => (if t498.1 = true then (asrt (0 ≤ (IntKind.wrap .i64 (x463 * 512))) (asrt ((IntKind.wrap .i64 (x463 * 512)) ≤ (IntKind.wrap .i64 ((IntKind.wrap .i64 (x463 + 1)) * 512))) (asrt ((IntKind.wrap .i64 ((IntKind.wrap .i64 (x463 + 1)) * 512)) ≤ (a2.size : Int)) (asrt (t498.2.f2.length + ([(⟨IntKind.wrap .i64 (a1 + x463), a2.extract (IntKind.wrap .i64 (x463 * 512) : Int).toNat (IntKind.wrap .i64 ((IntKind.wrap .i64 (x463 + 1)) * 512) : Int).toNat⟩ : T_dev_held)] : List T_dev_held).length ≤ 5864062014805) (asrt (0 ≤ (IntKind.wrap .i64 (a1 + x463))) (asrt ((IntKind.wrap .i64 (a1 + x463)) < (t498.2.f1.length : Int)) (again462 (IntKind.wrap .i64 (x463 + 1)) t498.2.f0 (t498.2.f1.set (IntKind.wrap .i64 (a1 + x463) : Int).toNat (a2.extract (IntKind.wrap .i64 (x463 * 512) : Int).toNat (IntKind.wrap .i64 ((IntKind.wrap .i64 (x463 + 1)) * 512) : Int).toNat)) (t498.2.f2 ++ ([(⟨IntKind.wrap .i64 (a1 + x463), a2.extract (IntKind.wrap .i64 (x463 * 512) : Int).toNat (IntKind.wrap .i64 ((IntKind.wrap .i64 (x463 + 1)) * 512) : Int).toNat⟩ : T_dev_held)] : List T_dev_held)) t498.2.f3.f2 t498.2.f4 t498.2.f5 t498.2.f6))))))) else (some (41, t498.2)))) else (some (0, (⟨x464, x468, x472, (⟨(), (), x476⟩ : T_atomic_Int64), x477, x478, x479⟩ : T_dev_Dev)))
def dev_Dev_Write.l0 (K : Nat) (a1 : Int) (a2 : ByteArray) : Nat → Int → (List ByteArray) → (List ByteArray) → (List T_dev_held) → Int → Bool → Int → Bool → Option (Int × T_dev_Dev)
  | 0, _, _, _, _, _, _, _, _ => none
  | k_ + 1, x463, x464, x468, x472, x476, x477, x478, x479 => dev_Dev_Write.b0 K a1 a2 (dev_Dev_Write.l0 K a1 a2 k_) x463 x464 x468 x472 x476 x477 x478 x479
def dev_Dev_Write.j0 (K : Nat) (a1 : Int) (a2 : ByteArray) (x289 : Bool) (x290 : T_dev_Dev) : Option (Int × T_dev_Dev) :=
  if x289 = true then (some (40, x290)) else (if x290.f6 = true then (some (41, (⟨x290.f0, x290.f1, x290.f2, (⟨(), (), x290.f3.f2⟩ : T_atomic_Int64), x290.f4, x290.f5, x290.f6⟩ : T_dev_Dev))) else (dev_Dev_Write.l0 K a1 a2 K 0 x290.f0 x290.f1 x290.f2 x290.f3.f2 x290.f4 x290.f5 x290.f6))
def dev_Dev_Write.f (K : Nat) (a0 : T_dev_Dev) (a1 : Int) (a2 : ByteArray) : Option (Int × T_dev_Dev) :=
  if (Int.tmod (a2.size : Int) 512) = 0 then (if a1 < 0 then (dev_Dev_Write.j0 K a1 a2 true a0) else (if a1 > (a0.f0.length : Int) then (dev_Dev_Write.j0 K a1 a2 true (⟨a0.f0, a0.f1, a0.f2, (⟨(), (), a0.f3.f2⟩ : T_atomic_Int64), a0.f4, a0.f5, a0.f6⟩ : T_dev_Dev)) else (dev_Dev_Write.j0 K a1 a2 (decide ((IntKind.wrap .i64 (Int.tdiv (a2.size : Int) 512)) > (IntKind.wrap .i64 ((a0.f0.length : Int) - a1)))) (⟨a0.f0, a0.f1, a0.f2, (⟨(), (), a0.f3.f2⟩ : T_atomic_Int64), a0.f4, a0.f5, a0.f6⟩ : T_dev_Dev)))) else (dev_Dev_Write.j0 K a1 a2 true a0)
set_option maxRecDepth 100000 in
set_option maxHeartbeats 4000000 in
theorem dev_Dev_Write.calls (K : Nat) (a0 : T_dev_Dev) (a1 : Int) (a2 : ByteArray) (p0 : Nat) (U0 : Blks)  (r : Int × T_dev_Dev) (w w1 : World) (F bs : Blks) (os : List OwnA) (hU0 : T_dev_Dev.At p0  a0 U0) (HW : Wd w w1 (U0 ++ (F ++ bs)) os) (h : dev_Dev_Write.f K a0 a1 a2 = some r) :
    Calls Tryd.prog 24 #[.pointer (some ⟨p0, 0, none⟩), .int .i64 a1, .string a2] w1 (fun e W' => ∃ U0' : Blks, e = .returned (.int .i64 r.1) ∧ T_dev_Dev.At p0  r.2 U0' ∧ Wd w W' (U0' ++ (F ++ bs)) (os)) := by
  refine sxstart (n := 88) (l := [(0, .pointer (some ⟨p0, 0, none⟩)), (1, .int .i64 a1), (2, .string a2)]) Tryd.func24 rfl rfl (Nat.le_of_ble_eq_true KR) (subsA_cons rfl (subsA_cons rfl (subsA_cons rfl (subsA_nil _)))) ?_
  intro a ha
  replace HW : Wd w w1 (U0 ++ (F ++ bs)) (os) := HW
  unfold dev_Dev_Write.f at h
  refine wp_seq_k (fun K263 hK264 => ?_)
  refine wp_region_lit ?_
  refine stepp ha 6 (.int .i64 0) KR KR ?_; clear ha a; intro a ha
  refine endl ?_
  refine thenN (hK264 _ _ ?_); clear hK264
  refine wp_seq_k (fun K265 hK266 => ?_)
  refine wp_region_lit ?_
  refine stepp ha 10 (.string a2) KR KR ?_; clear ha a; intro a ha
  refine stepp ha 11 (.int .i64 (a2.size : Int)) KR KR ?_; clear ha a; intro a ha
  refine stepp ha 12 (.int .i64 (IntKind.wrap .i64 (Int.tdiv (a2.size : Int) 512))) KR KR ?_; clear ha a; intro a ha
  refine stepp ha 7 (.int .i64 (IntKind.wrap .i64 (Int.tdiv (a2.size : Int) 512))) KR KR ?_; clear ha a; intro a ha
  refine endl ?_
  refine thenN (hK266 _ _ ?_); clear hK266
  refine wp_seq_k (fun K267 hK268 => ?_)
  refine wp_block ?_
  refine wp_seq_k (fun K269 hK270 => ?_)
  refine wp_region_lit ?_
  refine stepp ha 14 (.pointer (some ⟨p0, 0, none⟩)) KR KR ?_; clear ha a; intro a ha
  refine stepp ha 15 (.bool false) KR KR ?_; clear ha a; intro a ha
  refine stepp ha 13 (.bool false) KR KR ?_; clear ha a; intro a ha
  refine endl ?_
  refine thenN (hK270 _ _ ?_); clear hK270
  refine condF ha KR KR (t := false) (rfl) ?_
  refine wp_seq_k (fun K271 hK272 => ?_)
  refine cutn (fun a W293 => ∃ (x289 : Bool), ∃ (x290 : T_dev_Dev), ∃ (U291 : Blks), dev_Dev_Write.j0 K a1 a2 x289 x290 = some r ∧ Has 88 [(0, .pointer (some ⟨p0, 0, none⟩)), (1, .int .i64 a1), (2, .string a2), (7, .int .i64 (IntKind.wrap .i64 (Int.tdiv (a2.size : Int) 512))), (16, .bool x289)] a ∧ Wd w W293 (U291 ++ (F ++ bs)) (os) ∧ T_dev_Dev.At p0  x290 U291) ?_ ?_
  · skip
    refine wp_region_lit ?_
    refine stepp ha 17 (.string a2) KR KR ?_; clear ha a; intro a ha
    refine stepp ha 18 (.int .i64 (a2.size : Int)) KR KR ?_; clear ha a; intro a ha
    refine stepp ha 19 (.int .i64 (Int.tmod (a2.size : Int) 512)) KR KR ?_; clear ha a; intro a ha
    refine stepp ha 20 (.bool ((Int.tmod (a2.size : Int) 512) != 0)) KR KR ?_; clear ha a; intro a ha
    refine stepp ha 21 (.bool ((Int.tmod (a2.size : Int) 512) != 0)) KR KR ?_; clear ha a; intro a ha
    by_cases hp273 : (Int.tmod (a2.size : Int) 512) = 0
    · skip
      replace h := ite_pos' h hp273
      replace ha := ha.bool 21 KR (ineq_f hp273)
      refine stepp ha 22 (.int .i64 a1) KR KR ?_; clear ha a; intro a ha
      refine stepp ha 23 (.bool (decide (a1 < 0))) KR KR ?_; clear ha a; intro a ha
      refine stepp ha 24 (.bool (decide (a1 < 0))) KR KR ?_; clear ha a; intro a ha
      refine stepp ha 25 (.bool (decide (a1 < 0))) KR KR ?_; clear ha a; intro a ha
      by_cases hp274 : a1 < 0
      · skip
        replace h := ite_pos' h hp274
        replace ha := ha.bool 25 KR (decide_eq_true hp274)
        refine stepo ha 26 KR ?_; clear ha a; intro a ha
        refine stepo ha 27 KR ?_; clear ha a; intro a ha
        refine stepo ha 28 KR ?_; clear ha a; intro a ha
        refine stepo ha 29 KR ?_; clear ha a; intro a ha
        refine stepo ha 30 KR ?_; clear ha a; intro a ha
        refine stepo ha 31 KR ?_; clear ha a; intro a ha
        refine stepo ha 32 KR ?_; clear ha a; intro a ha
        refine stepp ha 33 (.bool true) KR KR ?_; clear ha a; intro a ha
        refine stepp ha 34 (.bool true) KR KR ?_; clear ha a; intro a ha
        refine stepo ha 35 KR ?_; clear ha a; intro a ha
        refine stepo ha 36 KR ?_; clear ha a; intro a ha
        refine stepo ha 37 KR ?_; clear ha a; intro a ha
        refine stepo ha 38 KR ?_; clear ha a; intro a ha
        refine stepo ha 39 KR ?_; clear ha a; intro a ha
        refine stepo ha 40 KR ?_; clear ha a; intro a ha
        refine stepo ha 41 KR ?_; clear ha a; intro a ha
        refine stepo ha 42 KR ?_; clear ha a; intro a ha
        refine stepo ha 43 KR ?_; clear ha a; intro a ha
        refine stepp ha 44 (.bool true) KR KR ?_; clear ha a; intro a ha
        refine stepp ha 16 (.bool true) KR KR ?_; clear ha a; intro a ha
        refine endl ?_
        exact thenN ⟨true, a0, U0, h, ha.sub (subs_cons KR (subs_cons KR (subs_cons KR (subs_cons KR (subs_cons KR (subs_nil _)))))), (Wd.segs (ss := [U0, F]) (bt := bs) (m := []) (ot := os) [U0, F] [] HW [0, 1] [] [] KR KR (by decide) KR), hU0⟩
      · skip
        replace h := ite_neg' h hp274
        replace ha := ha.bool 25 KR (decide_eq_false hp274)
        refine stepp ha 26 (.int .i64 a1) KR KR ?_; clear ha a; intro a ha
        refine stepp ha 27 (.pointer (some ⟨p0, 0, none⟩)) KR KR ?_; clear ha a; intro a ha
        refine stepp ha 28 (.pointer (some ⟨p0, 0, none⟩)) KR KR ?_; clear ha a; intro a ha
        refine stepp ha 29 (.pointer (some ⟨p0, 0, none⟩)) KR KR ?_; clear ha a; intro a ha
        obtain ⟨A275, c276, A278, c279, A281, c282, HW⟩ := T_dev_Dev.unfold hU0 (Wd.segs (ss := [U0, F]) (bt := bs) (m := []) (ot := os) [U0, F] [] HW [0, 1] [] [] KR KR (by decide) KR)
        replace HW : Wd w w1 ((p0, .cells #[.slice A275 a0.f0.length c276, .slice A278 a0.f1.length c279, .slice A281 a0.f2.length c282, .int .i64 a0.f3.f2, .bool a0.f4, .int .i64 a0.f5, .bool a0.f6] 53 (0, 0)) :: F ++ bs) (⟨9, 1, .slice A275 a0.f0.length c276, a0.f0.length, encs encS a0.f0⟩ :: ⟨9, 1, .slice A278 a0.f1.length c279, a0.f1.length, encs encS a0.f1⟩ :: ⟨62, 2, .slice A281 a0.f2.length c282, a0.f2.length, encs T_dev_held.enc a0.f2⟩ :: os) := HW; clear hU0
        refine stepl ha 30 (HW.ca (i := 0) (b := p0) (C := #[.slice A275 a0.f0.length c276, .slice A278 a0.f1.length c279, .slice A281 a0.f2.length c282, .int .i64 a0.f3.f2, .bool a0.f4, .int .i64 a0.f5, .bool a0.f6]) (T := 53) (fr := (0, 0)) KR) 22 0 (.tmp 29) (.slice A275 a0.f0.length c276) rfl KR KR KR ?_; clear ha a; intro a ha
        refine stepp ha 31 (.int .i64 (a0.f0.length : Int)) KR KR ?_; clear ha a; intro a ha
        refine stepp ha 32 (.bool (decide (a1 > (a0.f0.length : Int)))) KR KR ?_; clear ha a; intro a ha
        refine stepp ha 33 (.bool (decide (a1 > (a0.f0.length : Int)))) KR KR ?_; clear ha a; intro a ha
        refine stepp ha 34 (.bool (decide (a1 > (a0.f0.length : Int)))) KR KR ?_; clear ha a; intro a ha
        by_cases hp284 : a1 > (a0.f0.length : Int)
        · skip
          replace h := ite_pos' h hp284
          replace ha := ha.bool 34 KR (decide_eq_true hp284)
          refine stepo ha 35 KR ?_; clear ha a; intro a ha
          refine stepo ha 36 KR ?_; clear ha a; intro a ha
          refine stepo ha 37 KR ?_; clear ha a; intro a ha
          refine stepo ha 38 KR ?_; clear ha a; intro a ha
          refine stepo ha 39 KR ?_; clear ha a; intro a ha
          refine stepo ha 40 KR ?_; clear ha a; intro a ha
          refine stepo ha 41 KR ?_; clear ha a; intro a ha
          refine stepo ha 42 KR ?_; clear ha a; intro a ha
          refine stepo ha 43 KR ?_; clear ha a; intro a ha
          refine stepp ha 44 (.bool true) KR KR ?_; clear ha a; intro a ha
          refine stepp ha 16 (.bool true) KR KR ?_; clear ha a; intro a ha
          refine endl ?_
          obtain ⟨U285, hU286, HW⟩ := T_dev_Dev.fold (x := (⟨a0.f0, a0.f1, a0.f2, (⟨(), (), a0.f3.f2⟩ : T_atomic_Int64), a0.f4, a0.f5, a0.f6⟩ : T_dev_Dev)) (Wd.segs (ss := [[(p0, .cells #[.slice A275 a0.f0.length c276, .slice A278 a0.f1.length c279, .slice A281 a0.f2.length c282, .int .i64 a0.f3.f2, .bool a0.f4, .int .i64 a0.f5, .bool a0.f6] 53 (0, 0))], F]) (bt := bs) (m := [⟨9, 1, .slice A275 a0.f0.length c276, a0.f0.length, encs encS a0.f0⟩, ⟨9, 1, .slice A278 a0.f1.length c279, a0.f1.length, encs encS a0.f1⟩, ⟨62, 2, .slice A281 a0.f2.length c282, a0.f2.length, encs T_dev_held.enc a0.f2⟩]) (ot := os) [[(p0, .cells #[.slice A275 a0.f0.length c276, .slice A278 a0.f1.length c279, .slice A281 a0.f2.length c282, .int .i64 a0.f3.f2, .bool a0.f4, .int .i64 a0.f5, .bool a0.f6] 53 (0, 0))], F] [⟨9, 1, .slice A275 a0.f0.length c276, a0.f0.length, encs encS a0.f0⟩, ⟨9, 1, .slice A278 a0.f1.length c279, a0.f1.length, encs encS a0.f1⟩, ⟨62, 2, .slice A281 a0.f2.length c282, a0.f2.length, encs T_dev_held.enc a0.f2⟩] HW [0, 1] [] [0, 1, 2] KR KR (by decide) KR)
          replace HW := Wd.segs (ss := [U285, F]) (bt := bs) (m := []) (ot := os) [U285, F] [] HW [0, 1] [] [] KR KR (by decide) KR
          replace HW : Wd w w1 (U285 ++ (F ++ bs)) (os) := HW
          exact thenN ⟨true, (⟨a0.f0, a0.f1, a0.f2, (⟨(), (), a0.f3.f2⟩ : T_atomic_Int64), a0.f4, a0.f5, a0.f6⟩ : T_dev_Dev), U285, h, ha.sub (subs_cons KR (subs_cons KR (subs_cons KR (subs_cons KR (subs_cons KR (subs_nil _)))))), (Wd.segs (ss := [U285, F]) (bt := bs) (m := []) (ot := os) [U285, F] [] HW [0, 1] [] [] KR KR (by decide) KR), hU286⟩
        · skip
          replace h := ite_neg' h hp284
          replace ha := ha.bool 34 KR (decide_eq_false hp284)
          refine stepp ha 35 (.int .i64 (IntKind.wrap .i64 (Int.tdiv (a2.size : Int) 512))) KR KR ?_; clear ha a; intro a ha
          refine stepp ha 36 (.pointer (some ⟨p0, 0, none⟩)) KR KR ?_; clear ha a; intro a ha
          refine stepp ha 37 (.pointer (some ⟨p0, 0, none⟩)) KR KR ?_; clear ha a; intro a ha
          refine stepp ha 38 (.pointer (some ⟨p0, 0, none⟩)) KR KR ?_; clear ha a; intro a ha
          refine stepl ha 39 (HW.ca (i := 0) (b := p0) (C := #[.slice A275 a0.f0.length c276, .slice A278 a0.f1.length c279, .slice A281 a0.f2.length c282, .int .i64 a0.f3.f2, .bool a0.f4, .int .i64 a0.f5, .bool a0.f6]) (T := 53) (fr := (0, 0)) KR) 22 0 (.tmp 38) (.slice A275 a0.f0.length c276) rfl KR KR KR ?_; clear ha a; intro a ha
          refine stepp ha 40 (.int .i64 (a0.f0.length : Int)) KR KR ?_; clear ha a; intro a ha
          refine stepp ha 41 (.int .i64 a1) KR KR ?_; clear ha a; intro a ha
          refine stepp ha 42 (.int .i64 (IntKind.wrap .i64 ((a0.f0.length : Int) - a1))) KR KR ?_; clear ha a; intro a ha
          refine stepp ha 43 (.bool (decide ((IntKind.wrap .i64 (Int.tdiv (a2.size : Int) 512)) > (IntKind.wrap .i64 ((a0.f0.length : Int) - a1))))) KR KR ?_; clear ha a; intro a ha
          refine stepp ha 44 (.bool (decide ((IntKind.wrap .i64 (Int.tdiv (a2.size : Int) 512)) > (IntKind.wrap .i64 ((a0.f0.length : Int) - a1))))) KR KR ?_; clear ha a; intro a ha
          refine stepp ha 16 (.bool (decide ((IntKind.wrap .i64 (Int.tdiv (a2.size : Int) 512)) > (IntKind.wrap .i64 ((a0.f0.length : Int) - a1))))) KR KR ?_; clear ha a; intro a ha
          refine endl ?_
          obtain ⟨U287, hU288, HW⟩ := T_dev_Dev.fold (x := (⟨a0.f0, a0.f1, a0.f2, (⟨(), (), a0.f3.f2⟩ : T_atomic_Int64), a0.f4, a0.f5, a0.f6⟩ : T_dev_Dev)) (Wd.segs (ss := [[(p0, .cells #[.slice A275 a0.f0.length c276, .slice A278 a0.f1.length c279, .slice A281 a0.f2.length c282, .int .i64 a0.f3.f2, .bool a0.f4, .int .i64 a0.f5, .bool a0.f6] 53 (0, 0))], F]) (bt := bs) (m := [⟨9, 1, .slice A275 a0.f0.length c276, a0.f0.length, encs encS a0.f0⟩, ⟨9, 1, .slice A278 a0.f1.length c279, a0.f1.length, encs encS a0.f1⟩, ⟨62, 2, .slice A281 a0.f2.length c282, a0.f2.length, encs T_dev_held.enc a0.f2⟩]) (ot := os) [[(p0, .cells #[.slice A275 a0.f0.length c276, .slice A278 a0.f1.length c279, .slice A281 a0.f2.length c282, .int .i64 a0.f3.f2, .bool a0.f4, .int .i64 a0.f5, .bool a0.f6] 53 (0, 0))], F] [⟨9, 1, .slice A275 a0.f0.length c276, a0.f0.length, encs encS a0.f0⟩, ⟨9, 1, .slice A278 a0.f1.length c279, a0.f1.length, encs encS a0.f1⟩, ⟨62, 2, .slice A281 a0.f2.length c282, a0.f2.length, encs T_dev_held.enc a0.f2⟩] HW [0, 1] [] [0, 1, 2] KR KR (by decide) KR)
          replace HW := Wd.segs (ss := [U287, F]) (bt := bs) (m := []) (ot := os) [U287, F] [] HW [0, 1] [] [] KR KR (by decide) KR
          replace HW : Wd w w1 (U287 ++ (F ++ bs)) (os) := HW
          exact thenN ⟨decide ((IntKind.wrap .i64 (Int.tdiv (a2.size : Int) 512)) > (IntKind.wrap .i64 ((a0.f0.length : Int) - a1))), (⟨a0.f0, a0.f1, a0.f2, (⟨(), (), a0.f3.f2⟩ : T_atomic_Int64), a0.f4, a0.f5, a0.f6⟩ : T_dev_Dev), U287, h, ha.sub (subs_cons KR (subs_cons KR (subs_cons KR (subs_cons KR (subs_cons KR (subs_nil _)))))), (Wd.segs (ss := [U287, F]) (bt := bs) (m := []) (ot := os) [U287, F] [] HW [0, 1] [] [] KR KR (by decide) KR), hU288⟩
    · skip
      replace h := ite_neg' h hp273
      replace ha := ha.bool 21 KR (ineq_t hp273)
      refine stepo ha 22 KR ?_; clear ha a; intro a ha
      refine stepo ha 23 KR ?_; clear ha a; intro a ha
      refine stepp ha 24 (.bool true) KR KR ?_; clear ha a; intro a ha
      refine stepp ha 25 (.bool true) KR KR ?_; clear ha a; intro a ha
      refine stepo ha 26 KR ?_; clear ha a; intro a ha
      refine stepo ha 27 KR ?_; clear ha a; intro a ha
      refine stepo ha 28 KR ?_; clear ha a; intro a ha
      refine stepo ha 29 KR ?_; clear ha a; intro a ha
      refine stepo ha 30 KR ?_; clear ha a; intro a ha
      refine stepo ha 31 KR ?_; clear ha a; intro a ha
      refine stepo ha 32 KR ?_; clear ha a; intro a ha
      refine stepp ha 33 (.bool true) KR KR ?_; clear ha a; intro a ha
      refine stepp ha 34 (.bool true) KR KR ?_; clear ha a; intro a ha
      refine stepo ha 35 KR ?_; clear ha a; intro a ha
      refine stepo ha 36 KR ?_; clear ha a; intro a ha
      refine stepo ha 37 KR ?_; clear ha a; intro a ha
      refine stepo ha 38 KR ?_; clear ha a; intro a ha
      refine stepo ha 39 KR ?_; clear ha a; intro a ha
      refine stepo ha 40 KR ?_; clear ha a; intro a ha
      refine stepo ha 41 KR ?_; clear ha a; intro a ha
      refine stepo ha 42 KR ?_; clear ha a; intro a ha
      refine stepo ha 43 KR ?_; clear ha a; intro a ha
      refine stepp ha 44 (.bool true) KR KR ?_; clear ha a; intro a ha
      refine stepp ha 16 (.bool true) KR KR ?_; clear ha a; intro a ha
      refine endl ?_
      exact thenN ⟨true, a0, U0, h, ha.sub (subs_cons KR (subs_cons KR (subs_cons KR (subs_cons KR (subs_cons KR (subs_nil _)))))), (Wd.segs (ss := [U0, F]) (bt := bs) (m := []) (ot := os) [U0, F] [] HW [0, 1] [] [] KR KR (by decide) KR), hU0⟩
  · skip
    intro a W293 hJ
    obtain ⟨x289, x290, U291, h, ha, HW, hU292⟩ := hJ
    replace h : dev_Dev_Write.j0 K a1 a2 x289 x290 = some r := h
    unfold dev_Dev_Write.j0 at h
    refine hK272 _ _ ?_; clear hK272
    by_cases hp294 : x289 = true
    · skip
      replace h := ite_pos' h hp294
      refine condT ha KR KR (t := x289) (hp294) ?_
      refine wp_seq_k (fun K295 hK296 => ?_)
      refine wp_region_lit ?_
      refine stepp ha 6 (.int .i64 40) KR KR ?_; clear ha a; intro a ha
      refine endl ?_
      refine thenN (hK296 _ _ ?_); clear hK296
      refine wp_ret ?_
      refine blkR ?_
      refine thenR ?_
      obtain rfl := Option.some.inj h
      exact finv ha _ _ rfl (.tmp (v := .int .i64 40) KR .nil) (.int .i64 40) rfl ⟨U291, rfl, hU292, (Wd.segs (ss := [U291, F]) (bt := bs) (m := []) (ot := os) [U291, F] [] HW [0, 1] [] [] KR KR (by decide) KR)⟩
    · skip
      replace h := ite_neg' h hp294
      refine condF ha KR KR (t := x289) (bool_f hp294) ?_
      refine wp_seq_k (fun K297 hK298 => ?_)
      refine wp_region_lit ?_
      refine stepp ha 46 (.pointer (some ⟨p0, 0, none⟩)) KR KR ?_; clear ha a; intro a ha
      refine stepp ha 47 (.pointer (some ⟨p0, 0, none⟩)) KR KR ?_; clear ha a; intro a ha
      refine stepp ha 48 (.pointer (some ⟨p0, 6, none⟩)) KR KR ?_; clear ha a; intro a ha
      obtain ⟨A299, c300, A302, c303, A305, c306, HW⟩ := T_dev_Dev.unfold hU292 (Wd.segs (ss := [U291, F]) (bt := bs) (m := []) (ot := os) [U291, F] [] HW [0, 1] [] [] KR KR (by decide) KR)
      replace HW : Wd w W293 ((p0, .cells #[.slice A299 x290.f0.length c300, .slice A302 x290.f1.length c303, .slice A305 x290.f2.length c306, .int .i64 x290.f3.f2, .bool x290.f4, .int .i64 x290.f5, .bool x290.f6] 53 (0, 0)) :: F ++ bs) (⟨9, 1, .slice A299 x290.f0.length c300, x290.f0.length, encs encS x290.f0⟩ :: ⟨9, 1, .slice A302 x290.f1.length c303, x290.f1.length, encs encS x290.f1⟩ :: ⟨62, 2, .slice A305 x290.f2.length c306, x290.f2.length, encs T_dev_held.enc x290.f2⟩ :: os) := HW; clear hU292
      refine stepl ha 49 (HW.ca (i := 0) (b := p0) (C := #[.slice A299 x290.f0.length c300, .slice A302 x290.f1.length c303, .slice A305 x290.f2.length c306, .int .i64 x290.f3.f2, .bool x290.f4, .int .i64 x290.f5, .bool x290.f6]) (T := 53) (fr := (0, 0)) KR) 4 6 (.tmp 48) (.bool x290.f6) rfl KR KR KR ?_; clear ha a; intro a ha
      refine stepp ha 45 (.bool x290.f6) KR KR ?_; clear ha a; intro a ha
      refine endl ?_
      refine thenN (hK298 _ _ ?_); clear hK298
      by_cases hp308 : x290.f6 = true
      · skip
        replace h := ite_pos' h hp308
        refine condT ha KR KR (t := x290.f6) (hp308) ?_
        refine wp_seq_k (fun K309 hK310 => ?_)
        refine wp_region_lit ?_
        refine stepp ha 6 (.int .i64 41) KR KR ?_; clear ha a; intro a ha
        refine endl ?_
        refine thenN (hK310 _ _ ?_); clear hK310
        refine wp_ret ?_
        refine blkR ?_
        refine thenR ?_
        obtain ⟨U311, hU312, HW⟩ := T_dev_Dev.fold (x := (⟨x290.f0, x290.f1, x290.f2, (⟨(), (), x290.f3.f2⟩ : T_atomic_Int64), x290.f4, x290.f5, x290.f6⟩ : T_dev_Dev)) (Wd.segs (ss := [[(p0, .cells #[.slice A299 x290.f0.length c300, .slice A302 x290.f1.length c303, .slice A305 x290.f2.length c306, .int .i64 x290.f3.f2, .bool x290.f4, .int .i64 x290.f5, .bool x290.f6] 53 (0, 0))], F]) (bt := bs) (m := [⟨9, 1, .slice A299 x290.f0.length c300, x290.f0.length, encs encS x290.f0⟩, ⟨9, 1, .slice A302 x290.f1.length c303, x290.f1.length, encs encS x290.f1⟩, ⟨62, 2, .slice A305 x290.f2.length c306, x290.f2.length, encs T_dev_held.enc x290.f2⟩]) (ot := os) [[(p0, .cells #[.slice A299 x290.f0.length c300, .slice A302 x290.f1.length c303, .slice A305 x290.f2.length c306, .int .i64 x290.f3.f2, .bool x290.f4, .int .i64 x290.f5, .bool x290.f6] 53 (0, 0))], F] [⟨9, 1, .slice A299 x290.f0.length c300, x290.f0.length, encs encS x290.f0⟩, ⟨9, 1, .slice A302 x290.f1.length c303, x290.f1.length, encs encS x290.f1⟩, ⟨62, 2, .slice A305 x290.f2.length c306, x290.f2.length, encs T_dev_held.enc x290.f2⟩] HW [0, 1] [] [0, 1, 2] KR KR (by decide) KR)
        replace HW := Wd.segs (ss := [U311, F]) (bt := bs) (m := []) (ot := os) [U311, F] [] HW [0, 1] [] [] KR KR (by decide) KR
        replace HW : Wd w W293 (U311 ++ (F ++ bs)) (os) := HW
        obtain rfl := Option.some.inj h
        exact finv ha _ _ rfl (.tmp (v := .int .i64 41) KR .nil) (.int .i64 41) rfl ⟨U311, rfl, hU312, (Wd.segs (ss := [U311, F]) (bt := bs) (m := []) (ot := os) [U311, F] [] HW [0, 1] [] [] KR KR (by decide) KR)⟩
      · skip
        replace h := ite_neg' h hp308
        refine condF ha KR KR (t := x290.f6) (bool_f hp308) ?_
        refine wp_skip ?_
        refine blkN ?_
        refine thenN (hK268 _ _ ?_); clear hK268
        refine wp_seq_k (fun K313 hK314 => ?_)
        refine wp_seq_k (fun K315 hK316 => ?_)
        refine wp_region_lit ?_
        refine stepp ha 50 (.int .i64 (IntKind.wrap .i64 (Int.tdiv (a2.size : Int) 512))) KR KR ?_; clear ha a; intro a ha
        refine stepp ha 51 (.int .i64 0) KR KR ?_; clear ha a; intro a ha
        refine endl ?_
        refine thenN (hK316 _ _ ?_); clear hK316
        refine wp_block ?_
        refine loopk (fun k => fun a W480 => ∃ (x463 : Int), ∃ (x464 : List ByteArray), ∃ A465, ∃ c466, ∃ (x468 : List ByteArray), ∃ A469, ∃ c470, ∃ (x472 : List T_dev_held), ∃ A473, ∃ c474, ∃ (x476 : Int), ∃ (x477 : Bool), ∃ (x478 : Int), ∃ (x479 : Bool), dev_Dev_Write.l0 K a1 a2 k x463 x464 x468 x472 x476 x477 x478 x479 = some r ∧ Has 88 [(0, .pointer (some ⟨p0, 0, none⟩)), (1, .int .i64 a1), (2, .string a2), (50, .int .i64 (IntKind.wrap .i64 (Int.tdiv (a2.size : Int) 512))), (51, .int .i64 x463)] a ∧ Wd w W480 ((p0, .cells #[.slice A465 x464.length c466, .slice A469 x468.length c470, .slice A473 x472.length c474, .int .i64 x476, .bool x477, .int .i64 x478, .bool x479] 53 (0, 0)) :: F ++ bs) (⟨9, 1, .slice A465 x464.length c466, x464.length, encs encS x464⟩ :: ⟨9, 1, .slice A469 x468.length c470, x468.length, encs encS x468⟩ :: ⟨62, 2, .slice A473 x472.length c474, x472.length, encs T_dev_held.enc x472⟩ :: os)) K ?_ ?_
        · skip
          exact ⟨0, x290.f0, A299, c300, x290.f1, A302, c303, x290.f2, A305, c306, x290.f3.f2, x290.f4, x290.f5, x290.f6, h, ha.sub (subs_cons KR (subs_cons KR (subs_cons KR (subs_cons KR (subs_cons KR (subs_nil _)))))), (Wd.segs (ss := [[(p0, .cells #[.slice A299 x290.f0.length c300, .slice A302 x290.f1.length c303, .slice A305 x290.f2.length c306, .int .i64 x290.f3.f2, .bool x290.f4, .int .i64 x290.f5, .bool x290.f6] 53 (0, 0))], F]) (bt := bs) (m := [⟨9, 1, .slice A299 x290.f0.length c300, x290.f0.length, encs encS x290.f0⟩, ⟨9, 1, .slice A302 x290.f1.length c303, x290.f1.length, encs encS x290.f1⟩, ⟨62, 2, .slice A305 x290.f2.length c306, x290.f2.length, encs T_dev_held.enc x290.f2⟩]) (ot := os) [[(p0, .cells #[.slice A299 x290.f0.length c300, .slice A302 x290.f1.length c303, .slice A305 x290.f2.length c306, .int .i64 x290.f3.f2, .bool x290.f4, .int .i64 x290.f5, .bool x290.f6] 53 (0, 0))], F] [⟨9, 1, .slice A299 x290.f0.length c300, x290.f0.length, encs encS x290.f0⟩, ⟨9, 1, .slice A302 x290.f1.length c303, x290.f1.length, encs encS x290.f1⟩, ⟨62, 2, .slice A305 x290.f2.length c306, x290.f2.length, encs T_dev_held.enc x290.f2⟩] HW [0, 1] [] [0, 1, 2] KR KR (by decide) KR)⟩
        · skip
          intro k a W480 hI
          obtain ⟨x463, x464, A465, c466, x468, A469, c470, x472, A473, c474, x476, x477, x478, x479, h, ha, HW⟩ := hI
          cases k with
          | zero => exact (none_some (show none = some r from h)).elim
          | succ k481 =>
            replace h : dev_Dev_Write.b0 K a1 a2 (dev_Dev_Write.l0 K a1 a2 k481) x463 x464 x468 x472 x476 x477 x478 x479 = some r := h
            obtain ⟨again462, hag482⟩ : ∃ g_, g_ = dev_Dev_Write.l0 K a1 a2 k481 := ⟨_, rfl⟩
            rw [← hag482] at h
            unfold dev_Dev_Write.b0 at h
            refine wp_seq_k (fun K483 hK484 => ?_)
            refine wp_region_lit ?_
            refine stepp ha 52 (.bool (decide (x463 < (IntKind.wrap .i64 (Int.tdiv (a2.size : Int) 512))))) KR KR ?_; clear ha a; intro a ha
            refine endl ?_
            refine thenN (hK484 _ _ ?_); clear hK484
            refine wp_seq_k (fun K485 hK486 => ?_)
            by_cases hp487 : x463 < (IntKind.wrap .i64 (Int.tdiv (a2.size : Int) 512))
            · skip
              replace h := ite_pos' h hp487
              refine condT ha KR KR (t := decide (x463 < (IntKind.wrap .i64 (Int.tdiv (a2.size : Int) 512)))) (decide_eq_true hp487) ?_
              refine wp_skip ?_
              refine thenN (hK486 _ _ ?_); clear hK486
              refine wp_seq_k (fun K488 hK489 => ?_)
              refine wp_block ?_
              refine wp_seq_k (fun K490 hK491 => ?_)
              refine wp_region_lit ?_
              refine stepp ha 53 (.int .i64 x463) KR KR ?_; clear ha a; intro a ha
              refine stepp ha 8 (.int .i64 x463) KR KR ?_; clear ha a; intro a ha
              refine endl ?_
              refine thenN (hK491 _ _ ?_); clear hK491
              refine wp_seq_k (fun K492 hK493 => ?_)
              refine wp_seq_k (fun K494 hK495 => ?_)
              refine wp_region_lit ?_
              refine stepp ha 54 (.pointer (some ⟨p0, 0, none⟩)) KR KR ?_; clear ha a; intro a ha
              obtain ⟨U496, hU497, HW⟩ := T_dev_Dev.fold (x := (⟨x464, x468, x472, (⟨(), (), x476⟩ : T_atomic_Int64), x477, x478, x479⟩ : T_dev_Dev)) (Wd.segs (ss := [[(p0, .cells #[.slice A465 x464.length c466, .slice A469 x468.length c470, .slice A473 x472.length c474, .int .i64 x476, .bool x477, .int .i64 x478, .bool x479] 53 (0, 0))], F]) (bt := bs) (m := [⟨9, 1, .slice A465 x464.length c466, x464.length, encs encS x464⟩, ⟨9, 1, .slice A469 x468.length c470, x468.length, encs encS x468⟩, ⟨62, 2, .slice A473 x472.length c474, x472.length, encs T_dev_held.enc x472⟩]) (ot := os) [[(p0, .cells #[.slice A465 x464.length c466, .slice A469 x468.length c470, .slice A473 x472.length c474, .int .i64 x476, .bool x477, .int .i64 x478, .bool x479] 53 (0, 0))], F] [⟨9, 1, .slice A465 x464.length c466, x464.length, encs encS x464⟩, ⟨9, 1, .slice A469 x468.length c470, x468.length, encs encS x468⟩, ⟨62, 2, .slice A473 x472.length c474, x472.length, encs T_dev_held.enc x472⟩] HW [0, 1] [] [0, 1, 2] KR KR (by decide) KR)
              replace HW := Wd.segs (ss := [U496, F]) (bt := bs) (m := []) (ot := os) [U496, F] [] HW [0, 1] [] [] KR KR (by decide) KR
              replace HW : Wd w W480 (U496 ++ (F ++ bs)) (os) := HW
              obtain ⟨t498, ht499, h_⟩ := bind_some' h; clear h; have h := h_; clear h_
              refine stepc ha 55 KR KR (dev_Dev_operation.calls K (⟨x464, x468, x472, (⟨(), (), x476⟩ : T_atomic_Int64), x477, x478, x479⟩ : T_dev_Dev) p0 U496 t498 _ _ F bs (os) hU497 (Wd.segs (ss := [U496, F]) (bt := bs) (m := []) (ot := os) [U496, F] [] HW [0, 1] [] [] KR KR (by decide) KR) ht499) ?_; clear ha a; rintro e W501 ⟨U500, rfl, hU497n, HX502⟩
              refine ⟨_, rfl, ?_⟩; intro a ha; clear HW
              clear hU497; have hU497 := hU497n; clear hU497n
              have HW : Wd w W501 (U500 ++ (F ++ bs)) (os) := Wd.segs (ss := [U500, F]) (bt := bs) (m := []) (ot := os) [U500, F] [] HX502 [0, 1] [] [] KR KR (by decide) KR; clear HX502
              refine stepp ha 56 (.bool (!t498.1)) KR KR ?_; clear ha a; intro a ha
              refine endl ?_
              refine thenN (hK495 _ _ ?_); clear hK495
              by_cases hp505 : t498.1 = true
              · skip
                replace h := ite_pos' h hp505
                refine condF ha KR KR (t := (!t498.1)) (not_f (hp505)) ?_
                refine wp_skip ?_
                refine thenN (hK493 _ _ ?_); clear hK493
                refine wp_seq_k (fun K508 hK509 => ?_)
                refine wp_region_lit ?_
                refine stepp ha 57 (.int .i64 a1) KR KR ?_; clear ha a; intro a ha
                refine stepp ha 58 (.int .i64 x463) KR KR ?_; clear ha a; intro a ha
                refine stepp ha 59 (.int .i64 (IntKind.wrap .i64 (a1 + x463))) KR KR ?_; clear ha a; intro a ha
                refine stepp ha 60 (.string a2) KR KR ?_; clear ha a; intro a ha
                refine stepp ha 61 (.int .i64 x463) KR KR ?_; clear ha a; intro a ha
                refine stepp ha 62 (.int .i64 (IntKind.wrap .i64 (x463 * 512))) KR KR ?_; clear ha a; intro a ha
                refine stepp ha 63 (.int .i64 x463) KR KR ?_; clear ha a; intro a ha
                refine stepp ha 64 (.int .i64 (IntKind.wrap .i64 (x463 + 1))) KR KR ?_; clear ha a; intro a ha
                refine stepp ha 65 (.int .i64 (IntKind.wrap .i64 ((IntKind.wrap .i64 (x463 + 1)) * 512))) KR KR ?_; clear ha a; intro a ha
                obtain ⟨hA510, h_⟩ := asrt_some h; clear h; have h := h_; clear h_
                obtain ⟨hA511, h_⟩ := asrt_some h; clear h; have h := h_; clear h_
                obtain ⟨hA512, h_⟩ := asrt_some h; clear h; have h := h_; clear h_
                refine stepss ha 66 9 (.tmp 60) (.tmp 62) (.tmp 65) a2 .i64 .i64 (IntKind.wrap .i64 (x463 * 512)) (IntKind.wrap .i64 ((IntKind.wrap .i64 (x463 + 1)) * 512)) rfl KR KR KR KR hA510 hA511 (show (IntKind.wrap .i64 ((IntKind.wrap .i64 (x463 + 1)) * 512) : Int) ≤ ((a2).size : Int) from hA512) KR ?_; clear ha a; intro a ha
                refine stepp ha 67 (.agg #[.int .i64 (IntKind.wrap .i64 (a1 + x463)), .string (a2.extract (IntKind.wrap .i64 (x463 * 512) : Int).toNat (IntKind.wrap .i64 ((IntKind.wrap .i64 (x463 + 1)) * 512) : Int).toNat)]) KR KR ?_; clear ha a; intro a ha
                refine stepnew ha HW 9 #[.int .i64 0, .string (⟨#[]⟩ : ByteArray)] 62 KR KR ?_; clear ha HW a; intro b513 a W514 HW ha
                refine stepst ha HW 0 (b := b513) (C := #[.int .i64 0, .string (⟨#[]⟩ : ByteArray)]) (T := 62) KR 62 0 (.tmp 9) (.tmp 67) (.agg #[.int .i64 (IntKind.wrap .i64 (a1 + x463)), .string (a2.extract (IntKind.wrap .i64 (x463 * 512) : Int).toNat (IntKind.wrap .i64 ((IntKind.wrap .i64 (x463 + 1)) * 512) : Int).toNat)]) #[.int .i64 (IntKind.wrap .i64 (a1 + x463)), .string (a2.extract (IntKind.wrap .i64 (x463 * 512) : Int).toNat (IntKind.wrap .i64 ((IntKind.wrap .i64 (x463 + 1)) * 512) : Int).toNat)] rfl KR KR KR KR KR KR KR ?_; clear ha HW a; intro a W515 HW ha
                refine endl ?_
                refine thenN (hK509 _ _ ?_); clear hK509
                refine wp_seq_k (fun K516 hK517 => ?_)
                obtain ⟨A518, c519, A521, c522, A524, c525, HW⟩ := T_dev_Dev.unfold hU497 (Wd.segs (ss := [[(b513, .cells #[.int .i64 (IntKind.wrap .i64 (a1 + x463)), .string (a2.extract (IntKind.wrap .i64 (x463 * 512) : Int).toNat (IntKind.wrap .i64 ((IntKind.wrap .i64 (x463 + 1)) * 512) : Int).toNat)] 62 (0, 0))], U500, F]) (bt := bs) (m := []) (ot := os) [U500, [(b513, .cells #[.int .i64 (IntKind.wrap .i64 (a1 + x463)), .string (a2.extract (IntKind.wrap .i64 (x463 * 512) : Int).toNat (IntKind.wrap .i64 ((IntKind.wrap .i64 (x463 + 1)) * 512) : Int).toNat)] 62 (0, 0))], F] [] HW [1, 0, 2] [] [] KR KR (by decide) KR)
                replace HW : Wd w W515 ((p0, .cells #[.slice A518 t498.2.f0.length c519, .slice A521 t498.2.f1.length c522, .slice A524 t498.2.f2.length c525, .int .i64 t498.2.f3.f2, .bool t498.2.f4, .int .i64 t498.2.f5, .bool t498.2.f6] 53 (0, 0)) :: (b513, .cells #[.int .i64 (IntKind.wrap .i64 (a1 + x463)), .string (a2.extract (IntKind.wrap .i64 (x463 * 512) : Int).toNat (IntKind.wrap .i64 ((IntKind.wrap .i64 (x463 + 1)) * 512) : Int).toNat)] 62 (0, 0)) :: F ++ bs) (⟨9, 1, .slice A518 t498.2.f0.length c519, t498.2.f0.length, encs encS t498.2.f0⟩ :: ⟨9, 1, .slice A521 t498.2.f1.length c522, t498.2.f1.length, encs encS t498.2.f1⟩ :: ⟨62, 2, .slice A524 t498.2.f2.length c525, t498.2.f2.length, encs T_dev_held.enc t498.2.f2⟩ :: os) := HW; clear hU497
                obtain ⟨hA531, h_⟩ := asrt_some h; clear h; have h := h_; clear h_
                refine regionE 8 7 KR [.fix (.pointer (some ⟨p0, 0, none⟩)), .fix (.pointer (some ⟨p0, 0, none⟩)), .fix (.pointer (some ⟨p0, 0, none⟩)), .fix (.pointer (some ⟨p0, 2, none⟩)), .fix (.slice A524 t498.2.f2.length c525), .fix (.agg #[.int .i64 (IntKind.wrap .i64 (a1 + x463)), .string (a2.extract (IntKind.wrap .i64 (x463 * 512) : Int).toNat (IntKind.wrap .i64 ((IntKind.wrap .i64 (x463 + 1)) * 512) : Int).toNat)]), .lit w 62 ([(⟨IntKind.wrap .i64 (a1 + x463), a2.extract (IntKind.wrap .i64 (x463 * 512) : Int).toNat (IntKind.wrap .i64 ((IntKind.wrap .i64 (x463 + 1)) * 512) : Int).toNat⟩ : T_dev_held)] : List T_dev_held).length #[.int .i64 (IntKind.wrap .i64 (a1 + x463)), .string (a2.extract (IntKind.wrap .i64 (x463 * 512) : Int).toNat (IntKind.wrap .i64 ((IntKind.wrap .i64 (x463 + 1)) * 512) : Int).toNat)] ((p0, .cells #[.slice A518 t498.2.f0.length c519, .slice A521 t498.2.f1.length c522, .slice A524 t498.2.f2.length c525, .int .i64 t498.2.f3.f2, .bool t498.2.f4, .int .i64 t498.2.f5, .bool t498.2.f6] 53 (0, 0)) :: (b513, .cells #[.int .i64 (IntKind.wrap .i64 (a1 + x463)), .string (a2.extract (IntKind.wrap .i64 (x463 * 512) : Int).toNat (IntKind.wrap .i64 ((IntKind.wrap .i64 (x463 + 1)) * 512) : Int).toNat)] 62 (0, 0)) :: F ++ bs) (⟨9, 1, .slice A518 t498.2.f0.length c519, t498.2.f0.length, encs encS t498.2.f0⟩ :: ⟨9, 1, .slice A521 t498.2.f1.length c522, t498.2.f1.length, encs encS t498.2.f1⟩ :: os), (.wd (fun As537 ns538 => .slice (As537.getD 0 none) (t498.2.f2 ++ ([(⟨IntKind.wrap .i64 (a1 + x463), a2.extract (IntKind.wrap .i64 (x463 * 512) : Int).toNat (IntKind.wrap .i64 ((IntKind.wrap .i64 (x463 + 1)) * 512) : Int).toNat⟩ : T_dev_held)] : List T_dev_held)).length (ns538.getD 0 0)) w (fun As537 ns538 => ((p0, .cells #[.slice A518 t498.2.f0.length c519, .slice A521 t498.2.f1.length c522, .slice A524 t498.2.f2.length c525, .int .i64 t498.2.f3.f2, .bool t498.2.f4, .int .i64 t498.2.f5, .bool t498.2.f6] 53 (0, 0)) :: (b513, .cells #[.int .i64 (IntKind.wrap .i64 (a1 + x463)), .string (a2.extract (IntKind.wrap .i64 (x463 * 512) : Int).toNat (IntKind.wrap .i64 ((IntKind.wrap .i64 (x463 + 1)) * 512) : Int).toNat)] 62 (0, 0)) :: F ++ bs)) (fun As537 ns538 => (⟨9, 1, .slice A518 t498.2.f0.length c519, t498.2.f0.length, encs encS t498.2.f0⟩ :: ⟨9, 1, .slice A521 t498.2.f1.length c522, t498.2.f1.length, encs encS t498.2.f1⟩ :: ⟨62, 2, .slice (As537.getD 0 none) (t498.2.f2 ++ ([(⟨IntKind.wrap .i64 (a1 + x463), a2.extract (IntKind.wrap .i64 (x463 * 512) : Int).toNat (IntKind.wrap .i64 ((IntKind.wrap .i64 (x463 + 1)) * 512) : Int).toNat⟩ : T_dev_held)] : List T_dev_held)).length (ns538.getD 0 0), (t498.2.f2 ++ ([(⟨IntKind.wrap .i64 (a1 + x463), a2.extract (IntKind.wrap .i64 (x463 * 512) : Int).toNat (IntKind.wrap .i64 ((IntKind.wrap .i64 (x463 + 1)) * 512) : Int).toNat⟩ : T_dev_held)] : List T_dev_held)).length, encs T_dev_held.enc (t498.2.f2 ++ ([(⟨IntKind.wrap .i64 (a1 + x463), a2.extract (IntKind.wrap .i64 (x463 * 512) : Int).toNat (IntKind.wrap .i64 ((IntKind.wrap .i64 (x463 + 1)) * 512) : Int).toNat⟩ : T_dev_held)] : List T_dev_held))⟩ :: os)))] [false, false, false, false, false, false, true, false] KR (((p0, .cells #[.slice A518 t498.2.f0.length c519, .slice A521 t498.2.f1.length c522, .slice A524 t498.2.f2.length c525, .int .i64 t498.2.f3.f2, .bool t498.2.f4, .int .i64 t498.2.f5, .bool t498.2.f6] 53 (0, 0)) :: (b513, .cells #[.int .i64 (IntKind.wrap .i64 (a1 + x463)), .string (a2.extract (IntKind.wrap .i64 (x463 * 512) : Int).toNat (IntKind.wrap .i64 ((IntKind.wrap .i64 (x463 + 1)) * 512) : Int).toNat)] 62 (0, 0)) :: F ++ bs), (⟨9, 1, .slice A518 t498.2.f0.length c519, t498.2.f0.length, encs encS t498.2.f0⟩ :: ⟨9, 1, .slice A521 t498.2.f1.length c522, t498.2.f1.length, encs encS t498.2.f1⟩ :: os)) (((p0, .cells #[.slice A518 t498.2.f0.length c519, .slice A521 t498.2.f1.length c522, .slice A524 t498.2.f2.length c525, .int .i64 t498.2.f3.f2, .bool t498.2.f4, .int .i64 t498.2.f5, .bool t498.2.f6] 53 (0, 0)) :: (b513, .cells #[.int .i64 (IntKind.wrap .i64 (a1 + x463)), .string (a2.extract (IntKind.wrap .i64 (x463 * 512) : Int).toNat (IntKind.wrap .i64 ((IntKind.wrap .i64 (x463 + 1)) * 512) : Int).toNat)] 62 (0, 0)) :: F ++ bs), (⟨9, 1, .slice A518 t498.2.f0.length c519, t498.2.f0.length, encs encS t498.2.f0⟩ :: ⟨9, 1, .slice A521 t498.2.f1.length c522, t498.2.f1.length, encs encS t498.2.f1⟩ :: ⟨62, 2, .slice A524 t498.2.f2.length c525, t498.2.f2.length, encs T_dev_held.enc t498.2.f2⟩ :: os)) ha HW (.wd (fun As537 ns538 => .slice (As537.getD 0 none) (t498.2.f2 ++ ([(⟨IntKind.wrap .i64 (a1 + x463), a2.extract (IntKind.wrap .i64 (x463 * 512) : Int).toNat (IntKind.wrap .i64 ((IntKind.wrap .i64 (x463 + 1)) * 512) : Int).toNat⟩ : T_dev_held)] : List T_dev_held)).length (ns538.getD 0 0)) w (fun As537 ns538 => ((p0, .cells #[.slice A518 t498.2.f0.length c519, .slice A521 t498.2.f1.length c522, .slice A524 t498.2.f2.length c525, .int .i64 t498.2.f3.f2, .bool t498.2.f4, .int .i64 t498.2.f5, .bool t498.2.f6] 53 (0, 0)) :: (b513, .cells #[.int .i64 (IntKind.wrap .i64 (a1 + x463)), .string (a2.extract (IntKind.wrap .i64 (x463 * 512) : Int).toNat (IntKind.wrap .i64 ((IntKind.wrap .i64 (x463 + 1)) * 512) : Int).toNat)] 62 (0, 0)) :: F ++ bs)) (fun As537 ns538 => (⟨9, 1, .slice A518 t498.2.f0.length c519, t498.2.f0.length, encs encS t498.2.f0⟩ :: ⟨9, 1, .slice A521 t498.2.f1.length c522, t498.2.f1.length, encs encS t498.2.f1⟩ :: ⟨62, 2, .slice (As537.getD 0 none) (t498.2.f2 ++ ([(⟨IntKind.wrap .i64 (a1 + x463), a2.extract (IntKind.wrap .i64 (x463 * 512) : Int).toNat (IntKind.wrap .i64 ((IntKind.wrap .i64 (x463 + 1)) * 512) : Int).toNat⟩ : T_dev_held)] : List T_dev_held)).length (ns538.getD 0 0), (t498.2.f2 ++ ([(⟨IntKind.wrap .i64 (a1 + x463), a2.extract (IntKind.wrap .i64 (x463 * 512) : Int).toNat (IntKind.wrap .i64 ((IntKind.wrap .i64 (x463 + 1)) * 512) : Int).toNat⟩ : T_dev_held)] : List T_dev_held)).length, encs T_dev_held.enc (t498.2.f2 ++ ([(⟨IntKind.wrap .i64 (a1 + x463), a2.extract (IntKind.wrap .i64 (x463 * 512) : Int).toNat (IntKind.wrap .i64 ((IntKind.wrap .i64 (x463 + 1)) * 512) : Int).toNat⟩ : T_dev_held)] : List T_dev_held))⟩ :: os))) KR (fun w_ h_ => (Wd.segs (ss := [[(p0, .cells #[.slice A518 t498.2.f0.length c519, .slice A521 t498.2.f1.length c522, .slice A524 t498.2.f2.length c525, .int .i64 t498.2.f3.f2, .bool t498.2.f4, .int .i64 t498.2.f5, .bool t498.2.f6] 53 (0, 0))], [(b513, .cells #[.int .i64 (IntKind.wrap .i64 (a1 + x463)), .string (a2.extract (IntKind.wrap .i64 (x463 * 512) : Int).toNat (IntKind.wrap .i64 ((IntKind.wrap .i64 (x463 + 1)) * 512) : Int).toNat)] 62 (0, 0))], F]) (bt := bs) (m := [⟨9, 1, .slice A518 t498.2.f0.length c519, t498.2.f0.length, encs encS t498.2.f0⟩, ⟨9, 1, .slice A521 t498.2.f1.length c522, t498.2.f1.length, encs encS t498.2.f1⟩, ⟨62, 2, .slice A524 t498.2.f2.length c525, t498.2.f2.length, encs T_dev_held.enc t498.2.f2⟩]) (ot := os) [[(p0, .cells #[.slice A518 t498.2.f0.length c519, .slice A521 t498.2.f1.length c522, .slice A524 t498.2.f2.length c525, .int .i64 t498.2.f3.f2, .bool t498.2.f4, .int .i64 t498.2.f5, .bool t498.2.f6] 53 (0, 0))], [(b513, .cells #[.int .i64 (IntKind.wrap .i64 (a1 + x463)), .string (a2.extract (IntKind.wrap .i64 (x463 * 512) : Int).toNat (IntKind.wrap .i64 ((IntKind.wrap .i64 (x463 + 1)) * 512) : Int).toNat)] 62 (0, 0))], F] [⟨9, 1, .slice A518 t498.2.f0.length c519, t498.2.f0.length, encs encS t498.2.f0⟩, ⟨9, 1, .slice A521 t498.2.f1.length c522, t498.2.f1.length, encs encS t498.2.f1⟩] h_ [0, 1, 2] [] [0, 1] KR KR (by decide) KR)) (fun v_ w_ h_ => by obtain ⟨As537, ns538, _, h_⟩ := h_; exact (Wd.segs (ss := [[(p0, .cells #[.slice A518 t498.2.f0.length c519, .slice A521 t498.2.f1.length c522, .slice A524 t498.2.f2.length c525, .int .i64 t498.2.f3.f2, .bool t498.2.f4, .int .i64 t498.2.f5, .bool t498.2.f6] 53 (0, 0))], [(b513, .cells #[.int .i64 (IntKind.wrap .i64 (a1 + x463)), .string (a2.extract (IntKind.wrap .i64 (x463 * 512) : Int).toNat (IntKind.wrap .i64 ((IntKind.wrap .i64 (x463 + 1)) * 512) : Int).toNat)] 62 (0, 0))], F]) (bt := bs) (m := [⟨9, 1, .slice A518 t498.2.f0.length c519, t498.2.f0.length, encs encS t498.2.f0⟩, ⟨9, 1, .slice A521 t498.2.f1.length c522, t498.2.f1.length, encs encS t498.2.f1⟩, ⟨62, 2, .slice (As537.getD 0 none) (t498.2.f2 ++ ([(⟨IntKind.wrap .i64 (a1 + x463), a2.extract (IntKind.wrap .i64 (x463 * 512) : Int).toNat (IntKind.wrap .i64 ((IntKind.wrap .i64 (x463 + 1)) * 512) : Int).toNat⟩ : T_dev_held)] : List T_dev_held)).length (ns538.getD 0 0), (t498.2.f2 ++ ([(⟨IntKind.wrap .i64 (a1 + x463), a2.extract (IntKind.wrap .i64 (x463 * 512) : Int).toNat (IntKind.wrap .i64 ((IntKind.wrap .i64 (x463 + 1)) * 512) : Int).toNat⟩ : T_dev_held)] : List T_dev_held)).length, encs T_dev_held.enc (t498.2.f2 ++ ([(⟨IntKind.wrap .i64 (a1 + x463), a2.extract (IntKind.wrap .i64 (x463 * 512) : Int).toNat (IntKind.wrap .i64 ((IntKind.wrap .i64 (x463 + 1)) * 512) : Int).toNat⟩ : T_dev_held)] : List T_dev_held))⟩]) (ot := os) [[(p0, .cells #[.slice A518 t498.2.f0.length c519, .slice A521 t498.2.f1.length c522, .slice A524 t498.2.f2.length c525, .int .i64 t498.2.f3.f2, .bool t498.2.f4, .int .i64 t498.2.f5, .bool t498.2.f6] 53 (0, 0))], [(b513, .cells #[.int .i64 (IntKind.wrap .i64 (a1 + x463)), .string (a2.extract (IntKind.wrap .i64 (x463 * 512) : Int).toNat (IntKind.wrap .i64 ((IntKind.wrap .i64 (x463 + 1)) * 512) : Int).toNat)] 62 (0, 0))], F] [⟨9, 1, .slice A518 t498.2.f0.length c519, t498.2.f0.length, encs encS t498.2.f0⟩, ⟨9, 1, .slice A521 t498.2.f1.length c522, t498.2.f1.length, encs encS t498.2.f1⟩] h_ [0, 1, 2] [] [0, 1] KR KR (by decide) KR)) KR ?_ ?_
                · skip
                  refine ⟨?_, ?_, ?_, ?_, ?_, ?_, ?_, ?_, trivial⟩
                  · skip
                    show OpOkX _ _ _ _ _ _ _ _ _ _
                    intro a wr hn hd HW hs; have ha := hasNil hn hd
                    have ha := ha.add (seeE hs 0 (.pointer (some ⟨p0, 0, none⟩)) KR KR)
                    refine yStep ha 68 KR ?_; intro l_ ha HK
                    refine stepp ha 68 (.pointer (some ⟨p0, 0, none⟩)) KR KR ?_; intro ax hax; exact HK _ _ _ hax rfl (Below.refl _ _)
                  · skip
                    show OpOkX _ _ _ _ _ _ _ _ _ _
                    intro a wr hn hd HW hs; have ha := hasNil hn hd
                    have ha := ha.add (seeE hs 0 (.pointer (some ⟨p0, 0, none⟩)) KR KR)
                    refine yStep ha 69 KR ?_; intro l_ ha HK
                    refine stepp ha 69 (.pointer (some ⟨p0, 0, none⟩)) KR KR ?_; intro ax hax; exact HK _ _ _ hax rfl (Below.refl _ _)
                  · skip
                    show OpOkX _ _ _ _ _ _ _ _ _ _
                    intro a wr hn hd HW hs; have ha := hasNil hn hd
                    have ha := ha.add (seeF hs 69 1 (.pointer (some ⟨p0, 0, none⟩)) KR KR)
                    refine yStep ha 70 KR ?_; intro l_ ha HK
                    refine stepp ha 70 (.pointer (some ⟨p0, 0, none⟩)) KR KR ?_; intro ax hax; exact HK _ _ _ hax rfl (Below.refl _ _)
                  · skip
                    show OpOkX _ _ _ _ _ _ _ _ _ _
                    intro a wr hn hd HW hs; have ha := hasNil hn hd
                    have ha := ha.add (seeF hs 70 2 (.pointer (some ⟨p0, 0, none⟩)) KR KR)
                    refine yStep ha 71 KR ?_; intro l_ ha HK
                    refine stepp ha 71 (.pointer (some ⟨p0, 2, none⟩)) KR KR ?_; intro ax hax; exact HK _ _ _ hax rfl (Below.refl _ _)
                  · skip
                    show OpOkX _ _ _ _ _ _ _ _ _ _
                    intro a wr hn hd HW hs; have ha := hasNil hn hd
                    have ha := ha.add (seeF hs 71 3 (.pointer (some ⟨p0, 2, none⟩)) KR KR)
                    refine yStep ha 72 KR ?_; intro l_ ha HK
                    refine stepl ha 72 (HW.ca (i := 0) (b := p0) (C := #[.slice A518 t498.2.f0.length c519, .slice A521 t498.2.f1.length c522, .slice A524 t498.2.f2.length c525, .int .i64 t498.2.f3.f2, .bool t498.2.f4, .int .i64 t498.2.f5, .bool t498.2.f6]) (T := 53) (fr := (0, 0)) KR) 46 2 (.tmp 71) (.slice A524 t498.2.f2.length c525) rfl KR KR KR ?_; intro ax hax; exact HK _ _ _ hax rfl (Below.refl _ _)
                  · skip
                    show OpOkX _ _ _ _ _ _ _ _ _ _
                    intro a wr hn hd HW hs; have ha := hasNil hn hd
                    have ha := ha.add (seeE hs 9 (.pointer (some ⟨b513, 0, none⟩)) KR KR)
                    refine yStep ha 73 KR ?_; intro l_ ha HK
                    refine stepl ha 73 (HW.ca (i := 1) (b := b513) (C := #[.int .i64 (IntKind.wrap .i64 (a1 + x463)), .string (a2.extract (IntKind.wrap .i64 (x463 * 512) : Int).toNat (IntKind.wrap .i64 ((IntKind.wrap .i64 (x463 + 1)) * 512) : Int).toNat)]) (T := 62) (fr := (0, 0)) KR) 62 0 (.tmp 9) (.agg #[.int .i64 (IntKind.wrap .i64 (a1 + x463)), .string (a2.extract (IntKind.wrap .i64 (x463 * 512) : Int).toNat (IntKind.wrap .i64 ((IntKind.wrap .i64 (x463 + 1)) * 512) : Int).toNat)]) rfl KR KR KR ?_; intro ax hax; exact HK _ _ _ hax rfl (Below.refl _ _)
                  · skip
                    show OpOkX _ _ _ _ _ _ _ _ _ _
                    intro a wr hn hd HW hs; have ha := hasNil hn hd
                    have ha := ha.add (seeF hs 73 5 (.agg #[.int .i64 (IntKind.wrap .i64 (a1 + x463)), .string (a2.extract (IntKind.wrap .i64 (x463 * 512) : Int).toNat (IntKind.wrap .i64 ((IntKind.wrap .i64 (x463 + 1)) * 512) : Int).toNat)]) KR KR)
                    refine yStep ha 74 KR ?_; intro l_ ha HK
                    refine stepbk ha (Wd.refl wr) 74 62 1 #[.int .i64 (IntKind.wrap .i64 (a1 + x463)), .string (a2.extract (IntKind.wrap .i64 (x463 * 512) : Int).toNat (IntKind.wrap .i64 ((IntKind.wrap .i64 (x463 + 1)) * 512) : Int).toNat)] KR KR ?_; intro b527 ax W528 HV hax
                    exact HK _ _ _ hax ⟨b527, rfl, HW.callw HV⟩ HV.below
                  · skip
                    show EffOkX _ _ _ _ _ _ _ _ _
                    intro a wr hn hd HW hs; have ha := hasNil hn hd
                    have ha := ha.add (seeF hs 72 4 (.slice A524 t498.2.f2.length c525) KR KR)
                    obtain ⟨b527, he_, hR530⟩ := seeL (enc := T_dev_held.enc) hs 74 6 2 62 #[.int .i64 (IntKind.wrap .i64 (a1 + x463)), .string (a2.extract (IntKind.wrap .i64 (x463 * 512) : Int).toNat (IntKind.wrap .i64 ((IntKind.wrap .i64 (x463 + 1)) * 512) : Int).toNat)] ([(⟨IntKind.wrap .i64 (a1 + x463), a2.extract (IntKind.wrap .i64 (x463 * 512) : Int).toNat (IntKind.wrap .i64 ((IntKind.wrap .i64 (x463 + 1)) * 512) : Int).toNat⟩ : T_dev_held)] : List T_dev_held) (w1 := w) (bs1 := ((p0, .cells #[.slice A518 t498.2.f0.length c519, .slice A521 t498.2.f1.length c522, .slice A524 t498.2.f2.length c525, .int .i64 t498.2.f3.f2, .bool t498.2.f4, .int .i64 t498.2.f5, .bool t498.2.f6] 53 (0, 0)) :: (b513, .cells #[.int .i64 (IntKind.wrap .i64 (a1 + x463)), .string (a2.extract (IntKind.wrap .i64 (x463 * 512) : Int).toNat (IntKind.wrap .i64 ((IntKind.wrap .i64 (x463 + 1)) * 512) : Int).toNat)] 62 (0, 0)) :: F ++ bs)) (os1 := (⟨9, 1, .slice A518 t498.2.f0.length c519, t498.2.f0.length, encs encS t498.2.f0⟩ :: ⟨9, 1, .slice A521 t498.2.f1.length c522, t498.2.f1.length, encs encS t498.2.f1⟩ :: os)) KR KR (fun _ => rfl) rfl; have ha := ha.add he_
                    refine yStepA ha 75 KR ?_; intro l_ ha HK
                    refine stepape T_dev_held.enc ha HW 75 2 46 62 (.tmp 72) (.tmp 74) (.agg #[.int .i64 0, .string (⟨#[]⟩ : ByteArray)]) 2 24 (.slice A524 t498.2.f2.length c525) t498.2.f2 (.slice (some ⟨b527, 0, none⟩) ([(⟨IntKind.wrap .i64 (a1 + x463), a2.extract (IntKind.wrap .i64 (x463 * 512) : Int).toNat (IntKind.wrap .i64 ((IntKind.wrap .i64 (x463 + 1)) * 512) : Int).toNat⟩ : T_dev_held)] : List T_dev_held).length (([(⟨IntKind.wrap .i64 (a1 + x463), a2.extract (IntKind.wrap .i64 (x463 * 512) : Int).toNat (IntKind.wrap .i64 ((IntKind.wrap .i64 (x463 + 1)) * 512) : Int).toNat⟩ : T_dev_held)] : List T_dev_held).length)) ([(⟨IntKind.wrap .i64 (a1 + x463), a2.extract (IntKind.wrap .i64 (x463 * 512) : Int).toNat (IntKind.wrap .i64 ((IntKind.wrap .i64 (x463 + 1)) * 512) : Int).toNat⟩ : T_dev_held)] : List T_dev_held) KR rfl KR KR hR530 (fun _ => rfl) KR KR KR (by decide) (by have := hA531; unfold maxLen; omega) (by have := hA531; omega) KR ?_; intro A532 c533 ax wx HV hax; exact HK _ _ _ hax ⟨[A532], [c533], rfl, HV⟩
                · skip
                  intro a W539 ha hE_ he hf
                  clear HW; obtain ⟨_, he_, As537, ns538, rfl, HW⟩ := gotK (m := 8) (j := 7) (d := 75) (f := .wd (fun As537 ns538 => .slice (As537.getD 0 none) (t498.2.f2 ++ ([(⟨IntKind.wrap .i64 (a1 + x463), a2.extract (IntKind.wrap .i64 (x463 * 512) : Int).toNat (IntKind.wrap .i64 ((IntKind.wrap .i64 (x463 + 1)) * 512) : Int).toNat⟩ : T_dev_held)] : List T_dev_held)).length (ns538.getD 0 0)) w (fun As537 ns538 => ((p0, .cells #[.slice A518 t498.2.f0.length c519, .slice A521 t498.2.f1.length c522, .slice A524 t498.2.f2.length c525, .int .i64 t498.2.f3.f2, .bool t498.2.f4, .int .i64 t498.2.f5, .bool t498.2.f6] 53 (0, 0)) :: (b513, .cells #[.int .i64 (IntKind.wrap .i64 (a1 + x463)), .string (a2.extract (IntKind.wrap .i64 (x463 * 512) : Int).toNat (IntKind.wrap .i64 ((IntKind.wrap .i64 (x463 + 1)) * 512) : Int).toNat)] 62 (0, 0)) :: F ++ bs)) (fun As537 ns538 => (⟨9, 1, .slice A518 t498.2.f0.length c519, t498.2.f0.length, encs encS t498.2.f0⟩ :: ⟨9, 1, .slice A521 t498.2.f1.length c522, t498.2.f1.length, encs encS t498.2.f1⟩ :: ⟨62, 2, .slice (As537.getD 0 none) (t498.2.f2 ++ ([(⟨IntKind.wrap .i64 (a1 + x463), a2.extract (IntKind.wrap .i64 (x463 * 512) : Int).toNat (IntKind.wrap .i64 ((IntKind.wrap .i64 (x463 + 1)) * 512) : Int).toNat⟩ : T_dev_held)] : List T_dev_held)).length (ns538.getD 0 0), (t498.2.f2 ++ ([(⟨IntKind.wrap .i64 (a1 + x463), a2.extract (IntKind.wrap .i64 (x463 * 512) : Int).toNat (IntKind.wrap .i64 ((IntKind.wrap .i64 (x463 + 1)) * 512) : Int).toNat⟩ : T_dev_held)] : List T_dev_held)).length, encs T_dev_held.enc (t498.2.f2 ++ ([(⟨IntKind.wrap .i64 (a1 + x463), a2.extract (IntKind.wrap .i64 (x463 * 512) : Int).toNat (IntKind.wrap .i64 ((IntKind.wrap .i64 (x463 + 1)) * 512) : Int).toNat⟩ : T_dev_held)] : List T_dev_held))⟩ :: os))) hf KR KR KR; replace ha := ha.add he_; clear he_
                  replace HW : Wd w W539 ((p0, .cells #[.slice A518 t498.2.f0.length c519, .slice A521 t498.2.f1.length c522, .slice A524 t498.2.f2.length c525, .int .i64 t498.2.f3.f2, .bool t498.2.f4, .int .i64 t498.2.f5, .bool t498.2.f6] 53 (0, 0)) :: (b513, .cells #[.int .i64 (IntKind.wrap .i64 (a1 + x463)), .string (a2.extract (IntKind.wrap .i64 (x463 * 512) : Int).toNat (IntKind.wrap .i64 ((IntKind.wrap .i64 (x463 + 1)) * 512) : Int).toNat)] 62 (0, 0)) :: F ++ bs) (⟨9, 1, .slice A518 t498.2.f0.length c519, t498.2.f0.length, encs encS t498.2.f0⟩ :: ⟨9, 1, .slice A521 t498.2.f1.length c522, t498.2.f1.length, encs encS t498.2.f1⟩ :: ⟨62, 2, .slice (As537.getD 0 none) (t498.2.f2 ++ ([(⟨IntKind.wrap .i64 (a1 + x463), a2.extract (IntKind.wrap .i64 (x463 * 512) : Int).toNat (IntKind.wrap .i64 ((IntKind.wrap .i64 (x463 + 1)) * 512) : Int).toNat⟩ : T_dev_held)] : List T_dev_held)).length (ns538.getD 0 0), (t498.2.f2 ++ ([(⟨IntKind.wrap .i64 (a1 + x463), a2.extract (IntKind.wrap .i64 (x463 * 512) : Int).toNat (IntKind.wrap .i64 ((IntKind.wrap .i64 (x463 + 1)) * 512) : Int).toNat⟩ : T_dev_held)] : List T_dev_held)).length, encs T_dev_held.enc (t498.2.f2 ++ ([(⟨IntKind.wrap .i64 (a1 + x463), a2.extract (IntKind.wrap .i64 (x463 * 512) : Int).toNat (IntKind.wrap .i64 ((IntKind.wrap .i64 (x463 + 1)) * 512) : Int).toNat⟩ : T_dev_held)] : List T_dev_held))⟩ :: os) := HW
                  replace ha := ha.add (he 0 (.pointer (some ⟨p0, 0, none⟩)) KR KR)
                  replace ha := ha.add (he 1 (.int .i64 a1) KR KR)
                  replace ha := ha.add (he 2 (.string a2) KR KR)
                  replace ha := ha.add (he 9 (.pointer (some ⟨b513, 0, none⟩)) KR KR)
                  replace ha := ha.add (he 50 (.int .i64 (IntKind.wrap .i64 (Int.tdiv (a2.size : Int) 512))) KR KR)
                  replace ha := ha.add (he 51 (.int .i64 x463) KR KR)
                  replace ha := ha.add (gotF (m := 8) (j := 0) (d := 68) (v := .pointer (some ⟨p0, 0, none⟩)) hf KR KR KR)
                  clear he hf
                  refine stepp ha 76 (.pointer (some ⟨p0, 0, none⟩)) KR KR ?_; clear ha a; intro a ha
                  refine stepp ha 77 (.pointer (some ⟨p0, 2, none⟩)) KR KR ?_; clear ha a; intro a ha
                  refine stepst ha HW 0 (b := p0) (C := #[.slice A518 t498.2.f0.length c519, .slice A521 t498.2.f1.length c522, .slice A524 t498.2.f2.length c525, .int .i64 t498.2.f3.f2, .bool t498.2.f4, .int .i64 t498.2.f5, .bool t498.2.f6]) (T := 53) KR 46 2 (.tmp 77) (.tmp 75) (.slice (As537.getD 0 none) (t498.2.f2 ++ ([(⟨IntKind.wrap .i64 (a1 + x463), a2.extract (IntKind.wrap .i64 (x463 * 512) : Int).toNat (IntKind.wrap .i64 ((IntKind.wrap .i64 (x463 + 1)) * 512) : Int).toNat⟩ : T_dev_held)] : List T_dev_held)).length (ns538.getD 0 0)) #[.slice A518 t498.2.f0.length c519, .slice A521 t498.2.f1.length c522, .slice (As537.getD 0 none) (t498.2.f2 ++ ([(⟨IntKind.wrap .i64 (a1 + x463), a2.extract (IntKind.wrap .i64 (x463 * 512) : Int).toNat (IntKind.wrap .i64 ((IntKind.wrap .i64 (x463 + 1)) * 512) : Int).toNat⟩ : T_dev_held)] : List T_dev_held)).length (ns538.getD 0 0), .int .i64 t498.2.f3.f2, .bool t498.2.f4, .int .i64 t498.2.f5, .bool t498.2.f6] rfl KR KR KR KR KR KR KR ?_; clear ha HW a; intro a W540 HW ha
                  refine endl ?_
                  refine thenN (hK517 _ _ ?_); clear hK517
                  refine regionG 8 KR KR ha HW [.fix (.pointer (some ⟨p0, 0, none⟩)), .fix (.pointer (some ⟨p0, 0, none⟩)), .fix (.pointer (some ⟨p0, 1, none⟩)), .fix (.slice A521 t498.2.f1.length c522), .fix (.pointer (some ⟨b513, 0, none⟩)), .fix (.int .i64 (IntKind.wrap .i64 (a1 + x463))), .fix (.pointer (some ⟨b513, 1, none⟩)), .fix (.string (a2.extract (IntKind.wrap .i64 (x463 * 512) : Int).toNat (IntKind.wrap .i64 ((IntKind.wrap .i64 (x463 + 1)) * 512) : Int).toNat))] ?_ ?_
                  · skip
                    refine ⟨?_, ?_, ?_, ?_, ?_, ?_, ?_, ?_, trivial⟩
                    · skip
                      intro a wr hn hd HW hs; have ha := hasNil hn hd
                      have ha := ha.add (seeE hs 0 (.pointer (some ⟨p0, 0, none⟩)) KR KR)
                      refine yStep ha 78 KR ?_; intro l_ ha HK
                      refine stepp ha 78 (.pointer (some ⟨p0, 0, none⟩)) KR KR ?_; intro ax hax; exact HK _ _ _ hax rfl (Below.refl _ _)
                    · skip
                      intro a wr hn hd HW hs; have ha := hasNil hn hd
                      have ha := ha.add (seeF hs 78 0 (.pointer (some ⟨p0, 0, none⟩)) KR KR)
                      refine yStep ha 79 KR ?_; intro l_ ha HK
                      refine stepp ha 79 (.pointer (some ⟨p0, 0, none⟩)) KR KR ?_; intro ax hax; exact HK _ _ _ hax rfl (Below.refl _ _)
                    · skip
                      intro a wr hn hd HW hs; have ha := hasNil hn hd
                      have ha := ha.add (seeF hs 79 1 (.pointer (some ⟨p0, 0, none⟩)) KR KR)
                      refine yStep ha 80 KR ?_; intro l_ ha HK
                      refine stepp ha 80 (.pointer (some ⟨p0, 1, none⟩)) KR KR ?_; intro ax hax; exact HK _ _ _ hax rfl (Below.refl _ _)
                    · skip
                      intro a wr hn hd HW hs; have ha := hasNil hn hd
                      have ha := ha.add (seeF hs 80 2 (.pointer (some ⟨p0, 1, none⟩)) KR KR)
                      refine yStep ha 81 KR ?_; intro l_ ha HK
                      refine stepl ha 81 (HW.ca (i := 0) (b := p0) (C := #[.slice A518 t498.2.f0.length c519, .slice A521 t498.2.f1.length c522, .slice (As537.getD 0 none) (t498.2.f2 ++ ([(⟨IntKind.wrap .i64 (a1 + x463), a2.extract (IntKind.wrap .i64 (x463 * 512) : Int).toNat (IntKind.wrap .i64 ((IntKind.wrap .i64 (x463 + 1)) * 512) : Int).toNat⟩ : T_dev_held)] : List T_dev_held)).length (ns538.getD 0 0), .int .i64 t498.2.f3.f2, .bool t498.2.f4, .int .i64 t498.2.f5, .bool t498.2.f6]) (T := 53) (fr := (0, 0)) KR) 22 1 (.tmp 80) (.slice A521 t498.2.f1.length c522) rfl KR KR KR ?_; intro ax hax; exact HK _ _ _ hax rfl (Below.refl _ _)
                    · skip
                      intro a wr hn hd HW hs; have ha := hasNil hn hd
                      have ha := ha.add (seeE hs 9 (.pointer (some ⟨b513, 0, none⟩)) KR KR)
                      refine yStep ha 82 KR ?_; intro l_ ha HK
                      refine stepp ha 82 (.pointer (some ⟨b513, 0, none⟩)) KR KR ?_; intro ax hax; exact HK _ _ _ hax rfl (Below.refl _ _)
                    · skip
                      intro a wr hn hd HW hs; have ha := hasNil hn hd
                      have ha := ha.add (seeF hs 82 4 (.pointer (some ⟨b513, 0, none⟩)) KR KR)
                      refine yStep ha 83 KR ?_; intro l_ ha HK
                      refine stepl ha 83 (HW.ca (i := 1) (b := b513) (C := #[.int .i64 (IntKind.wrap .i64 (a1 + x463)), .string (a2.extract (IntKind.wrap .i64 (x463 * 512) : Int).toNat (IntKind.wrap .i64 ((IntKind.wrap .i64 (x463 + 1)) * 512) : Int).toNat)]) (T := 62) (fr := (0, 0)) KR) 3 0 (.tmp 82) (.int .i64 (IntKind.wrap .i64 (a1 + x463))) rfl KR KR KR ?_; intro ax hax; exact HK _ _ _ hax rfl (Below.refl _ _)
                    · skip
                      intro a wr hn hd HW hs; have ha := hasNil hn hd
                      have ha := ha.add (seeE hs 9 (.pointer (some ⟨b513, 0, none⟩)) KR KR)
                      refine yStep ha 84 KR ?_; intro l_ ha HK
                      refine stepp ha 84 (.pointer (some ⟨b513, 1, none⟩)) KR KR ?_; intro ax hax; exact HK _ _ _ hax rfl (Below.refl _ _)
                    · skip
                      intro a wr hn hd HW hs; have ha := hasNil hn hd
                      have ha := ha.add (seeF hs 84 6 (.pointer (some ⟨b513, 1, none⟩)) KR KR)
                      refine yStep ha 85 KR ?_; intro l_ ha HK
                      refine stepl ha 85 (HW.ca (i := 1) (b := b513) (C := #[.int .i64 (IntKind.wrap .i64 (a1 + x463)), .string (a2.extract (IntKind.wrap .i64 (x463 * 512) : Int).toNat (IntKind.wrap .i64 ((IntKind.wrap .i64 (x463 + 1)) * 512) : Int).toNat)]) (T := 62) (fr := (0, 0)) KR) 9 1 (.tmp 84) (.string (a2.extract (IntKind.wrap .i64 (x463 * 512) : Int).toNat (IntKind.wrap .i64 ((IntKind.wrap .i64 (x463 + 1)) * 512) : Int).toNat)) rfl KR KR KR ?_; intro ax hax; exact HK _ _ _ hax rfl (Below.refl _ _)
                  · skip
                    intro a W541 ha HW he hf
                    replace ha := ha.add (he 0 (.pointer (some ⟨p0, 0, none⟩)) KR KR)
                    replace ha := ha.add (he 1 (.int .i64 a1) KR KR)
                    replace ha := ha.add (he 2 (.string a2) KR KR)
                    replace ha := ha.add (he 50 (.int .i64 (IntKind.wrap .i64 (Int.tdiv (a2.size : Int) 512))) KR KR)
                    replace ha := ha.add (he 51 (.int .i64 x463) KR KR)
                    replace ha := ha.add (gotF (m := 8) (j := 3) (d := 81) (v := .slice A521 t498.2.f1.length c522) hf KR KR KR)
                    replace ha := ha.add (gotF (m := 8) (j := 5) (d := 83) (v := .int .i64 (IntKind.wrap .i64 (a1 + x463))) hf KR KR KR)
                    replace ha := ha.add (gotF (m := 8) (j := 7) (d := 85) (v := .string (a2.extract (IntKind.wrap .i64 (x463 * 512) : Int).toNat (IntKind.wrap .i64 ((IntKind.wrap .i64 (x463 + 1)) * 512) : Int).toNat)) hf KR KR KR)
                    clear he hf
                    obtain ⟨hA542, h_⟩ := asrt_some h; clear h; have h := h_; clear h_
                    obtain ⟨hA543, h_⟩ := asrt_some h; clear h; have h := h_; clear h_
                    refine stepio encS ha HW 86 1 (sz := 1) (e := 9) (v := .slice A521 t498.2.f1.length c522) (xs := t498.2.f1) KR 22 (.tmp 81) (.tmp 83) .i64 (IntKind.wrap .i64 (a1 + x463)) rfl KR KR KR KR hA542 (show (IntKind.wrap .i64 (a1 + x463) : Int) < ((t498.2.f1).length : Int) from hA543) KR ?_; clear ha a; intro b544 a hb545 ha
                    refine stepos encS (⟨#[]⟩ : ByteArray) ha HW 1 (sz := 1) (e := 9) (fun _ => rfl) (v := .slice A521 t498.2.f1.length c522) (xs := t498.2.f1) KR hb545 (IntKind.wrap .i64 (a1 + x463)) hA542 (show (IntKind.wrap .i64 (a1 + x463) : Int) < ((t498.2.f1).length : Int) from hA543) 9 0 (.tmp 86) (.tmp 85) (.string (a2.extract (IntKind.wrap .i64 (x463 * 512) : Int).toNat (IntKind.wrap .i64 ((IntKind.wrap .i64 (x463 + 1)) * 512) : Int).toNat)) (a2.extract (IntKind.wrap .i64 (x463 * 512) : Int).toNat (IntKind.wrap .i64 ((IntKind.wrap .i64 (x463 + 1)) * 512) : Int).toNat) rfl KR KR KR KR KR KR KR (.slice A521 (t498.2.f1.set (IntKind.wrap .i64 (a1 + x463) : Int).toNat (a2.extract (IntKind.wrap .i64 (x463 * 512) : Int).toNat (IntKind.wrap .i64 ((IntKind.wrap .i64 (x463 + 1)) * 512) : Int).toNat)).length c522) (by rw [List.length_set]) ?_; clear ha HW a; intro a W546 HW ha
                    replace ha := ha.turn 81 (v := .slice A521 (t498.2.f1.set (IntKind.wrap .i64 (a1 + x463) : Int).toNat (a2.extract (IntKind.wrap .i64 (x463 * 512) : Int).toNat (IntKind.wrap .i64 ((IntKind.wrap .i64 (x463 + 1)) * 512) : Int).toNat)).length c522) KR (by rw [List.length_set])
                    replace HW : Wd w W546 ((p0, .cells #[.slice A518 t498.2.f0.length c519, .slice A521 (t498.2.f1.set (IntKind.wrap .i64 (a1 + x463) : Int).toNat (a2.extract (IntKind.wrap .i64 (x463 * 512) : Int).toNat (IntKind.wrap .i64 ((IntKind.wrap .i64 (x463 + 1)) * 512) : Int).toNat)).length c522, .slice (As537.getD 0 none) (t498.2.f2 ++ ([(⟨IntKind.wrap .i64 (a1 + x463), a2.extract (IntKind.wrap .i64 (x463 * 512) : Int).toNat (IntKind.wrap .i64 ((IntKind.wrap .i64 (x463 + 1)) * 512) : Int).toNat⟩ : T_dev_held)] : List T_dev_held)).length (ns538.getD 0 0), .int .i64 t498.2.f3.f2, .bool t498.2.f4, .int .i64 t498.2.f5, .bool t498.2.f6] 53 (0, 0)) :: (b513, .cells #[.int .i64 (IntKind.wrap .i64 (a1 + x463)), .string (a2.extract (IntKind.wrap .i64 (x463 * 512) : Int).toNat (IntKind.wrap .i64 ((IntKind.wrap .i64 (x463 + 1)) * 512) : Int).toNat)] 62 (0, 0)) :: F ++ bs) (⟨9, 1, .slice A518 t498.2.f0.length c519, t498.2.f0.length, encs encS t498.2.f0⟩ :: ⟨9, 1, .slice A521 (t498.2.f1.set (IntKind.wrap .i64 (a1 + x463) : Int).toNat (a2.extract (IntKind.wrap .i64 (x463 * 512) : Int).toNat (IntKind.wrap .i64 ((IntKind.wrap .i64 (x463 + 1)) * 512) : Int).toNat)).length c522, (t498.2.f1.set (IntKind.wrap .i64 (a1 + x463) : Int).toNat (a2.extract (IntKind.wrap .i64 (x463 * 512) : Int).toNat (IntKind.wrap .i64 ((IntKind.wrap .i64 (x463 + 1)) * 512) : Int).toNat)).length, encs encS (t498.2.f1.set (IntKind.wrap .i64 (a1 + x463) : Int).toNat (a2.extract (IntKind.wrap .i64 (x463 * 512) : Int).toNat (IntKind.wrap .i64 ((IntKind.wrap .i64 (x463 + 1)) * 512) : Int).toNat))⟩ :: ⟨62, 2, .slice (As537.getD 0 none) (t498.2.f2 ++ ([(⟨IntKind.wrap .i64 (a1 + x463), a2.extract (IntKind.wrap .i64 (x463 * 512) : Int).toNat (IntKind.wrap .i64 ((IntKind.wrap .i64 (x463 + 1)) * 512) : Int).toNat⟩ : T_dev_held)] : List T_dev_held)).length (ns538.getD 0 0), (t498.2.f2 ++ ([(⟨IntKind.wrap .i64 (a1 + x463), a2.extract (IntKind.wrap .i64 (x463 * 512) : Int).toNat (IntKind.wrap .i64 ((IntKind.wrap .i64 (x463 + 1)) * 512) : Int).toNat⟩ : T_dev_held)] : List T_dev_held)).length, encs T_dev_held.enc (t498.2.f2 ++ ([(⟨IntKind.wrap .i64 (a1 + x463), a2.extract (IntKind.wrap .i64 (x463 * 512) : Int).toNat (IntKind.wrap .i64 ((IntKind.wrap .i64 (x463 + 1)) * 512) : Int).toNat⟩ : T_dev_held)] : List T_dev_held))⟩ :: os) := by simp only [List.length_set] at HW ⊢; exact HW
                    refine endl ?_
                    refine blkN ?_
                    refine thenN (hK489 _ _ ?_); clear hK489
                    refine wp_region_lit ?_
                    refine stepp ha 87 (.int .i64 (IntKind.wrap .i64 (x463 + 1))) KR KR ?_; clear ha a; intro a ha
                    refine stepp ha 51 (.int .i64 (IntKind.wrap .i64 (x463 + 1))) KR KR ?_; clear ha a; intro a ha
                    refine endl ?_
                    exact thenN ⟨k481, Nat.lt_succ_self k481, IntKind.wrap .i64 (x463 + 1), t498.2.f0, A518, c519, t498.2.f1.set (IntKind.wrap .i64 (a1 + x463) : Int).toNat (a2.extract (IntKind.wrap .i64 (x463 * 512) : Int).toNat (IntKind.wrap .i64 ((IntKind.wrap .i64 (x463 + 1)) * 512) : Int).toNat), A521, c522, t498.2.f2 ++ ([(⟨IntKind.wrap .i64 (a1 + x463), a2.extract (IntKind.wrap .i64 (x463 * 512) : Int).toNat (IntKind.wrap .i64 ((IntKind.wrap .i64 (x463 + 1)) * 512) : Int).toNat⟩ : T_dev_held)] : List T_dev_held), (As537.getD 0 none), (ns538.getD 0 0), t498.2.f3.f2, t498.2.f4, t498.2.f5, t498.2.f6, (by rw [← hag482]; exact h), ha.sub (subs_cons KR (subs_cons KR (subs_cons KR (subs_cons KR (subs_cons KR (subs_nil _)))))), (Wd.segs (ss := [[(p0, .cells #[.slice A518 t498.2.f0.length c519, .slice A521 (t498.2.f1.set (IntKind.wrap .i64 (a1 + x463) : Int).toNat (a2.extract (IntKind.wrap .i64 (x463 * 512) : Int).toNat (IntKind.wrap .i64 ((IntKind.wrap .i64 (x463 + 1)) * 512) : Int).toNat)).length c522, .slice (As537.getD 0 none) (t498.2.f2 ++ ([(⟨IntKind.wrap .i64 (a1 + x463), a2.extract (IntKind.wrap .i64 (x463 * 512) : Int).toNat (IntKind.wrap .i64 ((IntKind.wrap .i64 (x463 + 1)) * 512) : Int).toNat⟩ : T_dev_held)] : List T_dev_held)).length (ns538.getD 0 0), .int .i64 t498.2.f3.f2, .bool t498.2.f4, .int .i64 t498.2.f5, .bool t498.2.f6] 53 (0, 0))], [(b513, .cells #[.int .i64 (IntKind.wrap .i64 (a1 + x463)), .string (a2.extract (IntKind.wrap .i64 (x463 * 512) : Int).toNat (IntKind.wrap .i64 ((IntKind.wrap .i64 (x463 + 1)) * 512) : Int).toNat)] 62 (0, 0))], F]) (bt := bs) (m := [⟨9, 1, .slice A518 t498.2.f0.length c519, t498.2.f0.length, encs encS t498.2.f0⟩, ⟨9, 1, .slice A521 (t498.2.f1.set (IntKind.wrap .i64 (a1 + x463) : Int).toNat (a2.extract (IntKind.wrap .i64 (x463 * 512) : Int).toNat (IntKind.wrap .i64 ((IntKind.wrap .i64 (x463 + 1)) * 512) : Int).toNat)).length c522, (t498.2.f1.set (IntKind.wrap .i64 (a1 + x463) : Int).toNat (a2.extract (IntKind.wrap .i64 (x463 * 512) : Int).toNat (IntKind.wrap .i64 ((IntKind.wrap .i64 (x463 + 1)) * 512) : Int).toNat)).length, encs encS (t498.2.f1.set (IntKind.wrap .i64 (a1 + x463) : Int).toNat (a2.extract (IntKind.wrap .i64 (x463 * 512) : Int).toNat (IntKind.wrap .i64 ((IntKind.wrap .i64 (x463 + 1)) * 512) : Int).toNat))⟩, ⟨62, 2, .slice (As537.getD 0 none) (t498.2.f2 ++ ([(⟨IntKind.wrap .i64 (a1 + x463), a2.extract (IntKind.wrap .i64 (x463 * 512) : Int).toNat (IntKind.wrap .i64 ((IntKind.wrap .i64 (x463 + 1)) * 512) : Int).toNat⟩ : T_dev_held)] : List T_dev_held)).length (ns538.getD 0 0), (t498.2.f2 ++ ([(⟨IntKind.wrap .i64 (a1 + x463), a2.extract (IntKind.wrap .i64 (x463 * 512) : Int).toNat (IntKind.wrap .i64 ((IntKind.wrap .i64 (x463 + 1)) * 512) : Int).toNat⟩ : T_dev_held)] : List T_dev_held)).length, encs T_dev_held.enc (t498.2.f2 ++ ([(⟨IntKind.wrap .i64 (a1 + x463), a2.extract (IntKind.wrap .i64 (x463 * 512) : Int).toNat (IntKind.wrap .i64 ((IntKind.wrap .i64 (x463 + 1)) * 512) : Int).toNat⟩ : T_dev_held)] : List T_dev_held))⟩]) (ot := os) [[(p0, .cells #[.slice A518 t498.2.f0.length c519, .slice A521 (t498.2.f1.set (IntKind.wrap .i64 (a1 + x463) : Int).toNat (a2.extract (IntKind.wrap .i64 (x463 * 512) : Int).toNat (IntKind.wrap .i64 ((IntKind.wrap .i64 (x463 + 1)) * 512) : Int).toNat)).length c522, .slice (As537.getD 0 none) (t498.2.f2 ++ ([(⟨IntKind.wrap .i64 (a1 + x463), a2.extract (IntKind.wrap .i64 (x463 * 512) : Int).toNat (IntKind.wrap .i64 ((IntKind.wrap .i64 (x463 + 1)) * 512) : Int).toNat⟩ : T_dev_held)] : List T_dev_held)).length (ns538.getD 0 0), .int .i64 t498.2.f3.f2, .bool t498.2.f4, .int .i64 t498.2.f5, .bool t498.2.f6] 53 (0, 0))], F] [⟨9, 1, .slice A518 t498.2.f0.length c519, t498.2.f0.length, encs encS t498.2.f0⟩, ⟨9, 1, .slice A521 (t498.2.f1.set (IntKind.wrap .i64 (a1 + x463) : Int).toNat (a2.extract (IntKind.wrap .i64 (x463 * 512) : Int).toNat (IntKind.wrap .i64 ((IntKind.wrap .i64 (x463 + 1)) * 512) : Int).toNat)).length c522, (t498.2.f1.set (IntKind.wrap .i64 (a1 + x463) : Int).toNat (a2.extract (IntKind.wrap .i64 (x463 * 512) : Int).toNat (IntKind.wrap .i64 ((IntKind.wrap .i64 (x463 + 1)) * 512) : Int).toNat)).length, encs encS (t498.2.f1.set (IntKind.wrap .i64 (a1 + x463) : Int).toNat (a2.extract (IntKind.wrap .i64 (x463 * 512) : Int).toNat (IntKind.wrap .i64 ((IntKind.wrap .i64 (x463 + 1)) * 512) : Int).toNat))⟩, ⟨62, 2, .slice (As537.getD 0 none) (t498.2.f2 ++ ([(⟨IntKind.wrap .i64 (a1 + x463), a2.extract (IntKind.wrap .i64 (x463 * 512) : Int).toNat (IntKind.wrap .i64 ((IntKind.wrap .i64 (x463 + 1)) * 512) : Int).toNat⟩ : T_dev_held)] : List T_dev_held)).length (ns538.getD 0 0), (t498.2.f2 ++ ([(⟨IntKind.wrap .i64 (a1 + x463), a2.extract (IntKind.wrap .i64 (x463 * 512) : Int).toNat (IntKind.wrap .i64 ((IntKind.wrap .i64 (x463 + 1)) * 512) : Int).toNat⟩ : T_dev_held)] : List T_dev_held)).length, encs T_dev_held.enc (t498.2.f2 ++ ([(⟨IntKind.wrap .i64 (a1 + x463), a2.extract (IntKind.wrap .i64 (x463 * 512) : Int).toNat (IntKind.wrap .i64 ((IntKind.wrap .i64 (x463 + 1)) * 512) : Int).toNat⟩ : T_dev_held)] : List T_dev_held))⟩] HW [0, 2] [1] [0, 1, 2] KR KR (by decide) KR)⟩
              · skip
                replace h := ite_neg' h hp505
                refine condT ha KR KR (t := (!t498.1)) (not_t (bool_f hp505)) ?_
                refine wp_seq_k (fun K506 hK507 => ?_)
                refine wp_region_lit ?_
                refine stepp ha 6 (.int .i64 41) KR KR ?_; clear ha a; intro a ha
                refine endl ?_
                refine thenN (hK507 _ _ ?_); clear hK507
                refine wp_ret ?_
                refine thenR ?_
                refine blkR ?_
                refine thenR ?_
                refine thenR ?_
                refine blkR ?_
                refine thenR ?_
                obtain rfl := Option.some.inj h
                exact finv ha _ _ rfl (.tmp (v := .int .i64 41) KR .nil) (.int .i64 41) rfl ⟨U500, rfl, hU497, (Wd.segs (ss := [U500, F]) (bt := bs) (m := []) (ot := os) [U500, F] [] HW [0, 1] [] [] KR KR (by decide) KR)⟩
            · skip
              replace h := ite_neg' h hp487
              refine condF ha KR KR (t := decide (x463 < (IntKind.wrap .i64 (Int.tdiv (a2.size : Int) 512)))) (decide_eq_false hp487) ?_
              refine wp_exit ?_
              refine thenE ?_
              refine thenE ?_
              refine inBlk ?_
              refine thenN (hK314 _ _ ?_); clear hK314
              refine wp_seq_k (fun K547 hK548 => ?_)
              refine wp_region_lit ?_
              refine stepp ha 6 (.int .i64 0) KR KR ?_; clear ha a; intro a ha
              refine endl ?_
              refine thenN (hK548 _ _ ?_); clear hK548
              refine wp_ret ?_
              obtain ⟨U549, hU550, HW⟩ := T_dev_Dev.fold (x := (⟨x464, x468, x472, (⟨(), (), x476⟩ : T_atomic_Int64), x477, x478, x479⟩ : T_dev_Dev)) (Wd.segs (ss := [[(p0, .cells #[.slice A465 x464.length c466, .slice A469 x468.length c470, .slice A473 x472.length c474, .int .i64 x476, .bool x477, .int .i64 x478, .bool x479] 53 (0, 0))], F]) (bt := bs) (m := [⟨9, 1, .slice A465 x464.length c466, x464.length, encs encS x464⟩, ⟨9, 1, .slice A469 x468.length c470, x468.length, encs encS x468⟩, ⟨62, 2, .slice A473 x472.length c474, x472.length, encs T_dev_held.enc x472⟩]) (ot := os) [[(p0, .cells #[.slice A465 x464.length c466, .slice A469 x468.length c470, .slice A473 x472.length c474, .int .i64 x476, .bool x477, .int .i64 x478, .bool x479] 53 (0, 0))], F] [⟨9, 1, .slice A465 x464.length c466, x464.length, encs encS x464⟩, ⟨9, 1, .slice A469 x468.length c470, x468.length, encs encS x468⟩, ⟨62, 2, .slice A473 x472.length c474, x472.length, encs T_dev_held.enc x472⟩] HW [0, 1] [] [0, 1, 2] KR KR (by decide) KR)
              replace HW := Wd.segs (ss := [U549, F]) (bt := bs) (m := []) (ot := os) [U549, F] [] HW [0, 1] [] [] KR KR (by decide) KR
              replace HW : Wd w W480 (U549 ++ (F ++ bs)) (os) := HW
              obtain rfl := Option.some.inj h
              exact finv ha _ _ rfl (.tmp (v := .int .i64 0) KR .nil) (.int .i64 0) rfl ⟨U549, rfl, hU550, (Wd.segs (ss := [U549, F]) (bt := bs) (m := []) (ot := os) [U549, F] [] HW [0, 1] [] [] KR KR (by decide) KR)⟩
def strings_Repeat.f (a0 : ByteArray) (a1 : Int) : Option ByteArray :=
  asrt (0 ≤ a1) (asrt (a1 ≤ 9223372036854775807) (asrt (a0.size * a1.toNat ≤ 140737488355328) (some ⟨(Lib.repeatL a0.data.toList a1.toNat).toArray⟩)))
theorem strings_Repeat.calls (a0 : ByteArray) (a1 : Int)  (r : ByteArray) (w : World) (h : strings_Repeat.f a0 a1 = some r) :
    Calls Tryd.prog 25 #[.string a0, .int .i64 a1] w (fun e W' => e = .returned (.string r) ∧ Wd w W' [] []) := by
  unfold strings_Repeat.f at h
  obtain ⟨h0, h⟩ := asrt_some h
  obtain ⟨h1, h⟩ := asrt_some h
  obtain ⟨h2, h⟩ := asrt_some h
  obtain rfl := Option.some.inj h
  obtain ⟨c, rfl⟩ := Int.eq_ofNat_of_zero_le h0
  exact (Tryd.strings_Repeat a0 c w (by omega) h2).mono fun e W' ⟨he, hb⟩ => ⟨he, (Wd.refl w).call hb⟩
def fields_PutBig.f (K : Nat) (a0 : Int) (a1 : Int) : Option ByteArray :=
  (fields_put_uint64.f K a0 a1 true).bind fun t1119 => (some t1119)
set_option maxRecDepth 100000 in
set_option maxHeartbeats 4000000 in
theorem fields_PutBig.calls (K : Nat) (a0 : Int) (a1 : Int)  (r : ByteArray) (w : World)  (h : fields_PutBig.f K a0 a1 = some r) :
    Calls Tryd.prog 47 #[.int .u64 a0, .int .i64 a1] w (fun e W' => e = .returned (.string r) ∧ Wd w W' [] [] ) := by
  refine sxstart (n := 8) (l := [(0, .int .u64 a0), (1, .int .i64 a1)]) Tryd.func47 rfl rfl (Nat.le_of_ble_eq_true KR) (subsA_cons rfl (subsA_cons rfl (subsA_nil _))) ?_
  intro a ha
  have HW := Wd.refl w
  unfold fields_PutBig.f at h
  refine wp_seq_k (fun K1115 hK1116 => ?_)
  refine wp_region_lit ?_
  refine stepp ha 4 (.string (⟨#[]⟩ : ByteArray)) KR KR ?_; clear ha a; intro a ha
  refine endl ?_
  refine thenN (hK1116 _ _ ?_); clear hK1116
  refine wp_seq_k (fun K1117 hK1118 => ?_)
  refine wp_region_lit ?_
  refine stepp ha 5 (.int .u64 a0) KR KR ?_; clear ha a; intro a ha
  refine stepp ha 6 (.int .i64 a1) KR KR ?_; clear ha a; intro a ha
  obtain ⟨t1119, ht1120, h_⟩ := bind_some' h; clear h; have h := h_; clear h_
  refine stepc ha 7 KR KR (fields_put_uint64.calls K a0 a1 true t1119 _ ht1120) ?_; clear ha a; rintro e W1121 ⟨rfl, HX1122⟩
  refine ⟨_, rfl, ?_⟩; intro a ha; replace HW := HW.callw HX1122; clear HX1122
  refine stepp ha 4 (.string t1119) KR KR ?_; clear ha a; intro a ha
  refine endl ?_
  refine thenN (hK1118 _ _ ?_); clear hK1118
  refine wp_ret ?_
  obtain rfl := Option.some.inj h
  exact finv ha _ _ rfl (.tmp (v := .string t1119) KR .nil) (.string t1119) rfl ⟨rfl, HW.pick [] [] (by decide) (by decide) rfl KR⟩
def fields_Pad.f (a0 : ByteArray) (a1 : Int) : Option ByteArray :=
  if a1 < 1 then (some a0) else (if a1 > 4096 then (some a0) else (asrt (¬ a1 = 0) (if (Int.tmod (a0.size : Int) a1) = 0 then (some a0) else (asrt (0 ≤ (IntKind.wrap .i64 (a1 - (Int.tmod (a0.size : Int) a1)))) (asrt ((IntKind.wrap .i64 (a1 - (Int.tmod (a0.size : Int) a1))) ≤ 281474976710656) (asrt (a0.size + (strOfNums (List.replicate (IntKind.wrap .i64 (a1 - (Int.tmod (a0.size : Int) a1)) : Int).toNat (0 : Int))).size ≤ 9223372036854775807) (some (a0 ++ (strOfNums (List.replicate (IntKind.wrap .i64 (a1 - (Int.tmod (a0.size : Int) a1)) : Int).toNat (0 : Int)))))))))))
set_option maxRecDepth 100000 in
set_option maxHeartbeats 4000000 in
theorem fields_Pad.calls (a0 : ByteArray) (a1 : Int)  (r : ByteArray) (w : World)  (h : fields_Pad.f a0 a1 = some r) :
    Calls Tryd.prog 60 #[.string a0, .int .i64 a1] w (fun e W' => e = .returned (.string r) ∧ Wd w W' [] [] ) := by
  refine sxstart (n := 29) (l := [(0, .string a0), (1, .int .i64 a1)]) Tryd.func60 rfl rfl (Nat.le_of_ble_eq_true KR) (subsA_cons rfl (subsA_cons rfl (subsA_nil _))) ?_
  intro a ha
  have HW := Wd.refl w
  unfold fields_Pad.f at h
  refine wp_seq_k (fun K1123 hK1124 => ?_)
  refine wp_region_lit ?_
  refine stepp ha 4 (.string (⟨#[]⟩ : ByteArray)) KR KR ?_; clear ha a; intro a ha
  refine endl ?_
  refine thenN (hK1124 _ _ ?_); clear hK1124
  refine wp_seq_k (fun K1125 hK1126 => ?_)
  refine wp_seq_k (fun K1127 hK1128 => ?_)
  refine wp_region_lit ?_
  refine stepp ha 5 (.int .i64 a1) KR KR ?_; clear ha a; intro a ha
  refine stepp ha 6 (.bool (decide (a1 < 1))) KR KR ?_; clear ha a; intro a ha
  refine stepp ha 7 (.bool (decide (a1 < 1))) KR KR ?_; clear ha a; intro a ha
  by_cases hp1129 : a1 < 1
  · skip
    replace h := ite_pos' h hp1129
    replace ha := ha.bool 7 KR (decide_eq_true hp1129)
    refine stepo ha 8 KR ?_; clear ha a; intro a ha
    refine stepo ha 9 KR ?_; clear ha a; intro a ha
    refine stepp ha 10 (.bool true) KR KR ?_; clear ha a; intro a ha
    refine stepp ha 11 (.bool true) KR KR ?_; clear ha a; intro a ha
    refine stepo ha 12 KR ?_; clear ha a; intro a ha
    refine stepo ha 13 KR ?_; clear ha a; intro a ha
    refine stepo ha 14 KR ?_; clear ha a; intro a ha
    refine stepo ha 15 KR ?_; clear ha a; intro a ha
    refine stepo ha 16 KR ?_; clear ha a; intro a ha
    refine stepp ha 17 (.bool true) KR KR ?_; clear ha a; intro a ha
    refine endl ?_
    refine thenN (hK1128 _ _ ?_); clear hK1128
    refine condT ha KR KR (t := true) (rfl) ?_
    refine wp_seq_k (fun K1132 hK1133 => ?_)
    refine wp_region_lit ?_
    refine stepp ha 18 (.string a0) KR KR ?_; clear ha a; intro a ha
    refine stepp ha 4 (.string a0) KR KR ?_; clear ha a; intro a ha
    refine endl ?_
    refine thenN (hK1133 _ _ ?_); clear hK1133
    refine wp_ret ?_
    refine thenR ?_
    obtain rfl := Option.some.inj h
    exact finv ha _ _ rfl (.tmp (v := .string a0) KR .nil) (.string a0) rfl ⟨rfl, HW.pick [] [] (by decide) (by decide) rfl KR⟩
  · skip
    replace h := ite_neg' h hp1129
    replace ha := ha.bool 7 KR (decide_eq_false hp1129)
    refine stepp ha 8 (.int .i64 a1) KR KR ?_; clear ha a; intro a ha
    refine stepp ha 9 (.bool (decide (a1 > 4096))) KR KR ?_; clear ha a; intro a ha
    refine stepp ha 10 (.bool (decide (a1 > 4096))) KR KR ?_; clear ha a; intro a ha
    refine stepp ha 11 (.bool (decide (a1 > 4096))) KR KR ?_; clear ha a; intro a ha
    by_cases hp1130 : a1 > 4096
    · skip
      replace h := ite_pos' h hp1130
      replace ha := ha.bool 11 KR (decide_eq_true hp1130)
      refine stepo ha 12 KR ?_; clear ha a; intro a ha
      refine stepo ha 13 KR ?_; clear ha a; intro a ha
      refine stepo ha 14 KR ?_; clear ha a; intro a ha
      refine stepo ha 15 KR ?_; clear ha a; intro a ha
      refine stepo ha 16 KR ?_; clear ha a; intro a ha
      refine stepp ha 17 (.bool true) KR KR ?_; clear ha a; intro a ha
      refine endl ?_
      refine thenN (hK1128 _ _ ?_); clear hK1128
      refine condT ha KR KR (t := true) (rfl) ?_
      refine wp_seq_k (fun K1134 hK1135 => ?_)
      refine wp_region_lit ?_
      refine stepp ha 18 (.string a0) KR KR ?_; clear ha a; intro a ha
      refine stepp ha 4 (.string a0) KR KR ?_; clear ha a; intro a ha
      refine endl ?_
      refine thenN (hK1135 _ _ ?_); clear hK1135
      refine wp_ret ?_
      refine thenR ?_
      obtain rfl := Option.some.inj h
      exact finv ha _ _ rfl (.tmp (v := .string a0) KR .nil) (.string a0) rfl ⟨rfl, HW.pick [] [] (by decide) (by decide) rfl KR⟩
    · skip
      replace h := ite_neg' h hp1130
      replace ha := ha.bool 11 KR (decide_eq_false hp1130)
      refine stepp ha 12 (.string a0) KR KR ?_; clear ha a; intro a ha
      refine stepp ha 13 (.int .i64 (a0.size : Int)) KR KR ?_; clear ha a; intro a ha
      refine stepp ha 14 (.int .i64 a1) KR KR ?_; clear ha a; intro a ha
      obtain ⟨hA1131, h_⟩ := asrt_some h; clear h; have h := h_; clear h_
      refine steprem ha 15 3 3 (.tmp 13) (.tmp 14) .i64 (a0.size : Int) a1 rfl KR KR hA1131 KR ?_; clear ha a; intro a ha
      refine stepp ha 16 (.bool ((Int.tmod (a0.size : Int) a1) == 0)) KR KR ?_; clear ha a; intro a ha
      refine stepp ha 17 (.bool ((Int.tmod (a0.size : Int) a1) == 0)) KR KR ?_; clear ha a; intro a ha
      refine endl ?_
      refine thenN (hK1128 _ _ ?_); clear hK1128
      by_cases hp1136 : (Int.tmod (a0.size : Int) a1) = 0
      · skip
        replace h := ite_pos' h hp1136
        refine condT ha KR KR (t := ((Int.tmod (a0.size : Int) a1) == 0)) (ieq_t hp1136) ?_
        refine wp_seq_k (fun K1137 hK1138 => ?_)
        refine wp_region_lit ?_
        refine stepp ha 18 (.string a0) KR KR ?_; clear ha a; intro a ha
        refine stepp ha 4 (.string a0) KR KR ?_; clear ha a; intro a ha
        refine endl ?_
        refine thenN (hK1138 _ _ ?_); clear hK1138
        refine wp_ret ?_
        refine thenR ?_
        obtain rfl := Option.some.inj h
        exact finv ha _ _ rfl (.tmp (v := .string a0) KR .nil) (.string a0) rfl ⟨rfl, HW.pick [] [] (by decide) (by decide) rfl KR⟩
      · skip
        replace h := ite_neg' h hp1136
        refine condF ha KR KR (t := ((Int.tmod (a0.size : Int) a1) == 0)) (ieq_f hp1136) ?_
        refine wp_skip ?_
        refine thenN (hK1126 _ _ ?_); clear hK1126
        refine wp_seq_k (fun K1139 hK1140 => ?_)
        refine wp_region_lit ?_
        refine stepp ha 19 (.string a0) KR KR ?_; clear ha a; intro a ha
        refine stepp ha 20 (.int .i64 a1) KR KR ?_; clear ha a; intro a ha
        refine stepp ha 21 (.string a0) KR KR ?_; clear ha a; intro a ha
        refine stepp ha 22 (.int .i64 (a0.size : Int)) KR KR ?_; clear ha a; intro a ha
        refine stepp ha 23 (.int .i64 a1) KR KR ?_; clear ha a; intro a ha
        refine steprem ha 24 3 3 (.tmp 22) (.tmp 23) .i64 (a0.size : Int) a1 rfl KR KR hA1131 KR ?_; clear ha a; intro a ha
        refine stepp ha 25 (.int .i64 (IntKind.wrap .i64 (a1 - (Int.tmod (a0.size : Int) a1)))) KR KR ?_; clear ha a; intro a ha
        obtain ⟨hA1141, h_⟩ := asrt_some h; clear h; have h := h_; clear h_
        obtain ⟨hA1142, h_⟩ := asrt_some h; clear h; have h := h_; clear h_
        refine stepmk (encIK .u8) (0 : Int) ha HW 26 71 5 (.tmp 25) (.tmp 25) .i64 .i64 (IntKind.wrap .i64 (a1 - (Int.tmod (a0.size : Int) a1))) (.int .u8 0) 1 rfl KR KR KR KR rfl rfl hA1141 (by have := hA1142; omega) (by have := hA1142; omega) KR ?_; clear ha HW a; intro b1143 a W1144 HW ha
        refine stepbt ha 27 71 9 5 (.tmp 26) (v := .slice (some ⟨b1143, 0, none⟩) (List.replicate (IntKind.wrap .i64 (a1 - (Int.tmod (a0.size : Int) a1)) : Int).toNat (0 : Int)).length ((IntKind.wrap .i64 (a1 - (Int.tmod (a0.size : Int) a1)) : Int).toNat)) (xs := List.replicate (IntKind.wrap .i64 (a1 - (Int.tmod (a0.size : Int) a1)) : Int).toNat (0 : Int)) (HW.rdo (i := 0) (q := ⟨5, 1, .slice (some ⟨b1143, 0, none⟩) (List.replicate (IntKind.wrap .i64 (a1 - (Int.tmod (a0.size : Int) a1)) : Int).toNat (0 : Int)).length ((IntKind.wrap .i64 (a1 - (Int.tmod (a0.size : Int) a1)) : Int).toNat), (List.replicate (IntKind.wrap .i64 (a1 - (Int.tmod (a0.size : Int) a1)) : Int).toNat (0 : Int)).length, encs (encIK .u8) (List.replicate (IntKind.wrap .i64 (a1 - (Int.tmod (a0.size : Int) a1)) : Int).toNat (0 : Int))⟩) KR) rfl KR KR KR KR KR ?_; clear ha a; intro a ha
        obtain ⟨hA1146, h_⟩ := asrt_some h; clear h; have h := h_; clear h_
        refine stepsa ha 28 9 9 (.tmp 19) (.tmp 27) a0 (strOfNums (List.replicate (IntKind.wrap .i64 (a1 - (Int.tmod (a0.size : Int) a1)) : Int).toNat (0 : Int))) rfl KR KR (show (a0).size + (strOfNums (List.replicate (IntKind.wrap .i64 (a1 - (Int.tmod (a0.size : Int) a1)) : Int).toNat (0 : Int))).size ≤ 9223372036854775807 from hA1146) KR ?_; clear ha a; intro a ha
        refine stepp ha 4 (.string (a0 ++ (strOfNums (List.replicate (IntKind.wrap .i64 (a1 - (Int.tmod (a0.size : Int) a1)) : Int).toNat (0 : Int))))) KR KR ?_; clear ha a; intro a ha
        refine endl ?_
        refine thenN (hK1140 _ _ ?_); clear hK1140
        refine wp_ret ?_
        obtain rfl := Option.some.inj h
        exact finv ha _ _ rfl (.tmp (v := .string (a0 ++ (strOfNums (List.replicate (IntKind.wrap .i64 (a1 - (Int.tmod (a0.size : Int) a1)) : Int).toNat (0 : Int))))) KR .nil) (.string (a0 ++ (strOfNums (List.replicate (IntKind.wrap .i64 (a1 - (Int.tmod (a0.size : Int) a1)) : Int).toNat (0 : Int))))) rfl ⟨rfl, HW.pick [] [] (by decide) (by decide) rfl KR⟩
def frame_Put.f (K : Nat) (a0 : Int) (a1 : ByteArray) : Option (ByteArray × Int) :=
  if (a1.size : Int) > 65536 then (some ((⟨#[]⟩ : ByteArray), 2)) else ((fields_PutBig.f K a0 8).bind fun t1260 => (asrt (4 + t1260.size ≤ 9223372036854775807) ((fields_PutBig.f K (IntKind.wrap .u64 (a1.size : Int)) 4).bind fun t1265 => (asrt (((⟨#[72, 71, 70, 82]⟩ : ByteArray) ++ t1260).size + t1265.size ≤ 9223372036854775807) ((crc_Digest.f K (((⟨#[72, 71, 70, 82]⟩ : ByteArray) ++ t1260) ++ t1265)).bind fun t1272 => (asrt ((((⟨#[72, 71, 70, 82]⟩ : ByteArray) ++ t1260) ++ t1265).size + t1272.size ≤ 9223372036854775807) (asrt (((((⟨#[72, 71, 70, 82]⟩ : ByteArray) ++ t1260) ++ t1265) ++ t1272).size + a1.size ≤ 9223372036854775807) ((crc_Digest.f K a1).bind fun t1278 => (asrt ((((((⟨#[72, 71, 70, 82]⟩ : ByteArray) ++ t1260) ++ t1265) ++ t1272) ++ a1).size + t1278.size ≤ 9223372036854775807) ((fields_Pad.f ((((((⟨#[72, 71, 70, 82]⟩ : ByteArray) ++ t1260) ++ t1265) ++ t1272) ++ a1) ++ t1278) 512).bind fun t1283 => (some (t1283, 0))))))))))))
set_option maxRecDepth 100000 in
set_option maxHeartbeats 4000000 in
theorem frame_Put.calls (K : Nat) (a0 : Int) (a1 : ByteArray)  (r : ByteArray × Int) (w : World) (hG1 : CA w 1 0 (encs (encIK .u32) G_crc_steps).toArray) (h : frame_Put.f K a0 a1 = some r) :
    Calls Tryd.prog 46 #[.int .u64 a0, .string a1] w (fun e W' => e = .returned (.tuple #[.string r.1, .int .i64 r.2]) ∧ Wd w W' [] [] ) := by
  refine sxstart (n := 28) (l := [(0, .int .u64 a0), (1, .string a1)]) Tryd.func46 rfl rfl (Nat.le_of_ble_eq_true KR) (subsA_cons rfl (subsA_cons rfl (subsA_nil _))) ?_
  intro a ha
  have HW := Wd.refl w
  unfold frame_Put.f at h
  refine wp_seq_k (fun K1249 hK1250 => ?_)
  refine wp_region_lit ?_
  refine stepp ha 4 (.string (⟨#[]⟩ : ByteArray)) KR KR ?_; clear ha a; intro a ha
  refine stepp ha 5 (.int .i64 0) KR KR ?_; clear ha a; intro a ha
  refine endl ?_
  refine thenN (hK1250 _ _ ?_); clear hK1250
  refine wp_seq_k (fun K1251 hK1252 => ?_)
  refine wp_seq_k (fun K1253 hK1254 => ?_)
  refine wp_region_lit ?_
  refine stepp ha 7 (.string a1) KR KR ?_; clear ha a; intro a ha
  refine stepp ha 8 (.int .i64 (a1.size : Int)) KR KR ?_; clear ha a; intro a ha
  refine stepp ha 9 (.bool (decide ((a1.size : Int) > 65536))) KR KR ?_; clear ha a; intro a ha
  refine endl ?_
  refine thenN (hK1254 _ _ ?_); clear hK1254
  by_cases hp1255 : (a1.size : Int) > 65536
  · skip
    replace h := ite_pos' h hp1255
    refine condT ha KR KR (t := decide ((a1.size : Int) > 65536)) (decide_eq_true hp1255) ?_
    refine wp_seq_k (fun K1256 hK1257 => ?_)
    refine wp_region_lit ?_
    refine stepp ha 4 (.string (⟨#[]⟩ : ByteArray)) KR KR ?_; clear ha a; intro a ha
    refine stepp ha 5 (.int .i64 2) KR KR ?_; clear ha a; intro a ha
    refine endl ?_
    refine thenN (hK1257 _ _ ?_); clear hK1257
    refine wp_ret ?_
    refine thenR ?_
    obtain rfl := Option.some.inj h
    exact finv ha _ _ rfl (.tmp (v := .string (⟨#[]⟩ : ByteArray)) KR (.tmp (v := .int .i64 2) KR .nil)) (.tuple #[.string (⟨#[]⟩ : ByteArray), .int .i64 2]) rfl ⟨rfl, HW.pick [] [] (by decide) (by decide) rfl KR⟩
  · skip
    replace h := ite_neg' h hp1255
    refine condF ha KR KR (t := decide ((a1.size : Int) > 65536)) (decide_eq_false hp1255) ?_
    refine wp_skip ?_
    refine thenN (hK1252 _ _ ?_); clear hK1252
    refine wp_seq_k (fun K1258 hK1259 => ?_)
    refine wp_region_lit ?_
    refine stepp ha 10 (.int .u64 a0) KR KR ?_; clear ha a; intro a ha
    obtain ⟨t1260, ht1261, h_⟩ := bind_some' h; clear h; have h := h_; clear h_
    refine stepc ha 11 KR KR (fields_PutBig.calls K a0 8 t1260 _ ht1261) ?_; clear ha a; rintro e W1262 ⟨rfl, HX1263⟩
    refine ⟨_, rfl, ?_⟩; intro a ha; replace HW := HW.callw HX1263; clear HX1263
    obtain ⟨hA1264, h_⟩ := asrt_some h; clear h; have h := h_; clear h_
    refine stepsa ha 12 9 9 (.const (.string (⟨#[72, 71, 70, 82]⟩ : ByteArray))) (.tmp 11) (⟨#[72, 71, 70, 82]⟩ : ByteArray) t1260 rfl KR KR (show ((⟨#[72, 71, 70, 82]⟩ : ByteArray)).size + (t1260).size ≤ 9223372036854775807 from hA1264) KR ?_; clear ha a; intro a ha
    refine stepp ha 13 (.string a1) KR KR ?_; clear ha a; intro a ha
    refine stepp ha 14 (.int .i64 (a1.size : Int)) KR KR ?_; clear ha a; intro a ha
    refine stepp ha 15 (.int .u64 (IntKind.wrap .u64 (a1.size : Int))) KR KR ?_; clear ha a; intro a ha
    obtain ⟨t1265, ht1266, h_⟩ := bind_some' h; clear h; have h := h_; clear h_
    refine stepc ha 16 KR KR (fields_PutBig.calls K (IntKind.wrap .u64 (a1.size : Int)) 4 t1265 _ ht1266) ?_; clear ha a; rintro e W1267 ⟨rfl, HX1268⟩
    refine ⟨_, rfl, ?_⟩; intro a ha; replace HW := HW.callw HX1268; clear HX1268
    obtain ⟨hA1269, h_⟩ := asrt_some h; clear h; have h := h_; clear h_
    refine stepsa ha 17 9 9 (.tmp 12) (.tmp 16) ((⟨#[72, 71, 70, 82]⟩ : ByteArray) ++ t1260) t1265 rfl KR KR (show ((⟨#[72, 71, 70, 82]⟩ : ByteArray) ++ t1260).size + (t1265).size ≤ 9223372036854775807 from hA1269) KR ?_; clear ha a; intro a ha
    refine stepp ha 6 (.string (((⟨#[72, 71, 70, 82]⟩ : ByteArray) ++ t1260) ++ t1265)) KR KR ?_; clear ha a; intro a ha
    refine endl ?_
    refine thenN (hK1259 _ _ ?_); clear hK1259
    refine wp_seq_k (fun K1270 hK1271 => ?_)
    refine wp_region_lit ?_
    refine stepp ha 18 (.string (((⟨#[72, 71, 70, 82]⟩ : ByteArray) ++ t1260) ++ t1265)) KR KR ?_; clear ha a; intro a ha
    refine stepp ha 19 (.string (((⟨#[72, 71, 70, 82]⟩ : ByteArray) ++ t1260) ++ t1265)) KR KR ?_; clear ha a; intro a ha
    obtain ⟨t1272, ht1273, h_⟩ := bind_some' h; clear h; have h := h_; clear h_
    refine stepc ha 20 KR KR (crc_Digest.calls K (((⟨#[72, 71, 70, 82]⟩ : ByteArray) ++ t1260) ++ t1265) t1272 _ (HW.ca0 hG1) ht1273) ?_; clear ha a; rintro e W1274 ⟨rfl, HX1275⟩
    refine ⟨_, rfl, ?_⟩; intro a ha; replace HW := HW.callw HX1275; clear HX1275
    obtain ⟨hA1276, h_⟩ := asrt_some h; clear h; have h := h_; clear h_
    refine stepsa ha 21 9 9 (.tmp 18) (.tmp 20) (((⟨#[72, 71, 70, 82]⟩ : ByteArray) ++ t1260) ++ t1265) t1272 rfl KR KR (show (((⟨#[72, 71, 70, 82]⟩ : ByteArray) ++ t1260) ++ t1265).size + (t1272).size ≤ 9223372036854775807 from hA1276) KR ?_; clear ha a; intro a ha
    refine stepp ha 22 (.string a1) KR KR ?_; clear ha a; intro a ha
    obtain ⟨hA1277, h_⟩ := asrt_some h; clear h; have h := h_; clear h_
    refine stepsa ha 23 9 9 (.tmp 21) (.tmp 22) ((((⟨#[72, 71, 70, 82]⟩ : ByteArray) ++ t1260) ++ t1265) ++ t1272) a1 rfl KR KR (show ((((⟨#[72, 71, 70, 82]⟩ : ByteArray) ++ t1260) ++ t1265) ++ t1272).size + (a1).size ≤ 9223372036854775807 from hA1277) KR ?_; clear ha a; intro a ha
    refine stepp ha 24 (.string a1) KR KR ?_; clear ha a; intro a ha
    obtain ⟨t1278, ht1279, h_⟩ := bind_some' h; clear h; have h := h_; clear h_
    refine stepc ha 25 KR KR (crc_Digest.calls K a1 t1278 _ (HW.ca0 hG1) ht1279) ?_; clear ha a; rintro e W1280 ⟨rfl, HX1281⟩
    refine ⟨_, rfl, ?_⟩; intro a ha; replace HW := HW.callw HX1281; clear HX1281
    obtain ⟨hA1282, h_⟩ := asrt_some h; clear h; have h := h_; clear h_
    refine stepsa ha 26 9 9 (.tmp 23) (.tmp 25) (((((⟨#[72, 71, 70, 82]⟩ : ByteArray) ++ t1260) ++ t1265) ++ t1272) ++ a1) t1278 rfl KR KR (show (((((⟨#[72, 71, 70, 82]⟩ : ByteArray) ++ t1260) ++ t1265) ++ t1272) ++ a1).size + (t1278).size ≤ 9223372036854775807 from hA1282) KR ?_; clear ha a; intro a ha
    obtain ⟨t1283, ht1284, h_⟩ := bind_some' h; clear h; have h := h_; clear h_
    refine stepc ha 27 KR KR (fields_Pad.calls ((((((⟨#[72, 71, 70, 82]⟩ : ByteArray) ++ t1260) ++ t1265) ++ t1272) ++ a1) ++ t1278) 512 t1283 _ ht1284) ?_; clear ha a; rintro e W1285 ⟨rfl, HX1286⟩
    refine ⟨_, rfl, ?_⟩; intro a ha; replace HW := HW.callw HX1286; clear HX1286
    refine stepp ha 4 (.string t1283) KR KR ?_; clear ha a; intro a ha
    refine stepp ha 5 (.int .i64 0) KR KR ?_; clear ha a; intro a ha
    refine endl ?_
    refine thenN (hK1271 _ _ ?_); clear hK1271
    refine wp_ret ?_
    obtain rfl := Option.some.inj h
    exact finv ha _ _ rfl (.tmp (v := .string t1283) KR (.tmp (v := .int .i64 0) KR .nil)) (.tuple #[.string t1283, .int .i64 0]) rfl ⟨rfl, HW.pick [] [] (by decide) (by decide) rfl KR⟩
end Go.Proofs.YtokdiacjcbolfaaDoor.F
namespace Go.Proofs.YtokdiacjcbolfaaDoor.X
open Go Go.RowKit
set_option linter.unusedVariables false
set_option linter.unusedSimpArgs false
section
variable {P : Program} {n : Nat} {l : List (Nat × Value)} {a : Act} {ops : Array Oper} {o : Oper} {rest : List Oper} {Q : Exit → Act → World → Prop} {w0 W : World} {bs : List (Nat × Obj)} {os : List OwnA}
end
end Go.Proofs.YtokdiacjcbolfaaDoor.X
namespace Go.Proofs.YtokdiacjcbolfaaDoor.X
open Go Go.RowKit
set_option linter.unusedVariables false
set_option linter.unusedSimpArgs false
section
variable {w0 W : World} {bs : List (Nat × Obj)} {os : List OwnA}
end
end Go.Proofs.YtokdiacjcbolfaaDoor.X
namespace Go.Proofs.YtokdiacjcbolfaaDoor.X
open Go Go.RowKit
set_option linter.unusedVariables false
set_option linter.unusedSimpArgs false
section
variable {P : Program} {ng : Nat}
end
end Go.Proofs.YtokdiacjcbolfaaDoor.X
namespace Go.Proofs.YtokdiacjcbolfaaDoor.X
open Go Go.RowKit
set_option linter.unusedVariables false
set_option linter.unusedSimpArgs false
section
variable {ds : List Deferred} {P : Program} {ng : Nat} {w0 W : World} {μ : Nat → Option Loc} {H : Heap} {E : Nat → Option AObj} {fr : List Value} {a : Act} {ops : Array Oper}
end
section
variable {P : Program} {ng : Nat} {call : CallF} {ops : Array Oper} {fr : List Value} {H : Heap}
end
end Go.Proofs.YtokdiacjcbolfaaDoor.X
namespace Go.Proofs.YtokdiacjcbolfaaDoor.X
open Go Go.RowKit
set_option linter.unusedVariables false
set_option linter.unusedSimpArgs false
end Go.Proofs.YtokdiacjcbolfaaDoor.X
namespace Go.Proofs.YtokdiacjcbolfaaDoor.F
open Go Go.RowKit Go.Proofs.YtokdiacjcbolfaaDoor.X
set_option linter.unusedVariables false
set_option linter.unusedSimpArgs false
def fields_get_uint64.b0 (K : Nat) (a0 : ByteArray) (a1 : Int) (t2243 : List Int) (again2286 : Int → Int → Option (Int × Bool)) (x2287 : Int) (x2288 : Int) : Option (Int × Bool) :=
  if x2288 < (t2243.length : Int) then (asrt (0 ≤ x2288) (asrt (0 ≤ (IntKind.wrap .i64 (a1 + x2288))) (asrt ((IntKind.wrap .i64 (a1 + x2288)) < (a0.size : Int)) (asrt (0 ≤ (rdL (0 : Int) t2243 x2288)) (again2286 (bor .u64 x2287 (sshl .u64 (IntKind.wrap .u64 (bt a0 (IntKind.wrap .i64 (a1 + x2288)))) (rdL (0 : Int) t2243 x2288))) (IntKind.wrap .i64 (x2288 + 1))))))) else (some (x2287, true))
def fields_get_uint64.l0 (K : Nat) (a0 : ByteArray) (a1 : Int) (t2243 : List Int) : Nat → Int → Int → Option (Int × Bool)
  | 0, _, _ => none
  | k_ + 1, x2287, x2288 => fields_get_uint64.b0 K a0 a1 t2243 (fields_get_uint64.l0 K a0 a1 t2243 k_) x2287 x2288
def fields_get_uint64.f (K : Nat) (a0 : ByteArray) (a1 : Int) (a2 : Int) (a3 : Bool) : Option (Int × Bool) :=
  if a2 < 1 then (some (0, false)) else (if a2 > 8 then (some (0, false)) else (if a1 < 0 then (some (0, false)) else (if a1 > (IntKind.wrap .i64 ((a0.size : Int) - a2)) then (some (0, false)) else ((fields_shifts.f K a2 a3).bind fun t2243 => (fields_get_uint64.l0 K a0 a1 t2243 K 0 0)))))
set_option maxRecDepth 100000 in
set_option maxHeartbeats 4000000 in
theorem fields_get_uint64.calls (K : Nat) (a0 : ByteArray) (a1 : Int) (a2 : Int) (a3 : Bool)  (r : Int × Bool) (w : World)  (h : fields_get_uint64.f K a0 a1 a2 a3 = some r) :
    Calls Tryd.prog 63 #[.string a0, .int .i64 a1, .int .i64 a2, .bool a3] w (fun e W' => e = .returned (.tuple #[.int .u64 r.1, .bool r.2]) ∧ Wd w W' [] [] ) := by
  refine sxstart (n := 52) (l := [(0, .string a0), (1, .int .i64 a1), (2, .int .i64 a2), (3, .bool a3)]) Tryd.func63 rfl rfl (Nat.le_of_ble_eq_true KR) (subsA_cons rfl (subsA_cons rfl (subsA_cons rfl (subsA_cons rfl (subsA_nil _))))) ?_
  intro a ha
  have HW := Wd.refl w
  unfold fields_get_uint64.f at h
  refine wp_seq_k (fun K2219 hK2220 => ?_)
  refine wp_region_lit ?_
  refine stepp ha 8 (.int .u64 0) KR KR ?_; clear ha a; intro a ha
  refine stepp ha 9 (.bool false) KR KR ?_; clear ha a; intro a ha
  refine endl ?_
  refine thenN (hK2220 _ _ ?_); clear hK2220
  refine wp_seq_k (fun K2221 hK2222 => ?_)
  refine wp_seq_k (fun K2223 hK2224 => ?_)
  refine wp_region_lit ?_
  refine stepp ha 13 (.int .i64 a2) KR KR ?_; clear ha a; intro a ha
  refine stepp ha 14 (.bool (decide (a2 < 1))) KR KR ?_; clear ha a; intro a ha
  refine stepp ha 15 (.bool (decide (a2 < 1))) KR KR ?_; clear ha a; intro a ha
  by_cases hp2225 : a2 < 1
  · skip
    replace h := ite_pos' h hp2225
    replace ha := ha.bool 15 KR (decide_eq_true hp2225)
    refine stepo ha 16 KR ?_; clear ha a; intro a ha
    refine stepo ha 17 KR ?_; clear ha a; intro a ha
    refine stepp ha 18 (.bool true) KR KR ?_; clear ha a; intro a ha
    refine stepp ha 19 (.bool true) KR KR ?_; clear ha a; intro a ha
    refine stepo ha 20 KR ?_; clear ha a; intro a ha
    refine stepo ha 21 KR ?_; clear ha a; intro a ha
    refine stepp ha 22 (.bool true) KR KR ?_; clear ha a; intro a ha
    refine stepp ha 23 (.bool true) KR KR ?_; clear ha a; intro a ha
    refine stepo ha 24 KR ?_; clear ha a; intro a ha
    refine stepo ha 25 KR ?_; clear ha a; intro a ha
    refine stepo ha 26 KR ?_; clear ha a; intro a ha
    refine stepo ha 27 KR ?_; clear ha a; intro a ha
    refine stepo ha 28 KR ?_; clear ha a; intro a ha
    refine stepo ha 29 KR ?_; clear ha a; intro a ha
    refine stepp ha 30 (.bool true) KR KR ?_; clear ha a; intro a ha
    refine endl ?_
    refine thenN (hK2224 _ _ ?_); clear hK2224
    refine condT ha KR KR (t := true) (rfl) ?_
    refine wp_seq_k (fun K2228 hK2229 => ?_)
    refine wp_region_lit ?_
    refine stepp ha 8 (.int .u64 0) KR KR ?_; clear ha a; intro a ha
    refine stepp ha 9 (.bool false) KR KR ?_; clear ha a; intro a ha
    refine endl ?_
    refine thenN (hK2229 _ _ ?_); clear hK2229
    refine wp_ret ?_
    refine thenR ?_
    obtain rfl := Option.some.inj h
    exact finv ha _ _ rfl (.tmp (v := .int .u64 0) KR (.tmp (v := .bool false) KR .nil)) (.tuple #[.int .u64 0, .bool false]) rfl ⟨rfl, HW.pick [] [] (by decide) (by decide) rfl KR⟩
  · skip
    replace h := ite_neg' h hp2225
    replace ha := ha.bool 15 KR (decide_eq_false hp2225)
    refine stepp ha 16 (.int .i64 a2) KR KR ?_; clear ha a; intro a ha
    refine stepp ha 17 (.bool (decide (a2 > 8))) KR KR ?_; clear ha a; intro a ha
    refine stepp ha 18 (.bool (decide (a2 > 8))) KR KR ?_; clear ha a; intro a ha
    refine stepp ha 19 (.bool (decide (a2 > 8))) KR KR ?_; clear ha a; intro a ha
    by_cases hp2226 : a2 > 8
    · skip
      replace h := ite_pos' h hp2226
      replace ha := ha.bool 19 KR (decide_eq_true hp2226)
      refine stepo ha 20 KR ?_; clear ha a; intro a ha
      refine stepo ha 21 KR ?_; clear ha a; intro a ha
      refine stepp ha 22 (.bool true) KR KR ?_; clear ha a; intro a ha
      refine stepp ha 23 (.bool true) KR KR ?_; clear ha a; intro a ha
      refine stepo ha 24 KR ?_; clear ha a; intro a ha
      refine stepo ha 25 KR ?_; clear ha a; intro a ha
      refine stepo ha 26 KR ?_; clear ha a; intro a ha
      refine stepo ha 27 KR ?_; clear ha a; intro a ha
      refine stepo ha 28 KR ?_; clear ha a; intro a ha
      refine stepo ha 29 KR ?_; clear ha a; intro a ha
      refine stepp ha 30 (.bool true) KR KR ?_; clear ha a; intro a ha
      refine endl ?_
      refine thenN (hK2224 _ _ ?_); clear hK2224
      refine condT ha KR KR (t := true) (rfl) ?_
      refine wp_seq_k (fun K2230 hK2231 => ?_)
      refine wp_region_lit ?_
      refine stepp ha 8 (.int .u64 0) KR KR ?_; clear ha a; intro a ha
      refine stepp ha 9 (.bool false) KR KR ?_; clear ha a; intro a ha
      refine endl ?_
      refine thenN (hK2231 _ _ ?_); clear hK2231
      refine wp_ret ?_
      refine thenR ?_
      obtain rfl := Option.some.inj h
      exact finv ha _ _ rfl (.tmp (v := .int .u64 0) KR (.tmp (v := .bool false) KR .nil)) (.tuple #[.int .u64 0, .bool false]) rfl ⟨rfl, HW.pick [] [] (by decide) (by decide) rfl KR⟩
    · skip
      replace h := ite_neg' h hp2226
      replace ha := ha.bool 19 KR (decide_eq_false hp2226)
      refine stepp ha 20 (.int .i64 a1) KR KR ?_; clear ha a; intro a ha
      refine stepp ha 21 (.bool (decide (a1 < 0))) KR KR ?_; clear ha a; intro a ha
      refine stepp ha 22 (.bool (decide (a1 < 0))) KR KR ?_; clear ha a; intro a ha
      refine stepp ha 23 (.bool (decide (a1 < 0))) KR KR ?_; clear ha a; intro a ha
      by_cases hp2227 : a1 < 0
      · skip
        replace h := ite_pos' h hp2227
        replace ha := ha.bool 23 KR (decide_eq_true hp2227)
        refine stepo ha 24 KR ?_; clear ha a; intro a ha
        refine stepo ha 25 KR ?_; clear ha a; intro a ha
        refine stepo ha 26 KR ?_; clear ha a; intro a ha
        refine stepo ha 27 KR ?_; clear ha a; intro a ha
        refine stepo ha 28 KR ?_; clear ha a; intro a ha
        refine stepo ha 29 KR ?_; clear ha a; intro a ha
        refine stepp ha 30 (.bool true) KR KR ?_; clear ha a; intro a ha
        refine endl ?_
        refine thenN (hK2224 _ _ ?_); clear hK2224
        refine condT ha KR KR (t := true) (rfl) ?_
        refine wp_seq_k (fun K2232 hK2233 => ?_)
        refine wp_region_lit ?_
        refine stepp ha 8 (.int .u64 0) KR KR ?_; clear ha a; intro a ha
        refine stepp ha 9 (.bool false) KR KR ?_; clear ha a; intro a ha
        refine endl ?_
        refine thenN (hK2233 _ _ ?_); clear hK2233
        refine wp_ret ?_
        refine thenR ?_
        obtain rfl := Option.some.inj h
        exact finv ha _ _ rfl (.tmp (v := .int .u64 0) KR (.tmp (v := .bool false) KR .nil)) (.tuple #[.int .u64 0, .bool false]) rfl ⟨rfl, HW.pick [] [] (by decide) (by decide) rfl KR⟩
      · skip
        replace h := ite_neg' h hp2227
        replace ha := ha.bool 23 KR (decide_eq_false hp2227)
        refine stepp ha 24 (.int .i64 a1) KR KR ?_; clear ha a; intro a ha
        refine stepp ha 25 (.string a0) KR KR ?_; clear ha a; intro a ha
        refine stepp ha 26 (.int .i64 (a0.size : Int)) KR KR ?_; clear ha a; intro a ha
        refine stepp ha 27 (.int .i64 a2) KR KR ?_; clear ha a; intro a ha
        refine stepp ha 28 (.int .i64 (IntKind.wrap .i64 ((a0.size : Int) - a2))) KR KR ?_; clear ha a; intro a ha
        refine stepp ha 29 (.bool (decide (a1 > (IntKind.wrap .i64 ((a0.size : Int) - a2))))) KR KR ?_; clear ha a; intro a ha
        refine stepp ha 30 (.bool (decide (a1 > (IntKind.wrap .i64 ((a0.size : Int) - a2))))) KR KR ?_; clear ha a; intro a ha
        refine endl ?_
        refine thenN (hK2224 _ _ ?_); clear hK2224
        by_cases hp2234 : a1 > (IntKind.wrap .i64 ((a0.size : Int) - a2))
        · skip
          replace h := ite_pos' h hp2234
          refine condT ha KR KR (t := decide (a1 > (IntKind.wrap .i64 ((a0.size : Int) - a2)))) (decide_eq_true hp2234) ?_
          refine wp_seq_k (fun K2235 hK2236 => ?_)
          refine wp_region_lit ?_
          refine stepp ha 8 (.int .u64 0) KR KR ?_; clear ha a; intro a ha
          refine stepp ha 9 (.bool false) KR KR ?_; clear ha a; intro a ha
          refine endl ?_
          refine thenN (hK2236 _ _ ?_); clear hK2236
          refine wp_ret ?_
          refine thenR ?_
          obtain rfl := Option.some.inj h
          exact finv ha _ _ rfl (.tmp (v := .int .u64 0) KR (.tmp (v := .bool false) KR .nil)) (.tuple #[.int .u64 0, .bool false]) rfl ⟨rfl, HW.pick [] [] (by decide) (by decide) rfl KR⟩
        · skip
          replace h := ite_neg' h hp2234
          refine condF ha KR KR (t := decide (a1 > (IntKind.wrap .i64 ((a0.size : Int) - a2)))) (decide_eq_false hp2234) ?_
          refine wp_skip ?_
          refine thenN (hK2222 _ _ ?_); clear hK2222
          refine wp_seq_k (fun K2237 hK2238 => ?_)
          refine wp_region_lit ?_
          refine stepp ha 10 (.int .u64 0) KR KR ?_; clear ha a; intro a ha
          refine endl ?_
          refine thenN (hK2238 _ _ ?_); clear hK2238
          refine wp_seq_k (fun K2239 hK2240 => ?_)
          refine wp_seq_k (fun K2241 hK2242 => ?_)
          refine wp_region_lit ?_
          refine stepp ha 31 (.int .i64 a2) KR KR ?_; clear ha a; intro a ha
          refine stepp ha 32 (.bool a3) KR KR ?_; clear ha a; intro a ha
          obtain ⟨t2243, ht2244, h_⟩ := bind_some' h; clear h; have h := h_; clear h_
          refine stepc ha 33 KR KR (fields_shifts.calls K a2 a3 t2243 _ ht2244) ?_; clear ha a; rintro e W2248 ⟨A2245, c2246, rfl, HX2249⟩
          refine ⟨_, rfl, ?_⟩; intro a ha; replace HW := HW.callw HX2249; clear HX2249
          refine stepp ha 34 (.int .i64 (t2243.length : Int)) KR KR ?_; clear ha a; intro a ha
          refine stepp ha 35 (.int .i64 0) KR KR ?_; clear ha a; intro a ha
          refine endl ?_
          refine thenN (hK2242 _ _ ?_); clear hK2242
          refine wp_block ?_
          refine loopk (fun k => fun a W2289 => ∃ (x2287 : Int), ∃ (x2288 : Int), fields_get_uint64.l0 K a0 a1 t2243 k x2287 x2288 = some r ∧ Has 52 [(0, .string a0), (1, .int .i64 a1), (10, .int .u64 x2287), (33, .slice A2245 t2243.length c2246), (34, .int .i64 (t2243.length : Int)), (35, .int .i64 x2288)] a ∧ Wd w W2289 [] [⟨3, 1, .slice A2245 t2243.length c2246, t2243.length, encs (encIK .i64) t2243⟩]) K ?_ ?_
          · skip
            exact ⟨0, 0, h, ha.sub (subs_cons KR (subs_cons KR (subs_cons KR (subs_cons KR (subs_cons KR (subs_cons KR (subs_nil _))))))), HW.pick [] [0] (by decide) (by decide) KR KR⟩
          · skip
            intro k a W2289 hI
            obtain ⟨x2287, x2288, h, ha, HW⟩ := hI
            cases k with
            | zero => exact (none_some (show none = some r from h)).elim
            | succ k2290 =>
              replace h : fields_get_uint64.b0 K a0 a1 t2243 (fields_get_uint64.l0 K a0 a1 t2243 k2290) x2287 x2288 = some r := h
              obtain ⟨again2286, hag2291⟩ : ∃ g_, g_ = fields_get_uint64.l0 K a0 a1 t2243 k2290 := ⟨_, rfl⟩
              rw [← hag2291] at h
              unfold fields_get_uint64.b0 at h
              refine wp_seq_k (fun K2292 hK2293 => ?_)
              refine wp_region_lit ?_
              refine stepp ha 36 (.bool (decide (x2288 < (t2243.length : Int)))) KR KR ?_; clear ha a; intro a ha
              refine endl ?_
              refine thenN (hK2293 _ _ ?_); clear hK2293
              refine wp_seq_k (fun K2294 hK2295 => ?_)
              by_cases hp2296 : x2288 < (t2243.length : Int)
              · skip
                replace h := ite_pos' h hp2296
                refine condT ha KR KR (t := decide (x2288 < (t2243.length : Int))) (decide_eq_true hp2296) ?_
                refine wp_skip ?_
                refine thenN (hK2295 _ _ ?_); clear hK2295
                refine wp_seq_k (fun K2297 hK2298 => ?_)
                refine wp_block ?_
                refine wp_seq_k (fun K2299 hK2300 => ?_)
                refine wp_region_lit ?_
                refine stepp ha 37 (.int .i64 x2288) KR KR ?_; clear ha a; intro a ha
                obtain ⟨hA2301, h_⟩ := asrt_some h; clear h; have h := h_; clear h_
                refine stepie (encIK .i64) (0 : Int) ha 38 (fun _ => rfl) (v := .slice A2245 t2243.length c2246) (xs := t2243) (HW.rdo (i := 0) (q := ⟨3, 1, .slice A2245 t2243.length c2246, t2243.length, encs (encIK .i64) t2243⟩) KR) 23 3 (.tmp 33) (.tmp 35) .i64 x2288 rfl KR KR KR KR hA2301 (show (x2288 : Int) < ((t2243).length : Int) from hp2296) KR ?_; clear ha a; intro b2302 off2303 a hC2304 ha
                refine stepl ha 39 hC2304 3 0 (.tmp 38) (.int .i64 (rdL (0 : Int) t2243 x2288)) rfl KR KR KR ?_; clear ha a; intro a ha
                refine stepp ha 11 (.int .i64 x2288) KR KR ?_; clear ha a; intro a ha
                refine stepp ha 12 (.int .i64 (rdL (0 : Int) t2243 x2288)) KR KR ?_; clear ha a; intro a ha
                refine endl ?_
                refine thenN (hK2300 _ _ ?_); clear hK2300
                refine wp_region_lit ?_
                refine stepp ha 40 (.int .u64 x2287) KR KR ?_; clear ha a; intro a ha
                refine stepp ha 41 (.string a0) KR KR ?_; clear ha a; intro a ha
                refine stepp ha 42 (.int .i64 a1) KR KR ?_; clear ha a; intro a ha
                refine stepp ha 43 (.int .i64 x2288) KR KR ?_; clear ha a; intro a ha
                refine stepp ha 44 (.int .i64 (IntKind.wrap .i64 (a1 + x2288))) KR KR ?_; clear ha a; intro a ha
                obtain ⟨hA2305, h_⟩ := asrt_some h; clear h; have h := h_; clear h_
                obtain ⟨hA2306, h_⟩ := asrt_some h; clear h; have h := h_; clear h_
                refine stepsi ha 45 9 (.tmp 41) (.tmp 44) a0 .i64 (IntKind.wrap .i64 (a1 + x2288)) rfl KR KR KR hA2305 (show (IntKind.wrap .i64 (a1 + x2288) : Int) < ((a0).size : Int) from hA2306) KR ?_; clear ha a; intro a ha
                refine stepp ha 46 (.int .u64 (IntKind.wrap .u64 (bt a0 (IntKind.wrap .i64 (a1 + x2288))))) KR KR ?_; clear ha a; intro a ha
                refine stepp ha 47 (.int .i64 (rdL (0 : Int) t2243 x2288)) KR KR ?_; clear ha a; intro a ha
                obtain ⟨hA2307, h_⟩ := asrt_some h; clear h; have h := h_; clear h_
                refine stepshl ha 48 68 3 (.tmp 46) (.tmp 47) .u64 .i64 (IntKind.wrap .u64 (bt a0 (IntKind.wrap .i64 (a1 + x2288)))) (rdL (0 : Int) t2243 x2288) rfl KR KR hA2307 KR ?_; clear ha a; intro a ha
                refine stepp ha 49 (.int .u64 (bor .u64 x2287 (sshl .u64 (IntKind.wrap .u64 (bt a0 (IntKind.wrap .i64 (a1 + x2288)))) (rdL (0 : Int) t2243 x2288)))) KR KR ?_; clear ha a; intro a ha
                refine stepp ha 10 (.int .u64 (bor .u64 x2287 (sshl .u64 (IntKind.wrap .u64 (bt a0 (IntKind.wrap .i64 (a1 + x2288)))) (rdL (0 : Int) t2243 x2288)))) KR KR ?_; clear ha a; intro a ha
                refine endl ?_
                refine blkN ?_
                refine thenN (hK2298 _ _ ?_); clear hK2298
                refine wp_region_lit ?_
                refine stepp ha 50 (.int .i64 (IntKind.wrap .i64 (x2288 + 1))) KR KR ?_; clear ha a; intro a ha
                refine stepp ha 35 (.int .i64 (IntKind.wrap .i64 (x2288 + 1))) KR KR ?_; clear ha a; intro a ha
                refine endl ?_
                exact thenN ⟨k2290, Nat.lt_succ_self k2290, bor .u64 x2287 (sshl .u64 (IntKind.wrap .u64 (bt a0 (IntKind.wrap .i64 (a1 + x2288)))) (rdL (0 : Int) t2243 x2288)), IntKind.wrap .i64 (x2288 + 1), (by rw [← hag2291]; exact h), ha.sub (subs_cons KR (subs_cons KR (subs_cons KR (subs_cons KR (subs_cons KR (subs_cons KR (subs_nil _))))))), HW.pick [] [0] (by decide) (by decide) KR KR⟩
              · skip
                replace h := ite_neg' h hp2296
                refine condF ha KR KR (t := decide (x2288 < (t2243.length : Int))) (decide_eq_false hp2296) ?_
                refine wp_exit ?_
                refine thenE ?_
                refine thenE ?_
                refine inBlk ?_
                refine thenN (hK2240 _ _ ?_); clear hK2240
                refine wp_seq_k (fun K2308 hK2309 => ?_)
                refine wp_region_lit ?_
                refine stepp ha 51 (.int .u64 x2287) KR KR ?_; clear ha a; intro a ha
                refine stepp ha 8 (.int .u64 x2287) KR KR ?_; clear ha a; intro a ha
                refine stepp ha 9 (.bool true) KR KR ?_; clear ha a; intro a ha
                refine endl ?_
                refine thenN (hK2309 _ _ ?_); clear hK2309
                refine wp_ret ?_
                obtain rfl := Option.some.inj h
                exact finv ha _ _ rfl (.tmp (v := .int .u64 x2287) KR (.tmp (v := .bool true) KR .nil)) (.tuple #[.int .u64 x2287, .bool true]) rfl ⟨rfl, HW.pick [] [] (by decide) (by decide) rfl KR⟩
def fields_Big.f (K : Nat) (a0 : ByteArray) (a1 : Int) (a2 : Int) : Option (Int × Bool) :=
  (fields_get_uint64.f K a0 a1 a2 true).bind fun t2314 => (some (t2314.1, t2314.2))
set_option maxRecDepth 100000 in
set_option maxHeartbeats 4000000 in
theorem fields_Big.calls (K : Nat) (a0 : ByteArray) (a1 : Int) (a2 : Int)  (r : Int × Bool) (w : World)  (h : fields_Big.f K a0 a1 a2 = some r) :
    Calls Tryd.prog 49 #[.string a0, .int .i64 a1, .int .i64 a2] w (fun e W' => e = .returned (.tuple #[.int .u64 r.1, .bool r.2]) ∧ Wd w W' [] [] ) := by
  refine sxstart (n := 14) (l := [(0, .string a0), (1, .int .i64 a1), (2, .int .i64 a2)]) Tryd.func49 rfl rfl (Nat.le_of_ble_eq_true KR) (subsA_cons rfl (subsA_cons rfl (subsA_cons rfl (subsA_nil _)))) ?_
  intro a ha
  have HW := Wd.refl w
  unfold fields_Big.f at h
  refine wp_seq_k (fun K2310 hK2311 => ?_)
  refine wp_region_lit ?_
  refine stepp ha 6 (.int .u64 0) KR KR ?_; clear ha a; intro a ha
  refine stepp ha 7 (.bool false) KR KR ?_; clear ha a; intro a ha
  refine endl ?_
  refine thenN (hK2311 _ _ ?_); clear hK2311
  refine wp_seq_k (fun K2312 hK2313 => ?_)
  refine wp_region_lit ?_
  refine stepp ha 8 (.string a0) KR KR ?_; clear ha a; intro a ha
  refine stepp ha 9 (.int .i64 a1) KR KR ?_; clear ha a; intro a ha
  refine stepp ha 10 (.int .i64 a2) KR KR ?_; clear ha a; intro a ha
  obtain ⟨t2314, ht2315, h_⟩ := bind_some' h; clear h; have h := h_; clear h_
  refine stepc ha 11 KR KR (fields_get_uint64.calls K a0 a1 a2 true t2314 _ ht2315) ?_; clear ha a; rintro e W2316 ⟨rfl, HX2317⟩
  refine ⟨_, rfl, ?_⟩; intro a ha; replace HW := HW.callw HX2317; clear HX2317
  refine stepp ha 12 (.int .u64 t2314.1) KR KR ?_; clear ha a; intro a ha
  refine stepp ha 13 (.bool t2314.2) KR KR ?_; clear ha a; intro a ha
  refine stepp ha 6 (.int .u64 t2314.1) KR KR ?_; clear ha a; intro a ha
  refine stepp ha 7 (.bool t2314.2) KR KR ?_; clear ha a; intro a ha
  refine endl ?_
  refine thenN (hK2313 _ _ ?_); clear hK2313
  refine wp_ret ?_
  obtain rfl := Option.some.inj h
  exact finv ha _ _ rfl (.tmp (v := .int .u64 t2314.1) KR (.tmp (v := .bool t2314.2) KR .nil)) (.tuple #[.int .u64 t2314.1, .bool t2314.2]) rfl ⟨rfl, HW.pick [] [] (by decide) (by decide) rfl KR⟩
theorem frame_want.ok (k : Int) (w : World) : Calls Tryd.prog 64 #[.bool true, .int .i64 k] w (fun e W' => e = .returned (.tuple #[]) ∧ Wd w W' [] []) := by
  refine sxstart (n := 9) (l := [(0, .bool true), (1, .int .i64 k)]) Tryd.func64 rfl rfl (Nat.le_of_ble_eq_true KR) (subsA_cons rfl (subsA_cons rfl (subsA_nil _))) ?_
  intro a ha
  have HW := Wd.refl w
  refine wp_seq_k (fun K hK => ?_)
  refine wp_region_lit ?_
  refine stepp ha 4 (.bool true) KR KR ?_; clear ha a; intro a ha
  refine stepp ha 5 (.bool false) KR KR ?_; clear ha a; intro a ha
  refine endl ?_
  refine thenN (hK _ _ ?_); clear hK
  refine condF ha KR KR (t := false) rfl ?_
  refine wp_skip ?_
  exact finv (fn := Tryd.f64) (R := fun e W' => e = .returned (.tuple #[]) ∧ Wd w W' [] []) ha [] [] rfl .nil (.tuple #[]) rfl ⟨rfl, HW⟩
def crc_Right.f (K : Nat) (a0 : ByteArray) (a1 : ByteArray) : Option Bool :=
  (crc_Digest.f K a0).bind fun t2390 => (some (a1.toList == t2390.toList))
set_option maxRecDepth 100000 in
set_option maxHeartbeats 4000000 in
theorem crc_Right.calls (K : Nat) (a0 : ByteArray) (a1 : ByteArray)  (r : Bool) (w : World) (hG1 : CA w 1 0 (encs (encIK .u32) G_crc_steps).toArray) (h : crc_Right.f K a0 a1 = some r) :
    Calls Tryd.prog 65 #[.string a0, .string a1] w (fun e W' => e = .returned (.bool r) ∧ Wd w W' [] [] ) := by
  refine sxstart (n := 9) (l := [(0, .string a0), (1, .string a1)]) Tryd.func65 rfl rfl (Nat.le_of_ble_eq_true KR) (subsA_cons rfl (subsA_cons rfl (subsA_nil _))) ?_
  intro a ha
  have HW := Wd.refl w
  unfold crc_Right.f at h
  refine wp_seq_k (fun K2386 hK2387 => ?_)
  refine wp_region_lit ?_
  refine stepp ha 4 (.bool false) KR KR ?_; clear ha a; intro a ha
  refine endl ?_
  refine thenN (hK2387 _ _ ?_); clear hK2387
  refine wp_seq_k (fun K2388 hK2389 => ?_)
  refine wp_region_lit ?_
  refine stepp ha 5 (.string a1) KR KR ?_; clear ha a; intro a ha
  refine stepp ha 6 (.string a0) KR KR ?_; clear ha a; intro a ha
  obtain ⟨t2390, ht2391, h_⟩ := bind_some' h; clear h; have h := h_; clear h_
  refine stepc ha 7 KR KR (crc_Digest.calls K a0 t2390 _ (HW.ca0 hG1) ht2391) ?_; clear ha a; rintro e W2392 ⟨rfl, HX2393⟩
  refine ⟨_, rfl, ?_⟩; intro a ha; replace HW := HW.callw HX2393; clear HX2393
  refine stepp ha 8 (.bool (a1.toList == t2390.toList)) KR KR ?_; clear ha a; intro a ha
  refine stepp ha 4 (.bool (a1.toList == t2390.toList)) KR KR ?_; clear ha a; intro a ha
  refine endl ?_
  refine thenN (hK2389 _ _ ?_); clear hK2389
  refine wp_ret ?_
  obtain rfl := Option.some.inj h
  exact finv ha _ _ rfl (.tmp (v := .bool (a1.toList == t2390.toList)) KR .nil) (.bool (a1.toList == t2390.toList)) rfl ⟨rfl, HW.pick [] [] (by decide) (by decide) rfl KR⟩
end Go.Proofs.YtokdiacjcbolfaaDoor.F
namespace Go.Proofs.YtokdiacjcbolfaaDoor.F
open Go Go.RowKit Go.Proofs.YtokdiacjcbolfaaDoor.X
set_option linter.unusedVariables false
set_option linter.unusedSimpArgs false
def strings_trimLeftByte.b0 (K : Nat) (a1 : Int) (again2417 : ByteArray → Option ByteArray) (x2418 : ByteArray) : Option ByteArray :=
  if (x2418.size : Int) > 0 then (asrt (0 < (x2418.size : Int)) (if (bt x2418 0) = a1 then (asrt (1 ≤ (x2418.size : Int)) (again2417 (x2418.extract (1 : Int).toNat (x2418).size))) else (some x2418))) else (some x2418)
def strings_trimLeftByte.l0 (K : Nat) (a1 : Int) : Nat → ByteArray → Option ByteArray
  | 0, _ => none
  | k_ + 1, x2418 => strings_trimLeftByte.b0 K a1 (strings_trimLeftByte.l0 K a1 k_) x2418
def strings_trimLeftByte.f (K : Nat) (a0 : ByteArray) (a1 : Int) : Option ByteArray :=
  strings_trimLeftByte.l0 K a1 K a0
set_option maxRecDepth 100000 in
set_option maxHeartbeats 4000000 in
theorem strings_trimLeftByte.calls (K : Nat) (a0 : ByteArray) (a1 : Int)  (r : ByteArray) (w : World)  (h : strings_trimLeftByte.f K a0 a1 = some r) :
    Calls Tryd.prog 73 #[.string a0, .int .u8 a1] w (fun e W' => e = .returned (.string r) ∧ Wd w W' [] [] ) := by
  refine sxstart (n := 17) (l := [(0, .string a0), (1, .int .u8 a1)]) Tryd.func73 rfl rfl (Nat.le_of_ble_eq_true KR) (subsA_cons rfl (subsA_cons rfl (subsA_nil _))) ?_
  intro a ha
  have HW := Wd.refl w
  unfold strings_trimLeftByte.f at h
  refine wp_seq_k (fun K2394 hK2395 => ?_)
  refine wp_region_lit ?_
  refine stepp ha 4 (.string (⟨#[]⟩ : ByteArray)) KR KR ?_; clear ha a; intro a ha
  refine endl ?_
  refine thenN (hK2395 _ _ ?_); clear hK2395
  refine wp_seq_k (fun K2396 hK2397 => ?_)
  refine wp_block ?_
  refine loopk (fun k => fun a W2419 => ∃ (x2418 : ByteArray), strings_trimLeftByte.l0 K a1 k x2418 = some r ∧ Has 17 [(0, .string x2418), (1, .int .u8 a1)] a ∧ Wd w W2419 [] []) K ?_ ?_
  · skip
    exact ⟨a0, h, ha.sub (subs_cons KR (subs_cons KR (subs_nil _))), HW.pick [] [] (by decide) (by decide) KR KR⟩
  · skip
    intro k a W2419 hI
    obtain ⟨x2418, h, ha, HW⟩ := hI
    cases k with
    | zero => exact (none_some (show none = some r from h)).elim
    | succ k2420 =>
      replace h : strings_trimLeftByte.b0 K a1 (strings_trimLeftByte.l0 K a1 k2420) x2418 = some r := h
      obtain ⟨again2417, hag2421⟩ : ∃ g_, g_ = strings_trimLeftByte.l0 K a1 k2420 := ⟨_, rfl⟩
      rw [← hag2421] at h
      unfold strings_trimLeftByte.b0 at h
      refine wp_seq_k (fun K2422 hK2423 => ?_)
      refine wp_seq_k (fun K2424 hK2425 => ?_)
      refine wp_region_lit ?_
      refine stepp ha 5 (.string x2418) KR KR ?_; clear ha a; intro a ha
      refine stepp ha 6 (.int .i64 (x2418.size : Int)) KR KR ?_; clear ha a; intro a ha
      refine stepp ha 7 (.bool (decide ((x2418.size : Int) > 0))) KR KR ?_; clear ha a; intro a ha
      refine stepp ha 8 (.bool (decide ((x2418.size : Int) > 0))) KR KR ?_; clear ha a; intro a ha
      by_cases hp2426 : (x2418.size : Int) > 0
      · skip
        replace h := ite_pos' h hp2426
        replace ha := ha.bool 8 KR (decide_eq_true hp2426)
        refine stepp ha 9 (.string x2418) KR KR ?_; clear ha a; intro a ha
        obtain ⟨hA2427, h_⟩ := asrt_some h; clear h; have h := h_; clear h_
        refine stepsi ha 10 9 (.tmp 9) (.const (.int .i64 0)) x2418 .i64 0 rfl KR KR KR (by decide) (show (0 : Int) < ((x2418).size : Int) from hA2427) KR ?_; clear ha a; intro a ha
        refine stepp ha 11 (.int .u8 a1) KR KR ?_; clear ha a; intro a ha
        refine stepp ha 12 (.bool ((bt x2418 0) == a1)) KR KR ?_; clear ha a; intro a ha
        refine stepp ha 13 (.bool ((bt x2418 0) == a1)) KR KR ?_; clear ha a; intro a ha
        refine endl ?_
        refine thenN (hK2425 _ _ ?_); clear hK2425
        by_cases hp2428 : (bt x2418 0) = a1
        · skip
          replace h := ite_pos' h hp2428
          refine condT ha KR KR (t := ((bt x2418 0) == a1)) (ieq_t hp2428) ?_
          refine wp_skip ?_
          refine thenN (hK2423 _ _ ?_); clear hK2423
          refine wp_block ?_
          refine wp_region_lit ?_
          refine stepp ha 14 (.string x2418) KR KR ?_; clear ha a; intro a ha
          obtain ⟨hA2429, h_⟩ := asrt_some h; clear h; have h := h_; clear h_
          refine stepssl ha 15 9 (.tmp 14) (.const (.int .i64 1)) x2418 .i64 1 rfl KR KR KR (by decide) (show (1 : Int) ≤ ((x2418).size : Int) from hA2429) KR ?_; clear ha a; intro a ha
          refine stepp ha 0 (.string (x2418.extract (1 : Int).toNat (x2418).size)) KR KR ?_; clear ha a; intro a ha
          refine endl ?_
          refine blkN ?_
          exact thenN ⟨k2420, Nat.lt_succ_self k2420, x2418.extract (1 : Int).toNat (x2418).size, (by rw [← hag2421]; exact h), ha.sub (subs_cons KR (subs_cons KR (subs_nil _))), HW.pick [] [] (by decide) (by decide) KR KR⟩
        · skip
          replace h := ite_neg' h hp2428
          refine condF ha KR KR (t := ((bt x2418 0) == a1)) (ieq_f hp2428) ?_
          refine wp_exit ?_
          refine thenE ?_
          refine thenE ?_
          refine inBlk ?_
          refine thenN (hK2397 _ _ ?_); clear hK2397
          refine wp_seq_k (fun K2430 hK2431 => ?_)
          refine wp_region_lit ?_
          refine stepp ha 16 (.string x2418) KR KR ?_; clear ha a; intro a ha
          refine stepp ha 4 (.string x2418) KR KR ?_; clear ha a; intro a ha
          refine endl ?_
          refine thenN (hK2431 _ _ ?_); clear hK2431
          refine wp_ret ?_
          obtain rfl := Option.some.inj h
          exact finv ha _ _ rfl (.tmp (v := .string x2418) KR .nil) (.string x2418) rfl ⟨rfl, HW.pick [] [] (by decide) (by decide) rfl KR⟩
      · skip
        replace h := ite_neg' h hp2426
        replace ha := ha.bool 8 KR (decide_eq_false hp2426)
        refine stepo ha 9 KR ?_; clear ha a; intro a ha
        refine stepo ha 10 KR ?_; clear ha a; intro a ha
        refine stepo ha 11 KR ?_; clear ha a; intro a ha
        refine stepo ha 12 KR ?_; clear ha a; intro a ha
        refine stepp ha 13 (.bool false) KR KR ?_; clear ha a; intro a ha
        refine endl ?_
        refine thenN (hK2425 _ _ ?_); clear hK2425
        refine condF ha KR KR (t := false) (rfl) ?_
        refine wp_exit ?_
        refine thenE ?_
        refine thenE ?_
        refine inBlk ?_
        refine thenN (hK2397 _ _ ?_); clear hK2397
        refine wp_seq_k (fun K2432 hK2433 => ?_)
        refine wp_region_lit ?_
        refine stepp ha 16 (.string x2418) KR KR ?_; clear ha a; intro a ha
        refine stepp ha 4 (.string x2418) KR KR ?_; clear ha a; intro a ha
        refine endl ?_
        refine thenN (hK2433 _ _ ?_); clear hK2433
        refine wp_ret ?_
        obtain rfl := Option.some.inj h
        exact finv ha _ _ rfl (.tmp (v := .string x2418) KR .nil) (.string x2418) rfl ⟨rfl, HW.pick [] [] (by decide) (by decide) rfl KR⟩
def strings_trimRightByte.b0 (K : Nat) (a1 : Int) (again2459 : ByteArray → Option ByteArray) (x2460 : ByteArray) : Option ByteArray :=
  if (x2460.size : Int) > 0 then (asrt (0 ≤ (IntKind.wrap .i64 ((x2460.size : Int) - 1))) (asrt ((IntKind.wrap .i64 ((x2460.size : Int) - 1)) < (x2460.size : Int)) (if (bt x2460 (IntKind.wrap .i64 ((x2460.size : Int) - 1))) = a1 then (asrt ((IntKind.wrap .i64 ((x2460.size : Int) - 1)) ≤ (x2460.size : Int)) (again2459 (x2460.extract 0 (IntKind.wrap .i64 ((x2460.size : Int) - 1) : Int).toNat))) else (some x2460)))) else (some x2460)
def strings_trimRightByte.l0 (K : Nat) (a1 : Int) : Nat → ByteArray → Option ByteArray
  | 0, _ => none
  | k_ + 1, x2460 => strings_trimRightByte.b0 K a1 (strings_trimRightByte.l0 K a1 k_) x2460
def strings_trimRightByte.f (K : Nat) (a0 : ByteArray) (a1 : Int) : Option ByteArray :=
  strings_trimRightByte.l0 K a1 K a0
set_option maxRecDepth 100000 in
set_option maxHeartbeats 4000000 in
theorem strings_trimRightByte.calls (K : Nat) (a0 : ByteArray) (a1 : Int)  (r : ByteArray) (w : World)  (h : strings_trimRightByte.f K a0 a1 = some r) :
    Calls Tryd.prog 74 #[.string a0, .int .u8 a1] w (fun e W' => e = .returned (.string r) ∧ Wd w W' [] [] ) := by
  refine sxstart (n := 23) (l := [(0, .string a0), (1, .int .u8 a1)]) Tryd.func74 rfl rfl (Nat.le_of_ble_eq_true KR) (subsA_cons rfl (subsA_cons rfl (subsA_nil _))) ?_
  intro a ha
  have HW := Wd.refl w
  unfold strings_trimRightByte.f at h
  refine wp_seq_k (fun K2434 hK2435 => ?_)
  refine wp_region_lit ?_
  refine stepp ha 4 (.string (⟨#[]⟩ : ByteArray)) KR KR ?_; clear ha a; intro a ha
  refine endl ?_
  refine thenN (hK2435 _ _ ?_); clear hK2435
  refine wp_seq_k (fun K2436 hK2437 => ?_)
  refine wp_block ?_
  refine loopk (fun k => fun a W2461 => ∃ (x2460 : ByteArray), strings_trimRightByte.l0 K a1 k x2460 = some r ∧ Has 23 [(0, .string x2460), (1, .int .u8 a1)] a ∧ Wd w W2461 [] []) K ?_ ?_
  · skip
    exact ⟨a0, h, ha.sub (subs_cons KR (subs_cons KR (subs_nil _))), HW.pick [] [] (by decide) (by decide) KR KR⟩
  · skip
    intro k a W2461 hI
    obtain ⟨x2460, h, ha, HW⟩ := hI
    cases k with
    | zero => exact (none_some (show none = some r from h)).elim
    | succ k2462 =>
      replace h : strings_trimRightByte.b0 K a1 (strings_trimRightByte.l0 K a1 k2462) x2460 = some r := h
      obtain ⟨again2459, hag2463⟩ : ∃ g_, g_ = strings_trimRightByte.l0 K a1 k2462 := ⟨_, rfl⟩
      rw [← hag2463] at h
      unfold strings_trimRightByte.b0 at h
      refine wp_seq_k (fun K2464 hK2465 => ?_)
      refine wp_seq_k (fun K2466 hK2467 => ?_)
      refine wp_region_lit ?_
      refine stepp ha 5 (.string x2460) KR KR ?_; clear ha a; intro a ha
      refine stepp ha 6 (.int .i64 (x2460.size : Int)) KR KR ?_; clear ha a; intro a ha
      refine stepp ha 7 (.bool (decide ((x2460.size : Int) > 0))) KR KR ?_; clear ha a; intro a ha
      refine stepp ha 8 (.bool (decide ((x2460.size : Int) > 0))) KR KR ?_; clear ha a; intro a ha
      by_cases hp2468 : (x2460.size : Int) > 0
      · skip
        replace h := ite_pos' h hp2468
        replace ha := ha.bool 8 KR (decide_eq_true hp2468)
        refine stepp ha 9 (.string x2460) KR KR ?_; clear ha a; intro a ha
        refine stepp ha 10 (.string x2460) KR KR ?_; clear ha a; intro a ha
        refine stepp ha 11 (.int .i64 (x2460.size : Int)) KR KR ?_; clear ha a; intro a ha
        refine stepp ha 12 (.int .i64 (IntKind.wrap .i64 ((x2460.size : Int) - 1))) KR KR ?_; clear ha a; intro a ha
        obtain ⟨hA2469, h_⟩ := asrt_some h; clear h; have h := h_; clear h_
        obtain ⟨hA2470, h_⟩ := asrt_some h; clear h; have h := h_; clear h_
        refine stepsi ha 13 9 (.tmp 9) (.tmp 12) x2460 .i64 (IntKind.wrap .i64 ((x2460.size : Int) - 1)) rfl KR KR KR hA2469 (show (IntKind.wrap .i64 ((x2460.size : Int) - 1) : Int) < ((x2460).size : Int) from hA2470) KR ?_; clear ha a; intro a ha
        refine stepp ha 14 (.int .u8 a1) KR KR ?_; clear ha a; intro a ha
        refine stepp ha 15 (.bool ((bt x2460 (IntKind.wrap .i64 ((x2460.size : Int) - 1))) == a1)) KR KR ?_; clear ha a; intro a ha
        refine stepp ha 16 (.bool ((bt x2460 (IntKind.wrap .i64 ((x2460.size : Int) - 1))) == a1)) KR KR ?_; clear ha a; intro a ha
        refine endl ?_
        refine thenN (hK2467 _ _ ?_); clear hK2467
        by_cases hp2471 : (bt x2460 (IntKind.wrap .i64 ((x2460.size : Int) - 1))) = a1
        · skip
          replace h := ite_pos' h hp2471
          refine condT ha KR KR (t := ((bt x2460 (IntKind.wrap .i64 ((x2460.size : Int) - 1))) == a1)) (ieq_t hp2471) ?_
          refine wp_skip ?_
          refine thenN (hK2465 _ _ ?_); clear hK2465
          refine wp_block ?_
          refine wp_region_lit ?_
          refine stepp ha 17 (.string x2460) KR KR ?_; clear ha a; intro a ha
          refine stepp ha 18 (.string x2460) KR KR ?_; clear ha a; intro a ha
          refine stepp ha 19 (.int .i64 (x2460.size : Int)) KR KR ?_; clear ha a; intro a ha
          refine stepp ha 20 (.int .i64 (IntKind.wrap .i64 ((x2460.size : Int) - 1))) KR KR ?_; clear ha a; intro a ha
          obtain ⟨hA2472, h_⟩ := asrt_some h; clear h; have h := h_; clear h_
          refine stepssh ha 21 9 (.tmp 17) (.tmp 20) x2460 .i64 (IntKind.wrap .i64 ((x2460.size : Int) - 1)) rfl KR KR KR hA2469 (show (IntKind.wrap .i64 ((x2460.size : Int) - 1) : Int) ≤ ((x2460).size : Int) from hA2472) KR ?_; clear ha a; intro a ha
          refine stepp ha 0 (.string (x2460.extract 0 (IntKind.wrap .i64 ((x2460.size : Int) - 1) : Int).toNat)) KR KR ?_; clear ha a; intro a ha
          refine endl ?_
          refine blkN ?_
          exact thenN ⟨k2462, Nat.lt_succ_self k2462, x2460.extract 0 (IntKind.wrap .i64 ((x2460.size : Int) - 1) : Int).toNat, (by rw [← hag2463]; exact h), ha.sub (subs_cons KR (subs_cons KR (subs_nil _))), HW.pick [] [] (by decide) (by decide) KR KR⟩
        · skip
          replace h := ite_neg' h hp2471
          refine condF ha KR KR (t := ((bt x2460 (IntKind.wrap .i64 ((x2460.size : Int) - 1))) == a1)) (ieq_f hp2471) ?_
          refine wp_exit ?_
          refine thenE ?_
          refine thenE ?_
          refine inBlk ?_
          refine thenN (hK2437 _ _ ?_); clear hK2437
          refine wp_seq_k (fun K2473 hK2474 => ?_)
          refine wp_region_lit ?_
          refine stepp ha 22 (.string x2460) KR KR ?_; clear ha a; intro a ha
          refine stepp ha 4 (.string x2460) KR KR ?_; clear ha a; intro a ha
          refine endl ?_
          refine thenN (hK2474 _ _ ?_); clear hK2474
          refine wp_ret ?_
          obtain rfl := Option.some.inj h
          exact finv ha _ _ rfl (.tmp (v := .string x2460) KR .nil) (.string x2460) rfl ⟨rfl, HW.pick [] [] (by decide) (by decide) rfl KR⟩
      · skip
        replace h := ite_neg' h hp2468
        replace ha := ha.bool 8 KR (decide_eq_false hp2468)
        refine stepo ha 9 KR ?_; clear ha a; intro a ha
        refine stepo ha 10 KR ?_; clear ha a; intro a ha
        refine stepo ha 11 KR ?_; clear ha a; intro a ha
        refine stepo ha 12 KR ?_; clear ha a; intro a ha
        refine stepo ha 13 KR ?_; clear ha a; intro a ha
        refine stepo ha 14 KR ?_; clear ha a; intro a ha
        refine stepo ha 15 KR ?_; clear ha a; intro a ha
        refine stepp ha 16 (.bool false) KR KR ?_; clear ha a; intro a ha
        refine endl ?_
        refine thenN (hK2467 _ _ ?_); clear hK2467
        refine condF ha KR KR (t := false) (rfl) ?_
        refine wp_exit ?_
        refine thenE ?_
        refine thenE ?_
        refine inBlk ?_
        refine thenN (hK2437 _ _ ?_); clear hK2437
        refine wp_seq_k (fun K2475 hK2476 => ?_)
        refine wp_region_lit ?_
        refine stepp ha 22 (.string x2460) KR KR ?_; clear ha a; intro a ha
        refine stepp ha 4 (.string x2460) KR KR ?_; clear ha a; intro a ha
        refine endl ?_
        refine thenN (hK2476 _ _ ?_); clear hK2476
        refine wp_ret ?_
        obtain rfl := Option.some.inj h
        exact finv ha _ _ rfl (.tmp (v := .string x2460) KR .nil) (.string x2460) rfl ⟨rfl, HW.pick [] [] (by decide) (by decide) rfl KR⟩
end Go.Proofs.YtokdiacjcbolfaaDoor.F
namespace Go.Proofs.YtokdiacjcbolfaaDoor.F
open Go Go.RowKit Go.Proofs.YtokdiacjcbolfaaDoor.X
def gPutBig : LibF := fun args H => match args with
  | [.int .u64 a, .int .i64 n] => match fields_PutBig.f 200 a n with
    | some r => some (.string r, H)
    | none => none
  | _ => none
theorem gPutBig_ok {ng : Nat} {args : List Value} {H H' : Heap} {v : Value} (h : gPutBig args H = some (v, H')) : CallOk Tryd.prog ng 47 args H v H' := by
  unfold gPutBig at h
  split at h
  · rename_i a n
    split at h
    · rename_i r hr
      cases h
      refine callOk_below (by kernel_rfl) rfl rfl fun W => ?_
      refine (fields_PutBig.calls 200 a n r W hr).mono ?_
      rintro e W' ⟨rfl, hw⟩
      exact ⟨rfl, hw.below⟩
    · cases h
  · cases h
def gBig : LibF := fun args H => match args with
  | [.string s, .int .i64 a, .int .i64 n] => match fields_Big.f 200 s a n with
    | some r => some (.tuple #[.int .u64 r.1, .bool r.2], H)
    | none => none
  | _ => none
theorem gBig_ok {ng : Nat} {args : List Value} {H H' : Heap} {v : Value} (h : gBig args H = some (v, H')) : CallOk Tryd.prog ng 49 args H v H' := by
  unfold gBig at h
  split at h
  · rename_i s a n
    split at h
    · rename_i r hr
      cases h
      refine callOk_below (by kernel_rfl) rfl rfl fun W => ?_
      refine (fields_Big.calls 200 s a n r W hr).mono ?_
      rintro e W' ⟨rfl, hw⟩
      exact ⟨rfl, hw.below⟩
    · cases h
  · cases h
def crcTab : List Value := encs (encIK .u32) G_crc_steps
def gPut : LibF := fun args H => match args with
  | [.int .u64 a, .string s] => match H.get 1 with
    | some (.ro c _) => match valsEq c crcTab with
      | false => none
      | true => match frame_Put.f 70000 a s with
        | some r => some (.tuple #[.string r.1, .int .i64 r.2], H)
        | none => none
    | _ => none
  | _ => none
theorem gPut_ok {args : List Value} {H H' : Heap} {v : Value} (h : gPut args H = some (v, H')) : CallOk Tryd.prog 4 46 args H v H' := by
  unfold gPut at h
  split at h
  · rename_i a s
    split at h
    · rename_i c e hk
      split at h
      · cases h
      · rename_i hc
        obtain rfl := valsEq_eq hc
        split at h
        · rename_i r hr
          cases h
          refine callOk_belowT (by kernel_rfl) rfl rfl hk (by omega) (by kernel_rfl) fun W hW => ?_
          refine (frame_Put.calls 70000 a s r W hW hr).mono ?_
          rintro e W' ⟨rfl, hw⟩
          exact ⟨rfl, hw.below⟩
        · cases h
    · cases h
  · cases h
def gRight : LibF := fun args H => match args with
  | [.string s, .string d] => match H.get 1 with
    | some (.ro c _) => match valsEq c crcTab with
      | false => none
      | true => match crc_Right.f 70000 s d with
        | some r => some (.bool r, H)
        | none => none
    | _ => none
  | _ => none
theorem gRight_ok {args : List Value} {H H' : Heap} {v : Value} (h : gRight args H = some (v, H')) : CallOk Tryd.prog 4 65 args H v H' := by
  unfold gRight at h
  split at h
  · rename_i s d
    split at h
    · rename_i c e hk
      split at h
      · cases h
      · rename_i hc
        obtain rfl := valsEq_eq hc
        split at h
        · rename_i r hr
          cases h
          refine callOk_belowT (by kernel_rfl) rfl rfl hk (by omega) (by kernel_rfl) fun W hW => ?_
          refine (crc_Right.calls 70000 s d r W hW hr).mono ?_
          rintro e W' ⟨rfl, hw⟩
          exact ⟨rfl, hw.below⟩
        · cases h
    · cases h
  · cases h
def gTrim (f : Nat → ByteArray → Int → Option ByteArray) : LibF := fun args H => match args with
  | [.string s, .int .u8 n] => match f 70000 s n with
    | some r => some (.string r, H)
    | none => none
  | _ => none
theorem gTrimL_ok {ng : Nat} {args : List Value} {H H' : Heap} {v : Value} (h : gTrim strings_trimLeftByte.f args H = some (v, H')) : CallOk Tryd.prog ng 73 args H v H' := by
  unfold gTrim at h
  split at h
  · rename_i s n
    split at h
    · rename_i r hr
      cases h
      refine callOk_below (by kernel_rfl) rfl rfl fun W => ?_
      refine (strings_trimLeftByte.calls 70000 s n r W hr).mono ?_
      rintro e W' ⟨rfl, hw⟩
      exact ⟨rfl, hw.below⟩
    · cases h
  · cases h
def trimR (a : Int) (l : List UInt8) : List UInt8 := (l.reverse.dropWhile fun b => decide ((b.toNat : Int) = a)).reverse
theorem trimR_go (K : Nat) (a : Int) : ∀ (n : Nat) (l : List UInt8) (k : Nat), l.length = n → n < k → n < 1000000 → strings_trimRightByte.l0 K a k ⟨⟨l⟩⟩ = some ⟨⟨trimR a l⟩⟩ := by
  intro n
  induction n with
  | zero =>
    intro l k hl hk _
    obtain ⟨k, rfl⟩ : ∃ j, k = j + 1 := ⟨k - 1, by omega⟩
    obtain rfl := List.eq_nil_of_length_eq_zero hl
    rfl
  | succ n ih =>
    intro l k hl hk hn
    obtain ⟨k, rfl⟩ : ∃ j, k = j + 1 := ⟨k - 1, by omega⟩
    obtain ⟨r, b, rfl⟩ : ∃ r b, l = r ++ [b] := by
      rcases List.eq_nil_or_concat l with rfl | ⟨r, b, h⟩
      · simp at hl
      · exact ⟨r, b, by simpa using h⟩
    have hr : r.length = n := by simpa using hl
    have hs : (ByteArray.mk ⟨r ++ [b]⟩).size = n + 1 := by
      show (r ++ [b]).length = n + 1
      exact hl
    have hw : IntKind.wrap .i64 (((n + 1 : Nat) : Int) - 1) = (n : Int) := by
      simp [IntKind.wrap, IntKind.bits, IntKind.signed]; omega
    have hb : bt (ByteArray.mk ⟨r ++ [b]⟩) (n : Int) = (b.toNat : Int) := by
      unfold bt
      have : ((n : Int)).toNat = r.length := by omega
      rw [this]
      simp
    have hx : (ByteArray.mk ⟨r ++ [b]⟩).extract 0 ((n : Int)).toNat = ⟨⟨r⟩⟩ := by
      apply ba_eq
      rw [ByteArray.data_extract]
      simp [← hr]
    rw [strings_trimRightByte.l0, strings_trimRightByte.b0, hs, if_pos (by omega), hw, asrt, if_pos (by omega), asrt, if_pos (by omega), hb]
    by_cases e : (b.toNat : Int) = a
    · rw [if_pos e, asrt, if_pos (by omega), hx, ih r k hr (by omega) (by omega)]
      simp [trimR, e]
    · rw [if_neg e]
      simp [trimR, e]
def gTrimR : LibF := fun args H => match args with
  | [.string s, .int .u8 n] => match Nat.ble s.data.toList.length 60000 with
    | true => some (.string ⟨⟨trimR n s.data.toList⟩⟩, H)
    | false => none
  | _ => none
theorem gTrimR_ok {ng : Nat} {args : List Value} {H H' : Heap} {v : Value} (h : gTrimR args H = some (v, H')) : CallOk Tryd.prog ng 74 args H v H' := by
  unfold gTrimR at h
  split at h
  · rename_i s n
    split at h
    · rename_i hb
      have hb := Nat.le_of_ble_eq_true hb
      cases h
      refine callOk_below (by kernel_rfl) rfl rfl fun W => ?_
      refine (strings_trimRightByte.calls 70000 s n _ W (trimR_go 70000 n s.data.toList.length s.data.toList 70000 rfl (by omega) (by omega))).mono ?_
      rintro e W' ⟨rfl, hw⟩
      exact ⟨rfl, hw.below⟩
    · cases h
  · cases h
noncomputable def lib0 : List (Nat × LibF) := [(25, gRepeat), (47, gPutBig), (49, gBig), (46, gPut), (65, gRight), (73, gTrim strings_trimLeftByte.f), (74, gTrimR), (68, gSame), (67, gAdd .i64), (59, gLoad .i64), (50, gStore)]
theorem lib0_all : ∀ p ∈ lib0, ∀ args H v H', p.2 args H = some (v, H') → CallOk Tryd.prog 4 p.1 args H v H' := by
  intro p hp args H v H' h
  simp only [lib0, List.mem_cons, List.not_mem_nil, or_false] at hp
  rcases hp with rfl | rfl | rfl | rfl | rfl | rfl | rfl | rfl | rfl | rfl | rfl
  · exact gRepeat_ok (by kernel_rfl) (fun s c w h1 h2 => Tryd.strings_Repeat s c w h1 h2) h
  · exact gPutBig_ok h
  · exact gBig_ok h
  · exact gPut_ok h
  · exact gRight_ok h
  · exact gTrimL_ok h
  · exact gTrimR_ok h
  · exact gSame_ok Tryd.func68 (by kernel_rfl) (by kernel_rfl) (by kernel_rfl) (by kernel_rfl) h
  · exact gAdd_ok .i64 Tryd.func67 (by kernel_rfl) (by kernel_rfl) (by kernel_rfl) (by kernel_rfl) h
  · exact gLoad_ok .i64 Tryd.func59 (by kernel_rfl) (by kernel_rfl) (by kernel_rfl) (by kernel_rfl) h
  · exact gStore_ok Tryd.func50 (by kernel_rfl) (by kernel_rfl) (by kernel_rfl) (by kernel_rfl) h
theorem lib0_ok : LibOk Tryd.prog 4 (libOf lib0) := libOf_ok lib0_all
theorem noNum : noNumB Tryd.prog = true := by kernel_rfl
theorem mixed : Tryd.prog.follows .mixedOrders = true := by kernel_rfl
noncomputable def gGet : LibF := runTF Tryd.prog 4 (libOf lib0) 100000 34
theorem gGet_ok {args : List Value} {H H' : Heap} {v : Value} (h : gGet args H = some (v, H')) : CallOk Tryd.prog 4 34 args H v H' :=
  runTF_ok (noNum_of noNum) mixed lib0_ok 100000 34 args H v H' h
noncomputable def lib1 : List (Nat × LibF) := (34, gGet) :: lib0
theorem lib1_ok : LibOk Tryd.prog 4 (libOf lib1) := by
  refine libOf_ok ?_
  rintro ⟨g, x⟩ hp args H v H' h
  rw [lib1, List.mem_cons, Prod.mk.injEq] at hp
  rcases hp with ⟨rfl, rfl⟩ | hp
  · dsimp only at h
    exact gGet_ok (args := args) (H := H) (H' := H') (v := v) h
  · exact lib0_all _ hp args H v H' h
end Go.Proofs.YtokdiacjcbolfaaDoor.F
namespace Go.Proofs.YtokdiacjcbolfaaDoor.F
open Go Go.RowKit Go.Proofs.YtokdiacjcbolfaaDoor.X
set_option linter.unusedVariables false
set_option linter.unusedSimpArgs false
set_option maxRecDepth 1000000 in
theorem wakes_run : told (runF Tryd.prog 4 (libOf lib1) 100000 7 [] (heapL 4 [(1, 127, crcTab)])) true = true := by kernel_rfl
theorem wakes_calls (w : World) (h1 : CA w 1 0 (encs (encIK .u32) G_crc_steps).toArray) : Calls Tryd.prog 7 #[] w fun e W' => e = .returned (.bool true) ∧ Below w.heap.size w W' :=
  calls_of_runL (fun _ => 16) noNum mixed lib1_ok (by kernel_rfl) rfl (by kernel_rfl) wakes_run w (by
    intro p hp m u hu
    simp only [List.mem_cons, List.not_mem_nil, or_false] at hp
    subst hp
    have h1' : CA w 1 0 crcTab.toArray := h1
    have := h1' m u (by simpa using hu)
    rwa [Nat.zero_add] at this)
end Go.Proofs.YtokdiacjcbolfaaDoor.F
namespace Go.Proofs.YtokdiacjcbolfaaDoor.F
open Go Go.RowKit Go.Proofs.YtokdiacjcbolfaaDoor.X
set_option linter.unusedVariables false
set_option linter.unusedSimpArgs false
def headgatelaw06_wakes.f : Option Bool := some true
theorem headgatelaw06_wakes.calls (r : Bool) (w : World) (hG1 : CA w 1 0 (encs (encIK .u32) G_crc_steps).toArray) (h : headgatelaw06_wakes.f = some r) :
    Calls Tryd.prog 7 #[] w (fun e W' => e = .returned (.bool r) ∧ Wd w W' [] []) := by
  obtain rfl := Option.some.inj h
  exact (wakes_calls w hG1).mono fun e W' ⟨he, hb⟩ => ⟨he, (Wd.refl w).call hb⟩
end Go.Proofs.YtokdiacjcbolfaaDoor.F
