import Derived.Lib.TrimByte
import Derived.Test.YtokdiacjcbolfaaDoorCards
import Derived.Test.YtokdiacjcbolfaaDoorTie
import Derived.Test.YtokdiacjcbolfaaDoorBJournalFull5
set_option linter.unusedVariables false
set_option linter.unusedSimpArgs false
namespace Go.Proofs.YtokdiacjcbolfaaDoor.F
open Go Go.RowKit Go.Proofs.YtokdiacjcbolfaaDoor.X
set_option linter.unusedVariables false
set_option linter.unusedSimpArgs false
def headgatelaw06_JournalFull.b1 (K : Nat) (t4624 : Int) (t4628 : Int) (again4763 : Option Bool) : Option Bool :=
  if (0 : Int) < (IntKind.wrap .i64 (Int.tdiv (IntKind.wrap .i64 ((IntKind.wrap .i64 (Int.tdiv (IntKind.wrap .i64 ((IntKind.wrap .i64 (8 + t4624)) - 4)) 2)) - 1)) (IntKind.wrap .i64 (Int.tdiv (IntKind.wrap .i64 ((IntKind.wrap .i64 (24 + t4628)) + 511)) 512)))) then (none) else (none)
def headgatelaw06_JournalFull.l1 (K : Nat) (t4624 : Int) (t4628 : Int) : Nat → Option Bool
  | 0 => none
  | k_ + 1 => headgatelaw06_JournalFull.b1 K t4624 t4628 (headgatelaw06_JournalFull.l1 K t4624 t4628 k_)
def headgatelaw06_JournalFull.b0 (K : Nat) (t4624 : Int) (t4628 : Int) (again4736 : Option Bool) : Option Bool :=
  asrt (¬ (IntKind.wrap .i64 (Int.tdiv (IntKind.wrap .i64 ((IntKind.wrap .i64 (24 + t4628)) + 511)) 512)) = 0) (headgatelaw06_JournalFull.l1 K t4624 t4628 K)
def headgatelaw06_JournalFull.l0 (K : Nat) (t4624 : Int) (t4628 : Int) : Nat → Option Bool
  | 0 => none
  | k_ + 1 => headgatelaw06_JournalFull.b0 K t4624 t4628 (headgatelaw06_JournalFull.l0 K t4624 t4628 k_)
def headgatelaw06_JournalFull.j0 (K : Nat) (t4624 : Int) (t4628 : Int) (t4652 : (Option T_journal_Journal) × Int × T_dev_Dev) (x4672 : Bool) : Option Bool :=
  if x4672 = true then (if t4652.2.1 = 60 then (if (IntKind.wrap .i64 (Int.tdiv (IntKind.wrap .i64 ((IntKind.wrap .i64 (8 + t4624)) - 4)) 2)) < 1 then ((headgatelaw06_wakes.f).bind fun t4679 => (some t4679)) else (some false)) else (some false)) else ((headgatekeep_Zeros.f t4628).bind fun t4685 => (headgatelaw06_JournalFull.l0 K t4624 t4628 K))
def headgatelaw06_JournalFull.b3 (K : Nat) (t4624 : Int) (t4628 : Int) (t4800 : ByteArray) (again5136 : Int → T_journal_Journal → T_dev_Dev → Option Bool) (x5137 : Int) (again5210 : Int → T_journal_Journal → T_dev_Dev → Option Bool) (x5211 : Int) (x5212 : T_journal_Journal) (x5215 : T_dev_Dev) : Option Bool :=
  if x5211 < (IntKind.wrap .i64 (Int.tdiv (IntKind.wrap .i64 ((IntKind.wrap .i64 (Int.tdiv (IntKind.wrap .i64 ((IntKind.wrap .i64 (8 + t4624)) - 4)) 2)) - 1)) (IntKind.wrap .i64 (Int.tdiv (IntKind.wrap .i64 ((IntKind.wrap .i64 (24 + t4628)) + 511)) 512)))) then ((journal_Journal_Append.f K x5212 x5215 t4800).bind fun t5230 => (if t5230.1 = 0 then (again5210 (IntKind.wrap .i64 (x5211 + 1)) t5230.2.1 t5230.2.2) else (some false))) else ((journal_Journal_Append.f K x5212 x5215 t4800).bind fun t5245 => (if t5245.1 = 60 then ((journal_Journal_Records.f (⟨(), t5245.2.1.f1, t5245.2.1.f2, t5245.2.1.f3, (⟨(), (), t5245.2.1.f4.f2⟩ : T_atomic_Int64), t5245.2.1.f5, t5245.2.1.f6, t5245.2.1.f7, t5245.2.1.f8, t5245.2.1.f9⟩ : T_journal_Journal)).bind fun t5257 => (if (t5257.length : Int) = (IntKind.wrap .i64 (Int.tdiv (IntKind.wrap .i64 ((IntKind.wrap .i64 (Int.tdiv (IntKind.wrap .i64 ((IntKind.wrap .i64 (8 + t4624)) - 4)) 2)) - 1)) (IntKind.wrap .i64 (Int.tdiv (IntKind.wrap .i64 ((IntKind.wrap .i64 (24 + t4628)) + 511)) 512)))) then ((journal_Journal_Room.f (⟨(), t5245.2.1.f1, t5245.2.1.f2, t5245.2.1.f3, (⟨(), (), t5245.2.1.f4.f2⟩ : T_atomic_Int64), t5245.2.1.f5, t5245.2.1.f6, t5245.2.1.f7, t5245.2.1.f8, t5245.2.1.f9⟩ : T_journal_Journal)).bind fun t5265 => (if t5265 = (IntKind.wrap .i64 ((IntKind.wrap .i64 ((IntKind.wrap .i64 (Int.tdiv (IntKind.wrap .i64 ((IntKind.wrap .i64 (8 + t4624)) - 4)) 2)) - 1)) - (IntKind.wrap .i64 ((IntKind.wrap .i64 (Int.tdiv (IntKind.wrap .i64 ((IntKind.wrap .i64 (Int.tdiv (IntKind.wrap .i64 ((IntKind.wrap .i64 (8 + t4624)) - 4)) 2)) - 1)) (IntKind.wrap .i64 (Int.tdiv (IntKind.wrap .i64 ((IntKind.wrap .i64 (24 + t4628)) + 511)) 512)))) * (IntKind.wrap .i64 (Int.tdiv (IntKind.wrap .i64 ((IntKind.wrap .i64 (24 + t4628)) + 511)) 512)))))) then ((journal_Journal_Checkpoint.f K (⟨(), t5245.2.1.f1, t5245.2.1.f2, t5245.2.1.f3, (⟨(), (), t5245.2.1.f4.f2⟩ : T_atomic_Int64), t5245.2.1.f5, t5245.2.1.f6, t5245.2.1.f7, t5245.2.1.f8, t5245.2.1.f9⟩ : T_journal_Journal) t5245.2.2 (⟨#[]⟩ : ByteArray)).bind fun t5280 => (if t5280.1 = 0 then ((journal_Journal_Records.f (⟨(), t5280.2.1.f1, t5280.2.1.f2, t5280.2.1.f3, (⟨(), (), t5280.2.1.f4.f2⟩ : T_atomic_Int64), t5280.2.1.f5, t5280.2.1.f6, t5280.2.1.f7, t5280.2.1.f8, t5280.2.1.f9⟩ : T_journal_Journal)).bind fun t5292 => (if (t5292.length : Int) = 0 then (again5136 (IntKind.wrap .i64 (x5137 + 1)) (⟨(), t5280.2.1.f1, t5280.2.1.f2, t5280.2.1.f3, (⟨(), (), t5280.2.1.f4.f2⟩ : T_atomic_Int64), t5280.2.1.f5, t5280.2.1.f6, t5280.2.1.f7, t5280.2.1.f8, t5280.2.1.f9⟩ : T_journal_Journal) t5280.2.2) else (some false))) else (some false))) else (some false))) else (some false))) else (some false)))
def headgatelaw06_JournalFull.l3 (K : Nat) (t4624 : Int) (t4628 : Int) (t4800 : ByteArray) (again5136 : Int → T_journal_Journal → T_dev_Dev → Option Bool) (x5137 : Int) : Nat → Int → T_journal_Journal → T_dev_Dev → Option Bool
  | 0, _, _, _ => none
  | k_ + 1, x5211, x5212, x5215 => headgatelaw06_JournalFull.b3 K t4624 t4628 t4800 again5136 x5137 (headgatelaw06_JournalFull.l3 K t4624 t4628 t4800 again5136 x5137 k_) x5211 x5212 x5215
def headgatelaw06_JournalFull.b2 (K : Nat) (t4624 : Int) (t4628 : Int) (t4800 : ByteArray) (again5136 : Int → T_journal_Journal → T_dev_Dev → Option Bool) (x5137 : Int) (x5138 : T_journal_Journal) (x5141 : T_dev_Dev) : Option Bool :=
  if x5137 < 3 then (asrt (¬ (IntKind.wrap .i64 (Int.tdiv (IntKind.wrap .i64 ((IntKind.wrap .i64 (24 + t4628)) + 511)) 512)) = 0) (headgatelaw06_JournalFull.l3 K t4624 t4628 t4800 again5136 x5137 K 0 x5138 x5141)) else ((headgatelaw06_wakes.f).bind fun t5308 => (some t5308))
def headgatelaw06_JournalFull.l2 (K : Nat) (t4624 : Int) (t4628 : Int) (t4800 : ByteArray) : Nat → Int → T_journal_Journal → T_dev_Dev → Option Bool
  | 0, _, _, _ => none
  | k_ + 1, x5137, x5138, x5141 => headgatelaw06_JournalFull.b2 K t4624 t4628 t4800 (headgatelaw06_JournalFull.l2 K t4624 t4628 t4800 k_) x5137 x5138 x5141
def headgatelaw06_JournalFull.j1 (K : Nat) (t4624 : Int) (t4628 : Int) (t4652 : (Option T_journal_Journal) × Int × T_dev_Dev) (x4663 : T_journal_Journal) (x4785 : Bool) : Option Bool :=
  if x4785 = true then (if t4652.2.1 = 60 then (if (IntKind.wrap .i64 (Int.tdiv (IntKind.wrap .i64 ((IntKind.wrap .i64 (8 + t4624)) - 4)) 2)) < 1 then ((headgatelaw06_wakes.f).bind fun t4794 => (some t4794)) else (some false)) else (some false)) else ((headgatekeep_Zeros.f t4628).bind fun t4800 => (headgatelaw06_JournalFull.l2 K t4624 t4628 t4800 K 0 x4663 t4652.2.2))
def headgatelaw06_JournalFull.f (K : Nat) (a0 : Int) (a1 : Int) : Option Bool :=
  (headgatekeep_Mod.f a0 60).bind fun t4624 => ((headgatekeep_Mod.f a1 1200).bind fun t4628 => ((dev_New.f (IntKind.wrap .i64 (8 + t4624))).bind fun t4634 => (optc t4634.1 (none) (fun x4644 => ((journal_Format.f K x4644 0 (IntKind.wrap .i64 (8 + t4624)) (⟨#[]⟩ : ByteArray)).bind fun t4652 => (optc t4652.1 (if t4634.2 = 0 then (headgatelaw06_JournalFull.j0 K t4624 t4628 t4652 (t4652.2.1 != 0)) else (headgatelaw06_JournalFull.j0 K t4624 t4628 t4652 true)) (fun x4663 => (if t4634.2 = 0 then (headgatelaw06_JournalFull.j1 K t4624 t4628 t4652 x4663 (t4652.2.1 != 0)) else (headgatelaw06_JournalFull.j1 K t4624 t4628 t4652 x4663 true)))))))))
set_option maxRecDepth 100000 in
set_option maxHeartbeats 4000000 in
theorem headgatelaw06_JournalFull.calls (K : Nat) (a0 : Int) (a1 : Int)  (r : Bool) (w : World) (hG1 : CA w 1 0 (encs (encIK .u32) G_crc_steps).toArray) (h : headgatelaw06_JournalFull.f K a0 a1 = some r) :
    Calls Tryd.prog 5 #[.int .i64 a0, .int .i64 a1] w (fun e W' => e = .returned (.bool r) ∧ Wd w W' [] [] ) := by
  refine sxstart (n := 108) (l := [(0, .int .i64 a0), (1, .int .i64 a1)]) Tryd.func5 rfl rfl (Nat.le_of_ble_eq_true KR) (subsA_cons rfl (subsA_cons rfl (subsA_nil _))) ?_
  intro a ha
  have HW : Wd w w (([] : Blks) ++ ([] : Blks)) (([] : List OwnA)) := Wd.refl w
  unfold headgatelaw06_JournalFull.f at h
  refine wp_seq_k (fun K4620 hK4621 => ?_)
  refine wp_region_lit ?_
  refine stepp ha 4 (.bool false) KR KR ?_; clear ha a; intro a ha
  refine endl ?_
  refine thenN (hK4621 _ _ ?_); clear hK4621
  refine wp_seq_k (fun K4622 hK4623 => ?_)
  refine wp_region_lit ?_
  refine stepp ha 16 (.int .i64 a0) KR KR ?_; clear ha a; intro a ha
  obtain ⟨t4624, ht4625, h_⟩ := bind_some' h; clear h; have h := h_; clear h_
  refine stepc ha 17 KR KR (headgatekeep_Mod.calls a0 60 t4624 _ ht4625) ?_; clear ha a; rintro e W4626 ⟨rfl, HX4627⟩
  refine ⟨_, rfl, ?_⟩; intro a ha; replace HW := HW.callw HX4627; clear HX4627
  refine stepp ha 18 (.int .i64 (IntKind.wrap .i64 (8 + t4624))) KR KR ?_; clear ha a; intro a ha
  refine stepp ha 19 (.int .i64 a1) KR KR ?_; clear ha a; intro a ha
  obtain ⟨t4628, ht4629, h_⟩ := bind_some' h; clear h; have h := h_; clear h_
  refine stepc ha 20 KR KR (headgatekeep_Mod.calls a1 1200 t4628 _ ht4629) ?_; clear ha a; rintro e W4630 ⟨rfl, HX4631⟩
  refine ⟨_, rfl, ?_⟩; intro a ha; replace HW := HW.callw HX4631; clear HX4631
  refine stepp ha 5 (.int .i64 (IntKind.wrap .i64 (8 + t4624))) KR KR ?_; clear ha a; intro a ha
  refine stepp ha 6 (.int .i64 t4628) KR KR ?_; clear ha a; intro a ha
  refine endl ?_
  refine thenN (hK4623 _ _ ?_); clear hK4623
  refine wp_seq_k (fun K4632 hK4633 => ?_)
  refine wp_region_lit ?_
  refine stepp ha 22 (.int .i64 (IntKind.wrap .i64 (8 + t4624))) KR KR ?_; clear ha a; intro a ha
  obtain ⟨t4634, ht4635, h_⟩ := bind_some' h; clear h; have h := h_; clear h_
  refine stepc ha 23 KR KR (dev_New.calls (IntKind.wrap .i64 (8 + t4624)) t4634 _ _ ([] : Blks) ([] : Blks) (([] : List OwnA)) (Wd.segs (ss := [([] : Blks)]) (bt := ([] : Blks)) (m := []) (ot := ([] : List OwnA)) [([] : Blks)] [] HW [0] [] [] KR KR (by decide) KR) ht4635) ?_; clear ha a; rintro e W4639 ⟨b4636v, U4637, rfl, hO4643n, HX4640⟩
  refine ⟨_, rfl, ?_⟩; intro a ha; clear HW
  have hO4643 := hO4643n; clear hO4643n
  rcases e4645 : t4634.1 with _ | x4644
  · skip
    rw [e4645] at h hO4643; replace h := optc_n h
    obtain ⟨hO4643v, hO4643u⟩ := hO4643; subst hO4643v; subst hO4643u
    have HW : Wd w W4639 (([] : Blks) ++ ([] : Blks)) (([] : List OwnA)) := Wd.segs (ss := [([] : Blks), ([] : Blks)]) (bt := ([] : Blks)) (m := []) (ot := ([] : List OwnA)) [([] : Blks)] [] HX4640 [0] [1] [] KR KR (by decide) KR; clear HX4640
    refine stepp ha 21 (.tuple #[.pointer none, .int .i64 t4634.2]) KR KR ?_; clear ha a; intro a ha
    refine stepp ha 24 (.pointer none) KR KR ?_; clear ha a; intro a ha
    refine stepp ha 25 (.int .i64 t4634.2) KR KR ?_; clear ha a; intro a ha
    refine stepp ha 7 (.pointer none) KR KR ?_; clear ha a; intro a ha
    refine stepp ha 8 (.int .i64 t4634.2) KR KR ?_; clear ha a; intro a ha
    refine endl ?_
    refine thenN (hK4633 _ _ ?_); clear hK4633
    refine wp_seq_k (fun K4648 hK4649 => ?_)
    refine wp_region_lit ?_
    refine stepp ha 27 (.pointer none) KR KR ?_; clear ha a; intro a ha
    refine stepp ha 28 (.int .i64 (IntKind.wrap .i64 (8 + t4624))) KR KR ?_; clear ha a; intro a ha
    exact (none_some h).elim
  · skip
    rw [e4645] at h hO4643; replace h := optc_s h
    obtain ⟨b4646, hO4643v, hU4647⟩ := hO4643; subst hO4643v
    have HW : Wd w W4639 (U4637 ++ (([] : Blks) ++ ([] : Blks))) (([] : List OwnA)) := Wd.segs (ss := [U4637, ([] : Blks)]) (bt := ([] : Blks)) (m := []) (ot := ([] : List OwnA)) [U4637, ([] : Blks)] [] HX4640 [0, 1] [] [] KR KR (by decide) KR; clear HX4640
    refine stepp ha 21 (.tuple #[.pointer (some ⟨b4646, 0, none⟩), .int .i64 t4634.2]) KR KR ?_; clear ha a; intro a ha
    refine stepp ha 24 (.pointer (some ⟨b4646, 0, none⟩)) KR KR ?_; clear ha a; intro a ha
    refine stepp ha 25 (.int .i64 t4634.2) KR KR ?_; clear ha a; intro a ha
    refine stepp ha 7 (.pointer (some ⟨b4646, 0, none⟩)) KR KR ?_; clear ha a; intro a ha
    refine stepp ha 8 (.int .i64 t4634.2) KR KR ?_; clear ha a; intro a ha
    refine endl ?_
    refine thenN (hK4633 _ _ ?_); clear hK4633
    refine wp_seq_k (fun K4650 hK4651 => ?_)
    refine wp_region_lit ?_
    refine stepp ha 27 (.pointer (some ⟨b4646, 0, none⟩)) KR KR ?_; clear ha a; intro a ha
    refine stepp ha 28 (.int .i64 (IntKind.wrap .i64 (8 + t4624))) KR KR ?_; clear ha a; intro a ha
    obtain ⟨t4652, ht4653, h_⟩ := bind_some' h; clear h; have h := h_; clear h_
    refine stepc ha 29 KR KR (journal_Format.calls K x4644 0 (IntKind.wrap .i64 (8 + t4624)) (⟨#[]⟩ : ByteArray) b4646 U4637 t4652 _ _ ([] : Blks) ([] : Blks) (([] : List OwnA)) hG1 hU4647 (Wd.segs (ss := [U4637, ([] : Blks)]) (bt := ([] : Blks)) (m := []) (ot := ([] : List OwnA)) [U4637, ([] : Blks)] [] HW [0, 1] [] [] KR KR (by decide) KR) ht4653) ?_; clear ha a; rintro e W4658 ⟨b4654v, U4655, U4657, rfl, hO4662n, hU4647n, HX4659⟩
    refine ⟨_, rfl, ?_⟩; intro a ha; clear HW
    clear hU4647; have hU4647 := hU4647n; clear hU4647n
    have hO4662 := hO4662n; clear hO4662n
    rcases e4664 : t4652.1 with _ | x4663
    · skip
      rw [e4664] at h hO4662; replace h := optc_n h
      obtain ⟨hO4662v, hO4662u⟩ := hO4662; subst hO4662v; subst hO4662u
      have HW : Wd w W4658 (U4657 ++ (([] : Blks) ++ ([] : Blks))) (([] : List OwnA)) := Wd.segs (ss := [([] : Blks), U4657, ([] : Blks)]) (bt := ([] : Blks)) (m := []) (ot := ([] : List OwnA)) [U4657, ([] : Blks)] [] HX4659 [1, 0] [2] [] KR KR (by decide) KR; clear HX4659
      refine stepp ha 26 (.tuple #[.pointer none, .int .i64 t4652.2.1]) KR KR ?_; clear ha a; intro a ha
      refine stepp ha 30 (.pointer none) KR KR ?_; clear ha a; intro a ha
      refine stepp ha 31 (.int .i64 t4652.2.1) KR KR ?_; clear ha a; intro a ha
      refine stepp ha 9 (.pointer none) KR KR ?_; clear ha a; intro a ha
      refine stepp ha 10 (.int .i64 t4652.2.1) KR KR ?_; clear ha a; intro a ha
      refine endl ?_
      refine thenN (hK4651 _ _ ?_); clear hK4651
      refine wp_seq_k (fun K4667 hK4668 => ?_)
      refine wp_seq_k (fun K4669 hK4670 => ?_)
      refine cutn (fun a W4673 => ∃ (x4672 : Bool), headgatelaw06_JournalFull.j0 K t4624 t4628 t4652 x4672 = some r ∧ Has 108 [(5, .int .i64 (IntKind.wrap .i64 (8 + t4624))), (6, .int .i64 t4628), (9, .pointer none), (10, .int .i64 t4652.2.1), (37, .bool x4672)] a ∧ Wd w W4673 (([] : Blks) ++ ([] : Blks)) (([] : List OwnA))) ?_ ?_
      · skip
        refine wp_region_lit ?_
        refine stepp ha 32 (.int .i64 t4634.2) KR KR ?_; clear ha a; intro a ha
        refine stepp ha 33 (.bool (t4634.2 != 0)) KR KR ?_; clear ha a; intro a ha
        refine stepp ha 34 (.bool (t4634.2 != 0)) KR KR ?_; clear ha a; intro a ha
        by_cases hp4671 : t4634.2 = 0
        · skip
          replace h := ite_pos' h hp4671
          replace ha := ha.bool 34 KR (ineq_f hp4671)
          refine stepp ha 35 (.int .i64 t4652.2.1) KR KR ?_; clear ha a; intro a ha
          refine stepp ha 36 (.bool (t4652.2.1 != 0)) KR KR ?_; clear ha a; intro a ha
          refine stepp ha 37 (.bool (t4652.2.1 != 0)) KR KR ?_; clear ha a; intro a ha
          refine endl ?_
          exact thenN ⟨(t4652.2.1 != 0), h, ha.sub (subs_cons KR (subs_cons KR (subs_cons KR (subs_cons KR (subs_cons KR (subs_nil _)))))), (Wd.segs (ss := [U4657, ([] : Blks)]) (bt := ([] : Blks)) (m := []) (ot := ([] : List OwnA)) [([] : Blks)] [] HW [1] [0] [] KR KR (by decide) KR)⟩
        · skip
          replace h := ite_neg' h hp4671
          replace ha := ha.bool 34 KR (ineq_t hp4671)
          refine stepo ha 35 KR ?_; clear ha a; intro a ha
          refine stepo ha 36 KR ?_; clear ha a; intro a ha
          refine stepp ha 37 (.bool true) KR KR ?_; clear ha a; intro a ha
          refine endl ?_
          exact thenN ⟨true, h, ha.sub (subs_cons KR (subs_cons KR (subs_cons KR (subs_cons KR (subs_cons KR (subs_nil _)))))), (Wd.segs (ss := [U4657, ([] : Blks)]) (bt := ([] : Blks)) (m := []) (ot := ([] : List OwnA)) [([] : Blks)] [] HW [1] [0] [] KR KR (by decide) KR)⟩
      · skip
        intro a W4673 hJ
        obtain ⟨x4672, h, ha, HW⟩ := hJ
        replace h : headgatelaw06_JournalFull.j0 K t4624 t4628 t4652 x4672 = some r := h
        unfold headgatelaw06_JournalFull.j0 at h
        refine hK4670 _ _ ?_; clear hK4670
        by_cases hp4674 : x4672 = true
        · skip
          replace h := ite_pos' h hp4674
          refine condT ha KR KR (t := x4672) (hp4674) ?_
          refine wp_seq_k (fun K4675 hK4676 => ?_)
          refine wp_region_lit ?_
          refine stepp ha 38 (.int .i64 t4652.2.1) KR KR ?_; clear ha a; intro a ha
          refine stepp ha 39 (.bool (t4652.2.1 == 60)) KR KR ?_; clear ha a; intro a ha
          refine stepp ha 40 (.bool (t4652.2.1 == 60)) KR KR ?_; clear ha a; intro a ha
          by_cases hp4677 : t4652.2.1 = 60
          · skip
            replace h := ite_pos' h hp4677
            replace ha := ha.bool 40 KR (ieq_t hp4677)
            refine stepp ha 41 (.int .i64 (IntKind.wrap .i64 (8 + t4624))) KR KR ?_; clear ha a; intro a ha
            refine stepp ha 42 (.int .i64 (IntKind.wrap .i64 ((IntKind.wrap .i64 (8 + t4624)) - 4))) KR KR ?_; clear ha a; intro a ha
            refine stepp ha 43 (.int .i64 (IntKind.wrap .i64 (Int.tdiv (IntKind.wrap .i64 ((IntKind.wrap .i64 (8 + t4624)) - 4)) 2))) KR KR ?_; clear ha a; intro a ha
            refine stepp ha 44 (.bool (decide ((IntKind.wrap .i64 (Int.tdiv (IntKind.wrap .i64 ((IntKind.wrap .i64 (8 + t4624)) - 4)) 2)) < 1))) KR KR ?_; clear ha a; intro a ha
            refine stepp ha 45 (.bool (decide ((IntKind.wrap .i64 (Int.tdiv (IntKind.wrap .i64 ((IntKind.wrap .i64 (8 + t4624)) - 4)) 2)) < 1))) KR KR ?_; clear ha a; intro a ha
            refine stepp ha 46 (.bool (decide ((IntKind.wrap .i64 (Int.tdiv (IntKind.wrap .i64 ((IntKind.wrap .i64 (8 + t4624)) - 4)) 2)) < 1))) KR KR ?_; clear ha a; intro a ha
            by_cases hp4678 : (IntKind.wrap .i64 (Int.tdiv (IntKind.wrap .i64 ((IntKind.wrap .i64 (8 + t4624)) - 4)) 2)) < 1
            · skip
              replace h := ite_pos' h hp4678
              replace ha := ha.bool 46 KR (decide_eq_true hp4678)
              obtain ⟨t4679, ht4680, h_⟩ := bind_some' h; clear h; have h := h_; clear h_
              refine stepc ha 47 KR KR (headgatelaw06_wakes.calls t4679 _ (HW.ca0 hG1) ht4680) ?_; clear ha a; rintro e W4681 ⟨rfl, HX4682⟩
              refine ⟨_, rfl, ?_⟩; intro a ha; replace HW := HW.callw HX4682; clear HX4682
              refine stepp ha 48 (.bool t4679) KR KR ?_; clear ha a; intro a ha
              refine stepp ha 4 (.bool t4679) KR KR ?_; clear ha a; intro a ha
              refine endl ?_
              refine thenN (hK4676 _ _ ?_); clear hK4676
              refine wp_ret ?_
              refine thenR ?_
              obtain rfl := Option.some.inj h
              exact finv ha _ _ rfl (.tmp (v := .bool t4679) KR .nil) (.bool t4679) rfl ⟨rfl, HW.pick [] [] (by decide) (by decide) rfl KR⟩
            · skip
              replace h := ite_neg' h hp4678
              replace ha := ha.bool 46 KR (decide_eq_false hp4678)
              refine stepo ha 47 KR ?_; clear ha a; intro a ha
              refine stepp ha 48 (.bool false) KR KR ?_; clear ha a; intro a ha
              refine stepp ha 4 (.bool false) KR KR ?_; clear ha a; intro a ha
              refine endl ?_
              refine thenN (hK4676 _ _ ?_); clear hK4676
              refine wp_ret ?_
              refine thenR ?_
              obtain rfl := Option.some.inj h
              exact finv ha _ _ rfl (.tmp (v := .bool false) KR .nil) (.bool false) rfl ⟨rfl, HW.pick [] [] (by decide) (by decide) rfl KR⟩
          · skip
            replace h := ite_neg' h hp4677
            replace ha := ha.bool 40 KR (ieq_f hp4677)
            refine stepo ha 41 KR ?_; clear ha a; intro a ha
            refine stepo ha 42 KR ?_; clear ha a; intro a ha
            refine stepo ha 43 KR ?_; clear ha a; intro a ha
            refine stepo ha 44 KR ?_; clear ha a; intro a ha
            refine stepp ha 45 (.bool false) KR KR ?_; clear ha a; intro a ha
            refine stepp ha 46 (.bool false) KR KR ?_; clear ha a; intro a ha
            refine stepo ha 47 KR ?_; clear ha a; intro a ha
            refine stepp ha 48 (.bool false) KR KR ?_; clear ha a; intro a ha
            refine stepp ha 4 (.bool false) KR KR ?_; clear ha a; intro a ha
            refine endl ?_
            refine thenN (hK4676 _ _ ?_); clear hK4676
            refine wp_ret ?_
            refine thenR ?_
            obtain rfl := Option.some.inj h
            exact finv ha _ _ rfl (.tmp (v := .bool false) KR .nil) (.bool false) rfl ⟨rfl, HW.pick [] [] (by decide) (by decide) rfl KR⟩
        · skip
          replace h := ite_neg' h hp4674
          refine condF ha KR KR (t := x4672) (bool_f hp4674) ?_
          refine wp_skip ?_
          refine thenN (hK4668 _ _ ?_); clear hK4668
          refine wp_seq_k (fun K4683 hK4684 => ?_)
          refine wp_region_lit ?_
          refine stepp ha 49 (.int .i64 t4628) KR KR ?_; clear ha a; intro a ha
          obtain ⟨t4685, ht4686, h_⟩ := bind_some' h; clear h; have h := h_; clear h_
          refine stepc ha 50 KR KR (headgatekeep_Zeros.calls t4628 t4685 _ ht4686) ?_; clear ha a; rintro e W4687 ⟨rfl, HX4688⟩
          refine ⟨_, rfl, ?_⟩; intro a ha; replace HW := HW.callw HX4688; clear HX4688
          refine stepp ha 11 (.string t4685) KR KR ?_; clear ha a; intro a ha
          refine endl ?_
          refine thenN (hK4684 _ _ ?_); clear hK4684
          refine wp_seq_k (fun K4689 hK4690 => ?_)
          refine wp_region_lit ?_
          refine stepp ha 51 (.int .i64 t4628) KR KR ?_; clear ha a; intro a ha
          refine stepp ha 52 (.int .i64 (IntKind.wrap .i64 (24 + t4628))) KR KR ?_; clear ha a; intro a ha
          refine stepp ha 53 (.int .i64 (IntKind.wrap .i64 ((IntKind.wrap .i64 (24 + t4628)) + 511))) KR KR ?_; clear ha a; intro a ha
          refine stepp ha 54 (.int .i64 (IntKind.wrap .i64 (Int.tdiv (IntKind.wrap .i64 ((IntKind.wrap .i64 (24 + t4628)) + 511)) 512))) KR KR ?_; clear ha a; intro a ha
          refine stepp ha 12 (.int .i64 (IntKind.wrap .i64 (Int.tdiv (IntKind.wrap .i64 ((IntKind.wrap .i64 (24 + t4628)) + 511)) 512))) KR KR ?_; clear ha a; intro a ha
          refine endl ?_
          refine thenN (hK4690 _ _ ?_); clear hK4690
          refine wp_seq_k (fun K4691 hK4692 => ?_)
          refine wp_seq_k (fun K4693 hK4694 => ?_)
          refine wp_region_lit ?_
          refine stepp ha 13 (.int .i64 0) KR KR ?_; clear ha a; intro a ha
          refine endl ?_
          refine thenN (hK4694 _ _ ?_); clear hK4694
          refine wp_block ?_
          refine loopk (fun k => fun a W4737 => headgatelaw06_JournalFull.l0 K t4624 t4628 k = some r ∧ Has 108 [(5, .int .i64 (IntKind.wrap .i64 (8 + t4624))), (9, .pointer none), (11, .string t4685), (12, .int .i64 (IntKind.wrap .i64 (Int.tdiv (IntKind.wrap .i64 ((IntKind.wrap .i64 (24 + t4628)) + 511)) 512))), (13, .int .i64 0)] a ∧ Wd w W4737 (([] : Blks) ++ ([] : Blks)) (([] : List OwnA))) K ?_ ?_
          · skip
            exact ⟨h, ha.sub (subs_cons KR (subs_cons KR (subs_cons KR (subs_cons KR (subs_cons KR (subs_nil _)))))), (Wd.segs (ss := [([] : Blks)]) (bt := ([] : Blks)) (m := []) (ot := ([] : List OwnA)) [([] : Blks)] [] HW [0] [] [] KR KR (by decide) KR)⟩
          · skip
            intro k a W4737 hI
            obtain ⟨h, ha, HW⟩ := hI
            cases k with
            | zero => exact (none_some (show none = some r from h)).elim
            | succ k4738 =>
              replace h : headgatelaw06_JournalFull.b0 K t4624 t4628 (headgatelaw06_JournalFull.l0 K t4624 t4628 k4738)  = some r := h
              obtain ⟨again4736, hag4739⟩ : ∃ g_, g_ = headgatelaw06_JournalFull.l0 K t4624 t4628 k4738 := ⟨_, rfl⟩
              rw [← hag4739] at h
              unfold headgatelaw06_JournalFull.b0 at h
              refine wp_seq_k (fun K4740 hK4741 => ?_)
              refine wp_seq_k (fun K4742 hK4743 => ?_)
              refine wp_region_lit ?_
              refine stepp ha 55 (.int .i64 0) KR KR ?_; clear ha a; intro a ha
              refine stepp ha 56 (.bool true) KR KR ?_; clear ha a; intro a ha
              refine endl ?_
              refine thenN (hK4743 _ _ ?_); clear hK4743
              refine condT ha KR KR (t := true) (rfl) ?_
              refine wp_skip ?_
              refine thenN (hK4741 _ _ ?_); clear hK4741
              refine wp_seq_k (fun K4744 hK4745 => ?_)
              refine wp_block ?_
              refine wp_seq_k (fun K4746 hK4747 => ?_)
              refine wp_region_lit ?_
              refine stepp ha 59 (.int .i64 (IntKind.wrap .i64 (8 + t4624))) KR KR ?_; clear ha a; intro a ha
              refine stepp ha 60 (.int .i64 (IntKind.wrap .i64 ((IntKind.wrap .i64 (8 + t4624)) - 4))) KR KR ?_; clear ha a; intro a ha
              refine stepp ha 61 (.int .i64 (IntKind.wrap .i64 (Int.tdiv (IntKind.wrap .i64 ((IntKind.wrap .i64 (8 + t4624)) - 4)) 2))) KR KR ?_; clear ha a; intro a ha
              refine stepp ha 62 (.int .i64 (IntKind.wrap .i64 ((IntKind.wrap .i64 (Int.tdiv (IntKind.wrap .i64 ((IntKind.wrap .i64 (8 + t4624)) - 4)) 2)) - 1))) KR KR ?_; clear ha a; intro a ha
              refine stepp ha 63 (.int .i64 (IntKind.wrap .i64 (Int.tdiv (IntKind.wrap .i64 ((IntKind.wrap .i64 (24 + t4628)) + 511)) 512))) KR KR ?_; clear ha a; intro a ha
              obtain ⟨hA4748, h_⟩ := asrt_some h; clear h; have h := h_; clear h_
              refine stepquo ha 64 3 3 (.tmp 62) (.tmp 63) .i64 (IntKind.wrap .i64 ((IntKind.wrap .i64 (Int.tdiv (IntKind.wrap .i64 ((IntKind.wrap .i64 (8 + t4624)) - 4)) 2)) - 1)) (IntKind.wrap .i64 (Int.tdiv (IntKind.wrap .i64 ((IntKind.wrap .i64 (24 + t4628)) + 511)) 512)) rfl KR KR hA4748 KR ?_; clear ha a; intro a ha
              refine stepp ha 14 (.int .i64 (IntKind.wrap .i64 (Int.tdiv (IntKind.wrap .i64 ((IntKind.wrap .i64 (Int.tdiv (IntKind.wrap .i64 ((IntKind.wrap .i64 (8 + t4624)) - 4)) 2)) - 1)) (IntKind.wrap .i64 (Int.tdiv (IntKind.wrap .i64 ((IntKind.wrap .i64 (24 + t4628)) + 511)) 512))))) KR KR ?_; clear ha a; intro a ha
              refine endl ?_
              refine thenN (hK4747 _ _ ?_); clear hK4747
              refine wp_seq_k (fun K4749 hK4750 => ?_)
              refine wp_seq_k (fun K4751 hK4752 => ?_)
              refine wp_region_lit ?_
              refine stepp ha 15 (.int .i64 0) KR KR ?_; clear ha a; intro a ha
              refine endl ?_
              refine thenN (hK4752 _ _ ?_); clear hK4752
              refine wp_block ?_
              refine loopk (fun k => fun a W4764 => headgatelaw06_JournalFull.l1 K t4624 t4628 k = some r ∧ Has 108 [(5, .int .i64 (IntKind.wrap .i64 (8 + t4624))), (9, .pointer none), (11, .string t4685), (12, .int .i64 (IntKind.wrap .i64 (Int.tdiv (IntKind.wrap .i64 ((IntKind.wrap .i64 (24 + t4628)) + 511)) 512))), (13, .int .i64 0), (14, .int .i64 (IntKind.wrap .i64 (Int.tdiv (IntKind.wrap .i64 ((IntKind.wrap .i64 (Int.tdiv (IntKind.wrap .i64 ((IntKind.wrap .i64 (8 + t4624)) - 4)) 2)) - 1)) (IntKind.wrap .i64 (Int.tdiv (IntKind.wrap .i64 ((IntKind.wrap .i64 (24 + t4628)) + 511)) 512))))), (15, .int .i64 0)] a ∧ Wd w W4764 (([] : Blks) ++ ([] : Blks)) (([] : List OwnA))) K ?_ ?_
              · skip
                exact ⟨h, ha.sub (subs_cons KR (subs_cons KR (subs_cons KR (subs_cons KR (subs_cons KR (subs_cons KR (subs_cons KR (subs_nil _)))))))), (Wd.segs (ss := [([] : Blks)]) (bt := ([] : Blks)) (m := []) (ot := ([] : List OwnA)) [([] : Blks)] [] HW [0] [] [] KR KR (by decide) KR)⟩
              · skip
                intro k a W4764 hI
                obtain ⟨h, ha, HW⟩ := hI
                cases k with
                | zero => exact (none_some (show none = some r from h)).elim
                | succ k4765 =>
                  replace h : headgatelaw06_JournalFull.b1 K t4624 t4628 (headgatelaw06_JournalFull.l1 K t4624 t4628 k4765)  = some r := h
                  obtain ⟨again4763, hag4766⟩ : ∃ g_, g_ = headgatelaw06_JournalFull.l1 K t4624 t4628 k4765 := ⟨_, rfl⟩
                  rw [← hag4766] at h
                  unfold headgatelaw06_JournalFull.b1 at h
                  refine wp_seq_k (fun K4767 hK4768 => ?_)
                  refine wp_seq_k (fun K4769 hK4770 => ?_)
                  refine wp_region_lit ?_
                  refine stepp ha 65 (.int .i64 0) KR KR ?_; clear ha a; intro a ha
                  refine stepp ha 66 (.int .i64 (IntKind.wrap .i64 (Int.tdiv (IntKind.wrap .i64 ((IntKind.wrap .i64 (Int.tdiv (IntKind.wrap .i64 ((IntKind.wrap .i64 (8 + t4624)) - 4)) 2)) - 1)) (IntKind.wrap .i64 (Int.tdiv (IntKind.wrap .i64 ((IntKind.wrap .i64 (24 + t4628)) + 511)) 512))))) KR KR ?_; clear ha a; intro a ha
                  refine stepp ha 67 (.bool (decide ((0 : Int) < (IntKind.wrap .i64 (Int.tdiv (IntKind.wrap .i64 ((IntKind.wrap .i64 (Int.tdiv (IntKind.wrap .i64 ((IntKind.wrap .i64 (8 + t4624)) - 4)) 2)) - 1)) (IntKind.wrap .i64 (Int.tdiv (IntKind.wrap .i64 ((IntKind.wrap .i64 (24 + t4628)) + 511)) 512))))))) KR KR ?_; clear ha a; intro a ha
                  refine endl ?_
                  refine thenN (hK4770 _ _ ?_); clear hK4770
                  by_cases hp4771 : (0 : Int) < (IntKind.wrap .i64 (Int.tdiv (IntKind.wrap .i64 ((IntKind.wrap .i64 (Int.tdiv (IntKind.wrap .i64 ((IntKind.wrap .i64 (8 + t4624)) - 4)) 2)) - 1)) (IntKind.wrap .i64 (Int.tdiv (IntKind.wrap .i64 ((IntKind.wrap .i64 (24 + t4628)) + 511)) 512))))
                  · skip
                    replace h := ite_pos' h hp4771
                    refine condT ha KR KR (t := decide ((0 : Int) < (IntKind.wrap .i64 (Int.tdiv (IntKind.wrap .i64 ((IntKind.wrap .i64 (Int.tdiv (IntKind.wrap .i64 ((IntKind.wrap .i64 (8 + t4624)) - 4)) 2)) - 1)) (IntKind.wrap .i64 (Int.tdiv (IntKind.wrap .i64 ((IntKind.wrap .i64 (24 + t4628)) + 511)) 512)))))) (decide_eq_true hp4771) ?_
                    refine wp_skip ?_
                    refine thenN (hK4768 _ _ ?_); clear hK4768
                    refine wp_seq_k (fun K4772 hK4773 => ?_)
                    refine wp_block ?_
                    refine wp_seq_k (fun K4774 hK4775 => ?_)
                    refine wp_region_lit ?_
                    refine stepp ha 70 (.pointer none) KR KR ?_; clear ha a; intro a ha
                    refine stepp ha 71 (.string t4685) KR KR ?_; clear ha a; intro a ha
                    exact (none_some h).elim
                  · skip
                    replace h := ite_neg' h hp4771
                    refine condF ha KR KR (t := decide ((0 : Int) < (IntKind.wrap .i64 (Int.tdiv (IntKind.wrap .i64 ((IntKind.wrap .i64 (Int.tdiv (IntKind.wrap .i64 ((IntKind.wrap .i64 (8 + t4624)) - 4)) 2)) - 1)) (IntKind.wrap .i64 (Int.tdiv (IntKind.wrap .i64 ((IntKind.wrap .i64 (24 + t4628)) + 511)) 512)))))) (decide_eq_false hp4771) ?_
                    refine wp_exit ?_
                    refine thenE ?_
                    refine thenE ?_
                    refine inBlk ?_
                    refine thenN (hK4750 _ _ ?_); clear hK4750
                    refine wp_seq_k (fun K4776 hK4777 => ?_)
                    refine wp_seq_k (fun K4778 hK4779 => ?_)
                    refine wp_region_lit ?_
                    refine stepp ha 74 (.pointer none) KR KR ?_; clear ha a; intro a ha
                    refine stepp ha 75 (.string t4685) KR KR ?_; clear ha a; intro a ha
                    exact (none_some h).elim
    · skip
      rw [e4664] at h hO4662; replace h := optc_s h
      obtain ⟨b4665, hO4662v, hU4666⟩ := hO4662; subst hO4662v
      have HW : Wd w W4658 (U4655 ++ (U4657 ++ (([] : Blks) ++ ([] : Blks)))) (([] : List OwnA)) := Wd.segs (ss := [U4655, U4657, ([] : Blks)]) (bt := ([] : Blks)) (m := []) (ot := ([] : List OwnA)) [U4655, U4657, ([] : Blks)] [] HX4659 [0, 1, 2] [] [] KR KR (by decide) KR; clear HX4659
      refine stepp ha 26 (.tuple #[.pointer (some ⟨b4665, 0, none⟩), .int .i64 t4652.2.1]) KR KR ?_; clear ha a; intro a ha
      refine stepp ha 30 (.pointer (some ⟨b4665, 0, none⟩)) KR KR ?_; clear ha a; intro a ha
      refine stepp ha 31 (.int .i64 t4652.2.1) KR KR ?_; clear ha a; intro a ha
      refine stepp ha 9 (.pointer (some ⟨b4665, 0, none⟩)) KR KR ?_; clear ha a; intro a ha
      refine stepp ha 10 (.int .i64 t4652.2.1) KR KR ?_; clear ha a; intro a ha
      refine endl ?_
      refine thenN (hK4651 _ _ ?_); clear hK4651
      refine wp_seq_k (fun K4780 hK4781 => ?_)
      refine wp_seq_k (fun K4782 hK4783 => ?_)
      refine cutn (fun a W4788 => ∃ (x4785 : Bool), headgatelaw06_JournalFull.j1 K t4624 t4628 t4652 x4663 x4785 = some r ∧ Has 108 [(5, .int .i64 (IntKind.wrap .i64 (8 + t4624))), (6, .int .i64 t4628), (9, .pointer (some ⟨b4665, 0, none⟩)), (10, .int .i64 t4652.2.1), (37, .bool x4785)] a ∧ Wd w W4788 (U4655 ++ (U4657 ++ (([] : Blks) ++ ([] : Blks)))) (([] : List OwnA)) ∧ T_journal_Journal.At b4665 b4646 x4663 U4655 ∧ T_dev_Dev.At b4646  t4652.2.2 U4657) ?_ ?_
      · skip
        refine wp_region_lit ?_
        refine stepp ha 32 (.int .i64 t4634.2) KR KR ?_; clear ha a; intro a ha
        refine stepp ha 33 (.bool (t4634.2 != 0)) KR KR ?_; clear ha a; intro a ha
        refine stepp ha 34 (.bool (t4634.2 != 0)) KR KR ?_; clear ha a; intro a ha
        by_cases hp4784 : t4634.2 = 0
        · skip
          replace h := ite_pos' h hp4784
          replace ha := ha.bool 34 KR (ineq_f hp4784)
          refine stepp ha 35 (.int .i64 t4652.2.1) KR KR ?_; clear ha a; intro a ha
          refine stepp ha 36 (.bool (t4652.2.1 != 0)) KR KR ?_; clear ha a; intro a ha
          refine stepp ha 37 (.bool (t4652.2.1 != 0)) KR KR ?_; clear ha a; intro a ha
          refine endl ?_
          exact thenN ⟨(t4652.2.1 != 0), h, ha.sub (subs_cons KR (subs_cons KR (subs_cons KR (subs_cons KR (subs_cons KR (subs_nil _)))))), (Wd.segs (ss := [U4655, U4657, ([] : Blks)]) (bt := ([] : Blks)) (m := []) (ot := ([] : List OwnA)) [U4655, U4657, ([] : Blks)] [] HW [0, 1, 2] [] [] KR KR (by decide) KR), hU4666, hU4647⟩
        · skip
          replace h := ite_neg' h hp4784
          replace ha := ha.bool 34 KR (ineq_t hp4784)
          refine stepo ha 35 KR ?_; clear ha a; intro a ha
          refine stepo ha 36 KR ?_; clear ha a; intro a ha
          refine stepp ha 37 (.bool true) KR KR ?_; clear ha a; intro a ha
          refine endl ?_
          exact thenN ⟨true, h, ha.sub (subs_cons KR (subs_cons KR (subs_cons KR (subs_cons KR (subs_cons KR (subs_nil _)))))), (Wd.segs (ss := [U4655, U4657, ([] : Blks)]) (bt := ([] : Blks)) (m := []) (ot := ([] : List OwnA)) [U4655, U4657, ([] : Blks)] [] HW [0, 1, 2] [] [] KR KR (by decide) KR), hU4666, hU4647⟩
      · skip
        intro a W4788 hJ
        obtain ⟨x4785, h, ha, HW, hU4786, hU4787⟩ := hJ
        replace h : headgatelaw06_JournalFull.j1 K t4624 t4628 t4652 x4663 x4785 = some r := h
        unfold headgatelaw06_JournalFull.j1 at h
        refine hK4783 _ _ ?_; clear hK4783
        by_cases hp4789 : x4785 = true
        · skip
          replace h := ite_pos' h hp4789
          refine condT ha KR KR (t := x4785) (hp4789) ?_
          refine wp_seq_k (fun K4790 hK4791 => ?_)
          refine wp_region_lit ?_
          refine stepp ha 38 (.int .i64 t4652.2.1) KR KR ?_; clear ha a; intro a ha
          refine stepp ha 39 (.bool (t4652.2.1 == 60)) KR KR ?_; clear ha a; intro a ha
          refine stepp ha 40 (.bool (t4652.2.1 == 60)) KR KR ?_; clear ha a; intro a ha
          by_cases hp4792 : t4652.2.1 = 60
          · skip
            replace h := ite_pos' h hp4792
            replace ha := ha.bool 40 KR (ieq_t hp4792)
            refine stepp ha 41 (.int .i64 (IntKind.wrap .i64 (8 + t4624))) KR KR ?_; clear ha a; intro a ha
            refine stepp ha 42 (.int .i64 (IntKind.wrap .i64 ((IntKind.wrap .i64 (8 + t4624)) - 4))) KR KR ?_; clear ha a; intro a ha
            refine stepp ha 43 (.int .i64 (IntKind.wrap .i64 (Int.tdiv (IntKind.wrap .i64 ((IntKind.wrap .i64 (8 + t4624)) - 4)) 2))) KR KR ?_; clear ha a; intro a ha
            refine stepp ha 44 (.bool (decide ((IntKind.wrap .i64 (Int.tdiv (IntKind.wrap .i64 ((IntKind.wrap .i64 (8 + t4624)) - 4)) 2)) < 1))) KR KR ?_; clear ha a; intro a ha
            refine stepp ha 45 (.bool (decide ((IntKind.wrap .i64 (Int.tdiv (IntKind.wrap .i64 ((IntKind.wrap .i64 (8 + t4624)) - 4)) 2)) < 1))) KR KR ?_; clear ha a; intro a ha
            refine stepp ha 46 (.bool (decide ((IntKind.wrap .i64 (Int.tdiv (IntKind.wrap .i64 ((IntKind.wrap .i64 (8 + t4624)) - 4)) 2)) < 1))) KR KR ?_; clear ha a; intro a ha
            by_cases hp4793 : (IntKind.wrap .i64 (Int.tdiv (IntKind.wrap .i64 ((IntKind.wrap .i64 (8 + t4624)) - 4)) 2)) < 1
            · skip
              replace h := ite_pos' h hp4793
              replace ha := ha.bool 46 KR (decide_eq_true hp4793)
              obtain ⟨t4794, ht4795, h_⟩ := bind_some' h; clear h; have h := h_; clear h_
              refine stepc ha 47 KR KR (headgatelaw06_wakes.calls t4794 _ (HW.ca0 hG1) ht4795) ?_; clear ha a; rintro e W4796 ⟨rfl, HX4797⟩
              refine ⟨_, rfl, ?_⟩; intro a ha; replace HW := HW.callw HX4797; clear HX4797
              refine stepp ha 48 (.bool t4794) KR KR ?_; clear ha a; intro a ha
              refine stepp ha 4 (.bool t4794) KR KR ?_; clear ha a; intro a ha
              refine endl ?_
              refine thenN (hK4791 _ _ ?_); clear hK4791
              refine wp_ret ?_
              refine thenR ?_
              obtain rfl := Option.some.inj h
              exact finv ha _ _ rfl (.tmp (v := .bool t4794) KR .nil) (.bool t4794) rfl ⟨rfl, HW.pick [] [] (by decide) (by decide) rfl KR⟩
            · skip
              replace h := ite_neg' h hp4793
              replace ha := ha.bool 46 KR (decide_eq_false hp4793)
              refine stepo ha 47 KR ?_; clear ha a; intro a ha
              refine stepp ha 48 (.bool false) KR KR ?_; clear ha a; intro a ha
              refine stepp ha 4 (.bool false) KR KR ?_; clear ha a; intro a ha
              refine endl ?_
              refine thenN (hK4791 _ _ ?_); clear hK4791
              refine wp_ret ?_
              refine thenR ?_
              obtain rfl := Option.some.inj h
              exact finv ha _ _ rfl (.tmp (v := .bool false) KR .nil) (.bool false) rfl ⟨rfl, HW.pick [] [] (by decide) (by decide) rfl KR⟩
          · skip
            replace h := ite_neg' h hp4792
            replace ha := ha.bool 40 KR (ieq_f hp4792)
            refine stepo ha 41 KR ?_; clear ha a; intro a ha
            refine stepo ha 42 KR ?_; clear ha a; intro a ha
            refine stepo ha 43 KR ?_; clear ha a; intro a ha
            refine stepo ha 44 KR ?_; clear ha a; intro a ha
            refine stepp ha 45 (.bool false) KR KR ?_; clear ha a; intro a ha
            refine stepp ha 46 (.bool false) KR KR ?_; clear ha a; intro a ha
            refine stepo ha 47 KR ?_; clear ha a; intro a ha
            refine stepp ha 48 (.bool false) KR KR ?_; clear ha a; intro a ha
            refine stepp ha 4 (.bool false) KR KR ?_; clear ha a; intro a ha
            refine endl ?_
            refine thenN (hK4791 _ _ ?_); clear hK4791
            refine wp_ret ?_
            refine thenR ?_
            obtain rfl := Option.some.inj h
            exact finv ha _ _ rfl (.tmp (v := .bool false) KR .nil) (.bool false) rfl ⟨rfl, HW.pick [] [] (by decide) (by decide) rfl KR⟩
        · skip
          replace h := ite_neg' h hp4789
          refine condF ha KR KR (t := x4785) (bool_f hp4789) ?_
          refine wp_skip ?_
          refine thenN (hK4781 _ _ ?_); clear hK4781
          refine wp_seq_k (fun K4798 hK4799 => ?_)
          refine wp_region_lit ?_
          refine stepp ha 49 (.int .i64 t4628) KR KR ?_; clear ha a; intro a ha
          obtain ⟨t4800, ht4801, h_⟩ := bind_some' h; clear h; have h := h_; clear h_
          refine stepc ha 50 KR KR (headgatekeep_Zeros.calls t4628 t4800 _ ht4801) ?_; clear ha a; rintro e W4802 ⟨rfl, HX4803⟩
          refine ⟨_, rfl, ?_⟩; intro a ha; replace HW := HW.callw HX4803; clear HX4803
          refine stepp ha 11 (.string t4800) KR KR ?_; clear ha a; intro a ha
          refine endl ?_
          refine thenN (hK4799 _ _ ?_); clear hK4799
          refine wp_seq_k (fun K4804 hK4805 => ?_)
          refine wp_region_lit ?_
          refine stepp ha 51 (.int .i64 t4628) KR KR ?_; clear ha a; intro a ha
          refine stepp ha 52 (.int .i64 (IntKind.wrap .i64 (24 + t4628))) KR KR ?_; clear ha a; intro a ha
          refine stepp ha 53 (.int .i64 (IntKind.wrap .i64 ((IntKind.wrap .i64 (24 + t4628)) + 511))) KR KR ?_; clear ha a; intro a ha
          refine stepp ha 54 (.int .i64 (IntKind.wrap .i64 (Int.tdiv (IntKind.wrap .i64 ((IntKind.wrap .i64 (24 + t4628)) + 511)) 512))) KR KR ?_; clear ha a; intro a ha
          refine stepp ha 12 (.int .i64 (IntKind.wrap .i64 (Int.tdiv (IntKind.wrap .i64 ((IntKind.wrap .i64 (24 + t4628)) + 511)) 512))) KR KR ?_; clear ha a; intro a ha
          refine endl ?_
          refine thenN (hK4805 _ _ ?_); clear hK4805
          refine wp_seq_k (fun K4806 hK4807 => ?_)
          refine wp_seq_k (fun K4808 hK4809 => ?_)
          refine wp_region_lit ?_
          refine stepp ha 13 (.int .i64 0) KR KR ?_; clear ha a; intro a ha
          refine endl ?_
          refine thenN (hK4809 _ _ ?_); clear hK4809
          refine wp_block ?_
          refine loopk (fun k => fun a W5144 => ∃ (x5137 : Int), ∃ (x5138 : T_journal_Journal), ∃ (U5139 : Blks), ∃ (x5141 : T_dev_Dev), ∃ (U5142 : Blks), headgatelaw06_JournalFull.l2 K t4624 t4628 t4800 k x5137 x5138 x5141 = some r ∧ Has 108 [(5, .int .i64 (IntKind.wrap .i64 (8 + t4624))), (9, .pointer (some ⟨b4665, 0, none⟩)), (11, .string t4800), (12, .int .i64 (IntKind.wrap .i64 (Int.tdiv (IntKind.wrap .i64 ((IntKind.wrap .i64 (24 + t4628)) + 511)) 512))), (13, .int .i64 x5137)] a ∧ Wd w W5144 (U5139 ++ (U5142 ++ (([] : Blks) ++ ([] : Blks)))) (([] : List OwnA)) ∧ T_journal_Journal.At b4665 b4646 x5138 U5139 ∧ T_dev_Dev.At b4646  x5141 U5142) K ?_ ?_
          · skip
            exact ⟨0, x4663, U4655, t4652.2.2, U4657, h, ha.sub (subs_cons KR (subs_cons KR (subs_cons KR (subs_cons KR (subs_cons KR (subs_nil _)))))), (Wd.segs (ss := [U4655, U4657, ([] : Blks)]) (bt := ([] : Blks)) (m := []) (ot := ([] : List OwnA)) [U4655, U4657, ([] : Blks)] [] HW [0, 1, 2] [] [] KR KR (by decide) KR), hU4786, hU4787⟩
          · skip
            intro k a W5144 hI
            obtain ⟨x5137, x5138, U5139, x5141, U5142, h, ha, HW, hU5140, hU5143⟩ := hI
            cases k with
            | zero => exact (none_some (show none = some r from h)).elim
            | succ k5145 =>
              replace h : headgatelaw06_JournalFull.b2 K t4624 t4628 t4800 (headgatelaw06_JournalFull.l2 K t4624 t4628 t4800 k5145) x5137 x5138 x5141 = some r := h
              obtain ⟨again5136, hag5146⟩ : ∃ g_, g_ = headgatelaw06_JournalFull.l2 K t4624 t4628 t4800 k5145 := ⟨_, rfl⟩
              rw [← hag5146] at h
              unfold headgatelaw06_JournalFull.b2 at h
              refine wp_seq_k (fun K5147 hK5148 => ?_)
              refine wp_seq_k (fun K5149 hK5150 => ?_)
              refine wp_region_lit ?_
              refine stepp ha 55 (.int .i64 x5137) KR KR ?_; clear ha a; intro a ha
              refine stepp ha 56 (.bool (decide (x5137 < 3))) KR KR ?_; clear ha a; intro a ha
              refine endl ?_
              refine thenN (hK5150 _ _ ?_); clear hK5150
              by_cases hp5151 : x5137 < 3
              · skip
                replace h := ite_pos' h hp5151
                refine condT ha KR KR (t := decide (x5137 < 3)) (decide_eq_true hp5151) ?_
                refine wp_skip ?_
                refine thenN (hK5148 _ _ ?_); clear hK5148
                refine wp_seq_k (fun K5152 hK5153 => ?_)
                refine wp_block ?_
                refine wp_seq_k (fun K5154 hK5155 => ?_)
                refine wp_region_lit ?_
                refine stepp ha 59 (.int .i64 (IntKind.wrap .i64 (8 + t4624))) KR KR ?_; clear ha a; intro a ha
                refine stepp ha 60 (.int .i64 (IntKind.wrap .i64 ((IntKind.wrap .i64 (8 + t4624)) - 4))) KR KR ?_; clear ha a; intro a ha
                refine stepp ha 61 (.int .i64 (IntKind.wrap .i64 (Int.tdiv (IntKind.wrap .i64 ((IntKind.wrap .i64 (8 + t4624)) - 4)) 2))) KR KR ?_; clear ha a; intro a ha
                refine stepp ha 62 (.int .i64 (IntKind.wrap .i64 ((IntKind.wrap .i64 (Int.tdiv (IntKind.wrap .i64 ((IntKind.wrap .i64 (8 + t4624)) - 4)) 2)) - 1))) KR KR ?_; clear ha a; intro a ha
                refine stepp ha 63 (.int .i64 (IntKind.wrap .i64 (Int.tdiv (IntKind.wrap .i64 ((IntKind.wrap .i64 (24 + t4628)) + 511)) 512))) KR KR ?_; clear ha a; intro a ha
                obtain ⟨hA5156, h_⟩ := asrt_some h; clear h; have h := h_; clear h_
                refine stepquo ha 64 3 3 (.tmp 62) (.tmp 63) .i64 (IntKind.wrap .i64 ((IntKind.wrap .i64 (Int.tdiv (IntKind.wrap .i64 ((IntKind.wrap .i64 (8 + t4624)) - 4)) 2)) - 1)) (IntKind.wrap .i64 (Int.tdiv (IntKind.wrap .i64 ((IntKind.wrap .i64 (24 + t4628)) + 511)) 512)) rfl KR KR hA5156 KR ?_; clear ha a; intro a ha
                refine stepp ha 14 (.int .i64 (IntKind.wrap .i64 (Int.tdiv (IntKind.wrap .i64 ((IntKind.wrap .i64 (Int.tdiv (IntKind.wrap .i64 ((IntKind.wrap .i64 (8 + t4624)) - 4)) 2)) - 1)) (IntKind.wrap .i64 (Int.tdiv (IntKind.wrap .i64 ((IntKind.wrap .i64 (24 + t4628)) + 511)) 512))))) KR KR ?_; clear ha a; intro a ha
                refine endl ?_
                refine thenN (hK5155 _ _ ?_); clear hK5155
                refine wp_seq_k (fun K5157 hK5158 => ?_)
                refine wp_seq_k (fun K5159 hK5160 => ?_)
                refine wp_region_lit ?_
                refine stepp ha 15 (.int .i64 0) KR KR ?_; clear ha a; intro a ha
                refine endl ?_
                refine thenN (hK5160 _ _ ?_); clear hK5160
                refine wp_block ?_
                refine loopk (fun k => fun a W5218 => ∃ (x5211 : Int), ∃ (x5212 : T_journal_Journal), ∃ (U5213 : Blks), ∃ (x5215 : T_dev_Dev), ∃ (U5216 : Blks), headgatelaw06_JournalFull.l3 K t4624 t4628 t4800 again5136 x5137 k x5211 x5212 x5215 = some r ∧ Has 108 [(5, .int .i64 (IntKind.wrap .i64 (8 + t4624))), (9, .pointer (some ⟨b4665, 0, none⟩)), (11, .string t4800), (12, .int .i64 (IntKind.wrap .i64 (Int.tdiv (IntKind.wrap .i64 ((IntKind.wrap .i64 (24 + t4628)) + 511)) 512))), (13, .int .i64 x5137), (14, .int .i64 (IntKind.wrap .i64 (Int.tdiv (IntKind.wrap .i64 ((IntKind.wrap .i64 (Int.tdiv (IntKind.wrap .i64 ((IntKind.wrap .i64 (8 + t4624)) - 4)) 2)) - 1)) (IntKind.wrap .i64 (Int.tdiv (IntKind.wrap .i64 ((IntKind.wrap .i64 (24 + t4628)) + 511)) 512))))), (15, .int .i64 x5211)] a ∧ Wd w W5218 (U5213 ++ (U5216 ++ (([] : Blks) ++ ([] : Blks)))) (([] : List OwnA)) ∧ T_journal_Journal.At b4665 b4646 x5212 U5213 ∧ T_dev_Dev.At b4646  x5215 U5216) K ?_ ?_
                · skip
                  exact ⟨0, x5138, U5139, x5141, U5142, h, ha.sub (subs_cons KR (subs_cons KR (subs_cons KR (subs_cons KR (subs_cons KR (subs_cons KR (subs_cons KR (subs_nil _)))))))), (Wd.segs (ss := [U5139, U5142, ([] : Blks)]) (bt := ([] : Blks)) (m := []) (ot := ([] : List OwnA)) [U5139, U5142, ([] : Blks)] [] HW [0, 1, 2] [] [] KR KR (by decide) KR), hU5140, hU5143⟩
                · skip
                  intro k a W5218 hI
                  obtain ⟨x5211, x5212, U5213, x5215, U5216, h, ha, HW, hU5214, hU5217⟩ := hI
                  cases k with
                  | zero => exact (none_some (show none = some r from h)).elim
                  | succ k5219 =>
                    replace h : headgatelaw06_JournalFull.b3 K t4624 t4628 t4800 again5136 x5137 (headgatelaw06_JournalFull.l3 K t4624 t4628 t4800 again5136 x5137 k5219) x5211 x5212 x5215 = some r := h
                    obtain ⟨again5210, hag5220⟩ : ∃ g_, g_ = headgatelaw06_JournalFull.l3 K t4624 t4628 t4800 again5136 x5137 k5219 := ⟨_, rfl⟩
                    rw [← hag5220] at h
                    unfold headgatelaw06_JournalFull.b3 at h
                    refine wp_seq_k (fun K5221 hK5222 => ?_)
                    refine wp_seq_k (fun K5223 hK5224 => ?_)
                    refine wp_region_lit ?_
                    refine stepp ha 65 (.int .i64 x5211) KR KR ?_; clear ha a; intro a ha
                    refine stepp ha 66 (.int .i64 (IntKind.wrap .i64 (Int.tdiv (IntKind.wrap .i64 ((IntKind.wrap .i64 (Int.tdiv (IntKind.wrap .i64 ((IntKind.wrap .i64 (8 + t4624)) - 4)) 2)) - 1)) (IntKind.wrap .i64 (Int.tdiv (IntKind.wrap .i64 ((IntKind.wrap .i64 (24 + t4628)) + 511)) 512))))) KR KR ?_; clear ha a; intro a ha
                    refine stepp ha 67 (.bool (decide (x5211 < (IntKind.wrap .i64 (Int.tdiv (IntKind.wrap .i64 ((IntKind.wrap .i64 (Int.tdiv (IntKind.wrap .i64 ((IntKind.wrap .i64 (8 + t4624)) - 4)) 2)) - 1)) (IntKind.wrap .i64 (Int.tdiv (IntKind.wrap .i64 ((IntKind.wrap .i64 (24 + t4628)) + 511)) 512))))))) KR KR ?_; clear ha a; intro a ha
                    refine endl ?_
                    refine thenN (hK5224 _ _ ?_); clear hK5224
                    by_cases hp5225 : x5211 < (IntKind.wrap .i64 (Int.tdiv (IntKind.wrap .i64 ((IntKind.wrap .i64 (Int.tdiv (IntKind.wrap .i64 ((IntKind.wrap .i64 (8 + t4624)) - 4)) 2)) - 1)) (IntKind.wrap .i64 (Int.tdiv (IntKind.wrap .i64 ((IntKind.wrap .i64 (24 + t4628)) + 511)) 512))))
                    · skip
                      replace h := ite_pos' h hp5225
                      refine condT ha KR KR (t := decide (x5211 < (IntKind.wrap .i64 (Int.tdiv (IntKind.wrap .i64 ((IntKind.wrap .i64 (Int.tdiv (IntKind.wrap .i64 ((IntKind.wrap .i64 (8 + t4624)) - 4)) 2)) - 1)) (IntKind.wrap .i64 (Int.tdiv (IntKind.wrap .i64 ((IntKind.wrap .i64 (24 + t4628)) + 511)) 512)))))) (decide_eq_true hp5225) ?_
                      refine wp_skip ?_
                      refine thenN (hK5222 _ _ ?_); clear hK5222
                      refine wp_seq_k (fun K5226 hK5227 => ?_)
                      refine wp_block ?_
                      refine wp_seq_k (fun K5228 hK5229 => ?_)
                      refine wp_region_lit ?_
                      refine stepp ha 70 (.pointer (some ⟨b4665, 0, none⟩)) KR KR ?_; clear ha a; intro a ha
                      refine stepp ha 71 (.string t4800) KR KR ?_; clear ha a; intro a ha
                      obtain ⟨t5230, ht5231, h_⟩ := bind_some' h; clear h; have h := h_; clear h_
                      refine stepc ha 72 KR KR (journal_Journal_Append.calls K x5212 x5215 t4800 b4665 U5213 b4646 U5216 t5230 _ _ ([] : Blks) ([] : Blks) (([] : List OwnA)) hG1 hU5214 hU5217 (Wd.segs (ss := [U5213, U5216, ([] : Blks)]) (bt := ([] : Blks)) (m := []) (ot := ([] : List OwnA)) [U5213, U5216, ([] : Blks)] [] HW [0, 1, 2] [] [] KR KR (by decide) KR) ht5231) ?_; clear ha a; rintro e W5234 ⟨U5232, U5233, rfl, hU5214n, hU5217n, HX5235⟩
                      refine ⟨_, rfl, ?_⟩; intro a ha; clear HW
                      clear hU5214; have hU5214 := hU5214n; clear hU5214n
                      clear hU5217; have hU5217 := hU5217n; clear hU5217n
                      have HW : Wd w W5234 (U5232 ++ (U5233 ++ (([] : Blks) ++ ([] : Blks)))) (([] : List OwnA)) := Wd.segs (ss := [U5232, U5233, ([] : Blks)]) (bt := ([] : Blks)) (m := []) (ot := ([] : List OwnA)) [U5232, U5233, ([] : Blks)] [] HX5235 [0, 1, 2] [] [] KR KR (by decide) KR; clear HX5235
                      refine stepp ha 73 (.bool (t5230.1 != 0)) KR KR ?_; clear ha a; intro a ha
                      refine endl ?_
                      refine thenN (hK5229 _ _ ?_); clear hK5229
                      by_cases hp5238 : t5230.1 = 0
                      · skip
                        replace h := ite_pos' h hp5238
                        refine condF ha KR KR (t := (t5230.1 != 0)) (ineq_f hp5238) ?_
                        refine wp_skip ?_
                        refine blkN ?_
                        refine thenN (hK5227 _ _ ?_); clear hK5227
                        refine wp_region_lit ?_
                        refine stepp ha 68 (.int .i64 x5211) KR KR ?_; clear ha a; intro a ha
                        refine stepp ha 69 (.int .i64 (IntKind.wrap .i64 (x5211 + 1))) KR KR ?_; clear ha a; intro a ha
                        refine stepp ha 15 (.int .i64 (IntKind.wrap .i64 (x5211 + 1))) KR KR ?_; clear ha a; intro a ha
                        refine endl ?_
                        exact thenN ⟨k5219, Nat.lt_succ_self k5219, IntKind.wrap .i64 (x5211 + 1), t5230.2.1, U5232, t5230.2.2, U5233, (by rw [← hag5220]; exact h), ha.sub (subs_cons KR (subs_cons KR (subs_cons KR (subs_cons KR (subs_cons KR (subs_cons KR (subs_cons KR (subs_nil _)))))))), (Wd.segs (ss := [U5232, U5233, ([] : Blks)]) (bt := ([] : Blks)) (m := []) (ot := ([] : List OwnA)) [U5232, U5233, ([] : Blks)] [] HW [0, 1, 2] [] [] KR KR (by decide) KR), hU5214, hU5217⟩
                      · skip
                        replace h := ite_neg' h hp5238
                        refine condT ha KR KR (t := (t5230.1 != 0)) (ineq_t hp5238) ?_
                        refine wp_seq_k (fun K5239 hK5240 => ?_)
                        refine wp_region_lit ?_
                        refine stepp ha 4 (.bool false) KR KR ?_; clear ha a; intro a ha
                        refine endl ?_
                        refine thenN (hK5240 _ _ ?_); clear hK5240
                        refine wp_ret ?_
                        refine blkR ?_
                        refine thenR ?_
                        refine thenR ?_
                        refine blkR ?_
                        refine thenR ?_
                        refine blkR ?_
                        refine thenR ?_
                        refine thenR ?_
                        refine blkR ?_
                        refine thenR ?_
                        obtain rfl := Option.some.inj h
                        exact finv ha _ _ rfl (.tmp (v := .bool false) KR .nil) (.bool false) rfl ⟨rfl, HW.pick [] [] (by decide) (by decide) rfl KR⟩
                    · skip
                      replace h := ite_neg' h hp5225
                      refine condF ha KR KR (t := decide (x5211 < (IntKind.wrap .i64 (Int.tdiv (IntKind.wrap .i64 ((IntKind.wrap .i64 (Int.tdiv (IntKind.wrap .i64 ((IntKind.wrap .i64 (8 + t4624)) - 4)) 2)) - 1)) (IntKind.wrap .i64 (Int.tdiv (IntKind.wrap .i64 ((IntKind.wrap .i64 (24 + t4628)) + 511)) 512)))))) (decide_eq_false hp5225) ?_
                      refine wp_exit ?_
                      refine thenE ?_
                      refine thenE ?_
                      refine inBlk ?_
                      refine thenN (hK5158 _ _ ?_); clear hK5158
                      refine wp_seq_k (fun K5241 hK5242 => ?_)
                      refine wp_seq_k (fun K5243 hK5244 => ?_)
                      refine wp_region_lit ?_
                      refine stepp ha 74 (.pointer (some ⟨b4665, 0, none⟩)) KR KR ?_; clear ha a; intro a ha
                      refine stepp ha 75 (.string t4800) KR KR ?_; clear ha a; intro a ha
                      obtain ⟨t5245, ht5246, h_⟩ := bind_some' h; clear h; have h := h_; clear h_
                      refine stepc ha 76 KR KR (journal_Journal_Append.calls K x5212 x5215 t4800 b4665 U5213 b4646 U5216 t5245 _ _ ([] : Blks) ([] : Blks) (([] : List OwnA)) hG1 hU5214 hU5217 (Wd.segs (ss := [U5213, U5216, ([] : Blks)]) (bt := ([] : Blks)) (m := []) (ot := ([] : List OwnA)) [U5213, U5216, ([] : Blks)] [] HW [0, 1, 2] [] [] KR KR (by decide) KR) ht5246) ?_; clear ha a; rintro e W5249 ⟨U5247, U5248, rfl, hU5214n, hU5217n, HX5250⟩
                      refine ⟨_, rfl, ?_⟩; intro a ha; clear HW
                      clear hU5214; have hU5214 := hU5214n; clear hU5214n
                      clear hU5217; have hU5217 := hU5217n; clear hU5217n
                      have HW : Wd w W5249 (U5247 ++ (U5248 ++ (([] : Blks) ++ ([] : Blks)))) (([] : List OwnA)) := Wd.segs (ss := [U5247, U5248, ([] : Blks)]) (bt := ([] : Blks)) (m := []) (ot := ([] : List OwnA)) [U5247, U5248, ([] : Blks)] [] HX5250 [0, 1, 2] [] [] KR KR (by decide) KR; clear HX5250
                      refine stepp ha 77 (.bool (t5245.1 != 60)) KR KR ?_; clear ha a; intro a ha
                      refine stepp ha 78 (.bool (t5245.1 != 60)) KR KR ?_; clear ha a; intro a ha
                      by_cases hp5253 : t5245.1 = 60
                      · skip
                        replace h := ite_pos' h hp5253
                        replace ha := ha.bool 78 KR (ineq_f hp5253)
                        refine stepp ha 79 (.pointer (some ⟨b4665, 0, none⟩)) KR KR ?_; clear ha a; intro a ha
                        obtain ⟨A5254, c5255, HW⟩ := T_journal_Journal.unfold hU5214 (Wd.segs (ss := [U5247, U5248, ([] : Blks)]) (bt := ([] : Blks)) (m := []) (ot := ([] : List OwnA)) [U5247, U5248, ([] : Blks)] [] HW [0, 1, 2] [] [] KR KR (by decide) KR)
                        replace HW : Wd w W5249 ((b4665, .cells #[.pointer (some ⟨b4646, 0, none⟩), .int .i64 t5245.2.1.f1, .int .i64 t5245.2.1.f2, .int .i64 t5245.2.1.f3, .int .i64 t5245.2.1.f4.f2, .string t5245.2.1.f5, .slice A5254 t5245.2.1.f6.length c5255, .int .i64 t5245.2.1.f7, .bool t5245.2.1.f8, .bool t5245.2.1.f9] 57 (0, 0)) :: U5248 ++ (([] : Blks) ++ ([] : Blks))) (⟨9, 1, .slice A5254 t5245.2.1.f6.length c5255, t5245.2.1.f6.length, encs encS t5245.2.1.f6⟩ :: ([] : List OwnA)) := HW; clear hU5214
                        obtain ⟨t5257, ht5258, h_⟩ := bind_some' h; clear h; have h := h_; clear h_
                        refine stepc ha 80 KR KR (journal_Journal_Records.calls (⟨(), t5245.2.1.f1, t5245.2.1.f2, t5245.2.1.f3, (⟨(), (), t5245.2.1.f4.f2⟩ : T_atomic_Int64), t5245.2.1.f5, t5245.2.1.f6, t5245.2.1.f7, t5245.2.1.f8, t5245.2.1.f9⟩ : T_journal_Journal) A5254 c5255 b4665 b4646 t5257 _ (HW.ca (i := 0) (b := b4665) (C := #[.pointer (some ⟨b4646, 0, none⟩), .int .i64 t5245.2.1.f1, .int .i64 t5245.2.1.f2, .int .i64 t5245.2.1.f3, .int .i64 t5245.2.1.f4.f2, .string t5245.2.1.f5, .slice A5254 t5245.2.1.f6.length c5255, .int .i64 t5245.2.1.f7, .bool t5245.2.1.f8, .bool t5245.2.1.f9]) (T := 57) (fr := (0, 0)) KR) (HW.rdo (i := 0) (q := ⟨9, 1, .slice A5254 t5245.2.1.f6.length c5255, t5245.2.1.f6.length, encs encS t5245.2.1.f6⟩) KR) ht5258) ?_; clear ha a; rintro e W5262 ⟨A5259, c5260, rfl, HX5263⟩
                        refine ⟨_, rfl, ?_⟩; intro a ha; replace HW := HW.callw HX5263; clear HX5263
                        refine stepp ha 81 (.int .i64 (t5257.length : Int)) KR KR ?_; clear ha a; intro a ha
                        refine stepp ha 82 (.int .i64 (IntKind.wrap .i64 (Int.tdiv (IntKind.wrap .i64 ((IntKind.wrap .i64 (Int.tdiv (IntKind.wrap .i64 ((IntKind.wrap .i64 (8 + t4624)) - 4)) 2)) - 1)) (IntKind.wrap .i64 (Int.tdiv (IntKind.wrap .i64 ((IntKind.wrap .i64 (24 + t4628)) + 511)) 512))))) KR KR ?_; clear ha a; intro a ha
                        refine stepp ha 83 (.bool ((t5257.length : Int) != (IntKind.wrap .i64 (Int.tdiv (IntKind.wrap .i64 ((IntKind.wrap .i64 (Int.tdiv (IntKind.wrap .i64 ((IntKind.wrap .i64 (8 + t4624)) - 4)) 2)) - 1)) (IntKind.wrap .i64 (Int.tdiv (IntKind.wrap .i64 ((IntKind.wrap .i64 (24 + t4628)) + 511)) 512)))))) KR KR ?_; clear ha a; intro a ha
                        refine stepp ha 84 (.bool ((t5257.length : Int) != (IntKind.wrap .i64 (Int.tdiv (IntKind.wrap .i64 ((IntKind.wrap .i64 (Int.tdiv (IntKind.wrap .i64 ((IntKind.wrap .i64 (8 + t4624)) - 4)) 2)) - 1)) (IntKind.wrap .i64 (Int.tdiv (IntKind.wrap .i64 ((IntKind.wrap .i64 (24 + t4628)) + 511)) 512)))))) KR KR ?_; clear ha a; intro a ha
                        refine stepp ha 85 (.bool ((t5257.length : Int) != (IntKind.wrap .i64 (Int.tdiv (IntKind.wrap .i64 ((IntKind.wrap .i64 (Int.tdiv (IntKind.wrap .i64 ((IntKind.wrap .i64 (8 + t4624)) - 4)) 2)) - 1)) (IntKind.wrap .i64 (Int.tdiv (IntKind.wrap .i64 ((IntKind.wrap .i64 (24 + t4628)) + 511)) 512)))))) KR KR ?_; clear ha a; intro a ha
                        by_cases hp5264 : (t5257.length : Int) = (IntKind.wrap .i64 (Int.tdiv (IntKind.wrap .i64 ((IntKind.wrap .i64 (Int.tdiv (IntKind.wrap .i64 ((IntKind.wrap .i64 (8 + t4624)) - 4)) 2)) - 1)) (IntKind.wrap .i64 (Int.tdiv (IntKind.wrap .i64 ((IntKind.wrap .i64 (24 + t4628)) + 511)) 512))))
                        · skip
                          replace h := ite_pos' h hp5264
                          replace ha := ha.bool 85 KR (ineq_f hp5264)
                          refine stepp ha 86 (.pointer (some ⟨b4665, 0, none⟩)) KR KR ?_; clear ha a; intro a ha
                          obtain ⟨t5265, ht5266, h_⟩ := bind_some' h; clear h; have h := h_; clear h_
                          refine stepc ha 87 KR KR (journal_Journal_Room.calls (⟨(), t5245.2.1.f1, t5245.2.1.f2, t5245.2.1.f3, (⟨(), (), t5245.2.1.f4.f2⟩ : T_atomic_Int64), t5245.2.1.f5, t5245.2.1.f6, t5245.2.1.f7, t5245.2.1.f8, t5245.2.1.f9⟩ : T_journal_Journal) A5254 c5255 b4665 b4646 t5265 _ (HW.ca (i := 0) (b := b4665) (C := #[.pointer (some ⟨b4646, 0, none⟩), .int .i64 t5245.2.1.f1, .int .i64 t5245.2.1.f2, .int .i64 t5245.2.1.f3, .int .i64 t5245.2.1.f4.f2, .string t5245.2.1.f5, .slice A5254 t5245.2.1.f6.length c5255, .int .i64 t5245.2.1.f7, .bool t5245.2.1.f8, .bool t5245.2.1.f9]) (T := 57) (fr := (0, 0)) KR) (HW.rdo (i := 1) (q := ⟨9, 1, .slice A5254 t5245.2.1.f6.length c5255, t5245.2.1.f6.length, encs encS t5245.2.1.f6⟩) KR) ht5266) ?_; clear ha a; rintro e W5267 ⟨rfl, HX5268⟩
                          refine ⟨_, rfl, ?_⟩; intro a ha; replace HW := HW.callw HX5268; clear HX5268
                          refine stepp ha 88 (.int .i64 (IntKind.wrap .i64 (8 + t4624))) KR KR ?_; clear ha a; intro a ha
                          refine stepp ha 89 (.int .i64 (IntKind.wrap .i64 ((IntKind.wrap .i64 (8 + t4624)) - 4))) KR KR ?_; clear ha a; intro a ha
                          refine stepp ha 90 (.int .i64 (IntKind.wrap .i64 (Int.tdiv (IntKind.wrap .i64 ((IntKind.wrap .i64 (8 + t4624)) - 4)) 2))) KR KR ?_; clear ha a; intro a ha
                          refine stepp ha 91 (.int .i64 (IntKind.wrap .i64 ((IntKind.wrap .i64 (Int.tdiv (IntKind.wrap .i64 ((IntKind.wrap .i64 (8 + t4624)) - 4)) 2)) - 1))) KR KR ?_; clear ha a; intro a ha
                          refine stepp ha 92 (.int .i64 (IntKind.wrap .i64 (Int.tdiv (IntKind.wrap .i64 ((IntKind.wrap .i64 (Int.tdiv (IntKind.wrap .i64 ((IntKind.wrap .i64 (8 + t4624)) - 4)) 2)) - 1)) (IntKind.wrap .i64 (Int.tdiv (IntKind.wrap .i64 ((IntKind.wrap .i64 (24 + t4628)) + 511)) 512))))) KR KR ?_; clear ha a; intro a ha
                          refine stepp ha 93 (.int .i64 (IntKind.wrap .i64 (Int.tdiv (IntKind.wrap .i64 ((IntKind.wrap .i64 (24 + t4628)) + 511)) 512))) KR KR ?_; clear ha a; intro a ha
                          refine stepp ha 94 (.int .i64 (IntKind.wrap .i64 ((IntKind.wrap .i64 (Int.tdiv (IntKind.wrap .i64 ((IntKind.wrap .i64 (Int.tdiv (IntKind.wrap .i64 ((IntKind.wrap .i64 (8 + t4624)) - 4)) 2)) - 1)) (IntKind.wrap .i64 (Int.tdiv (IntKind.wrap .i64 ((IntKind.wrap .i64 (24 + t4628)) + 511)) 512)))) * (IntKind.wrap .i64 (Int.tdiv (IntKind.wrap .i64 ((IntKind.wrap .i64 (24 + t4628)) + 511)) 512))))) KR KR ?_; clear ha a; intro a ha
                          refine stepp ha 95 (.int .i64 (IntKind.wrap .i64 ((IntKind.wrap .i64 ((IntKind.wrap .i64 (Int.tdiv (IntKind.wrap .i64 ((IntKind.wrap .i64 (8 + t4624)) - 4)) 2)) - 1)) - (IntKind.wrap .i64 ((IntKind.wrap .i64 (Int.tdiv (IntKind.wrap .i64 ((IntKind.wrap .i64 (Int.tdiv (IntKind.wrap .i64 ((IntKind.wrap .i64 (8 + t4624)) - 4)) 2)) - 1)) (IntKind.wrap .i64 (Int.tdiv (IntKind.wrap .i64 ((IntKind.wrap .i64 (24 + t4628)) + 511)) 512)))) * (IntKind.wrap .i64 (Int.tdiv (IntKind.wrap .i64 ((IntKind.wrap .i64 (24 + t4628)) + 511)) 512))))))) KR KR ?_; clear ha a; intro a ha
                          refine stepp ha 96 (.bool (t5265 != (IntKind.wrap .i64 ((IntKind.wrap .i64 ((IntKind.wrap .i64 (Int.tdiv (IntKind.wrap .i64 ((IntKind.wrap .i64 (8 + t4624)) - 4)) 2)) - 1)) - (IntKind.wrap .i64 ((IntKind.wrap .i64 (Int.tdiv (IntKind.wrap .i64 ((IntKind.wrap .i64 (Int.tdiv (IntKind.wrap .i64 ((IntKind.wrap .i64 (8 + t4624)) - 4)) 2)) - 1)) (IntKind.wrap .i64 (Int.tdiv (IntKind.wrap .i64 ((IntKind.wrap .i64 (24 + t4628)) + 511)) 512)))) * (IntKind.wrap .i64 (Int.tdiv (IntKind.wrap .i64 ((IntKind.wrap .i64 (24 + t4628)) + 511)) 512)))))))) KR KR ?_; clear ha a; intro a ha
                          refine stepp ha 97 (.bool (t5265 != (IntKind.wrap .i64 ((IntKind.wrap .i64 ((IntKind.wrap .i64 (Int.tdiv (IntKind.wrap .i64 ((IntKind.wrap .i64 (8 + t4624)) - 4)) 2)) - 1)) - (IntKind.wrap .i64 ((IntKind.wrap .i64 (Int.tdiv (IntKind.wrap .i64 ((IntKind.wrap .i64 (Int.tdiv (IntKind.wrap .i64 ((IntKind.wrap .i64 (8 + t4624)) - 4)) 2)) - 1)) (IntKind.wrap .i64 (Int.tdiv (IntKind.wrap .i64 ((IntKind.wrap .i64 (24 + t4628)) + 511)) 512)))) * (IntKind.wrap .i64 (Int.tdiv (IntKind.wrap .i64 ((IntKind.wrap .i64 (24 + t4628)) + 511)) 512)))))))) KR KR ?_; clear ha a; intro a ha
                          refine endl ?_
                          refine thenN (hK5244 _ _ ?_); clear hK5244
                          by_cases hp5269 : t5265 = (IntKind.wrap .i64 ((IntKind.wrap .i64 ((IntKind.wrap .i64 (Int.tdiv (IntKind.wrap .i64 ((IntKind.wrap .i64 (8 + t4624)) - 4)) 2)) - 1)) - (IntKind.wrap .i64 ((IntKind.wrap .i64 (Int.tdiv (IntKind.wrap .i64 ((IntKind.wrap .i64 (Int.tdiv (IntKind.wrap .i64 ((IntKind.wrap .i64 (8 + t4624)) - 4)) 2)) - 1)) (IntKind.wrap .i64 (Int.tdiv (IntKind.wrap .i64 ((IntKind.wrap .i64 (24 + t4628)) + 511)) 512)))) * (IntKind.wrap .i64 (Int.tdiv (IntKind.wrap .i64 ((IntKind.wrap .i64 (24 + t4628)) + 511)) 512))))))
                          · skip
                            replace h := ite_pos' h hp5269
                            refine condF ha KR KR (t := (t5265 != (IntKind.wrap .i64 ((IntKind.wrap .i64 ((IntKind.wrap .i64 (Int.tdiv (IntKind.wrap .i64 ((IntKind.wrap .i64 (8 + t4624)) - 4)) 2)) - 1)) - (IntKind.wrap .i64 ((IntKind.wrap .i64 (Int.tdiv (IntKind.wrap .i64 ((IntKind.wrap .i64 (Int.tdiv (IntKind.wrap .i64 ((IntKind.wrap .i64 (8 + t4624)) - 4)) 2)) - 1)) (IntKind.wrap .i64 (Int.tdiv (IntKind.wrap .i64 ((IntKind.wrap .i64 (24 + t4628)) + 511)) 512)))) * (IntKind.wrap .i64 (Int.tdiv (IntKind.wrap .i64 ((IntKind.wrap .i64 (24 + t4628)) + 511)) 512)))))))) (ineq_f hp5269) ?_
                            refine wp_skip ?_
                            refine thenN (hK5242 _ _ ?_); clear hK5242
                            refine wp_seq_k (fun K5276 hK5277 => ?_)
                            refine wp_region_lit ?_
                            refine stepp ha 98 (.pointer (some ⟨b4665, 0, none⟩)) KR KR ?_; clear ha a; intro a ha
                            obtain ⟨U5278, hU5279, HW⟩ := T_journal_Journal.fold (x := (⟨(), t5245.2.1.f1, t5245.2.1.f2, t5245.2.1.f3, (⟨(), (), t5245.2.1.f4.f2⟩ : T_atomic_Int64), t5245.2.1.f5, t5245.2.1.f6, t5245.2.1.f7, t5245.2.1.f8, t5245.2.1.f9⟩ : T_journal_Journal)) (Wd.segs (ss := [[(b4665, .cells #[.pointer (some ⟨b4646, 0, none⟩), .int .i64 t5245.2.1.f1, .int .i64 t5245.2.1.f2, .int .i64 t5245.2.1.f3, .int .i64 t5245.2.1.f4.f2, .string t5245.2.1.f5, .slice A5254 t5245.2.1.f6.length c5255, .int .i64 t5245.2.1.f7, .bool t5245.2.1.f8, .bool t5245.2.1.f9] 57 (0, 0))], U5248, ([] : Blks)]) (bt := ([] : Blks)) (m := [⟨9, 1, .slice A5259 t5257.length c5260, t5257.length, encs encS t5257⟩, ⟨9, 1, .slice A5254 t5245.2.1.f6.length c5255, t5245.2.1.f6.length, encs encS t5245.2.1.f6⟩]) (ot := ([] : List OwnA)) [[(b4665, .cells #[.pointer (some ⟨b4646, 0, none⟩), .int .i64 t5245.2.1.f1, .int .i64 t5245.2.1.f2, .int .i64 t5245.2.1.f3, .int .i64 t5245.2.1.f4.f2, .string t5245.2.1.f5, .slice A5254 t5245.2.1.f6.length c5255, .int .i64 t5245.2.1.f7, .bool t5245.2.1.f8, .bool t5245.2.1.f9] 57 (0, 0))], U5248, ([] : Blks)] [⟨9, 1, .slice A5254 t5245.2.1.f6.length c5255, t5245.2.1.f6.length, encs encS t5245.2.1.f6⟩, ⟨9, 1, .slice A5259 t5257.length c5260, t5257.length, encs encS t5257⟩] HW [0, 1, 2] [] [1, 0] KR KR (by decide) KR)
                            replace HW := Wd.segs (ss := [U5278, U5248, ([] : Blks)]) (bt := ([] : Blks)) (m := [⟨9, 1, .slice A5259 t5257.length c5260, t5257.length, encs encS t5257⟩]) (ot := ([] : List OwnA)) [U5278, U5248, ([] : Blks)] [⟨9, 1, .slice A5259 t5257.length c5260, t5257.length, encs encS t5257⟩] HW [0, 1, 2] [] [0] KR KR (by decide) KR
                            replace HW : Wd w W5267 (U5278 ++ (U5248 ++ (([] : Blks) ++ ([] : Blks)))) (⟨9, 1, .slice A5259 t5257.length c5260, t5257.length, encs encS t5257⟩ :: ([] : List OwnA)) := HW
                            obtain ⟨t5280, ht5281, h_⟩ := bind_some' h; clear h; have h := h_; clear h_
                            refine stepc ha 99 KR KR (journal_Journal_Checkpoint.calls K (⟨(), t5245.2.1.f1, t5245.2.1.f2, t5245.2.1.f3, (⟨(), (), t5245.2.1.f4.f2⟩ : T_atomic_Int64), t5245.2.1.f5, t5245.2.1.f6, t5245.2.1.f7, t5245.2.1.f8, t5245.2.1.f9⟩ : T_journal_Journal) t5245.2.2 (⟨#[]⟩ : ByteArray) b4665 U5278 b4646 U5248 t5280 _ _ ([] : Blks) ([] : Blks) (⟨9, 1, .slice A5259 t5257.length c5260, t5257.length, encs encS t5257⟩ :: ([] : List OwnA)) hG1 hU5279 hU5217 (Wd.segs (ss := [U5278, U5248, ([] : Blks)]) (bt := ([] : Blks)) (m := [⟨9, 1, .slice A5259 t5257.length c5260, t5257.length, encs encS t5257⟩]) (ot := ([] : List OwnA)) [U5278, U5248, ([] : Blks)] [⟨9, 1, .slice A5259 t5257.length c5260, t5257.length, encs encS t5257⟩] HW [0, 1, 2] [] [0] KR KR (by decide) KR) ht5281) ?_; clear ha a; rintro e W5284 ⟨U5282, U5283, rfl, hU5279n, hU5217n, HX5285⟩
                            refine ⟨_, rfl, ?_⟩; intro a ha; clear HW
                            clear hU5279; have hU5279 := hU5279n; clear hU5279n
                            clear hU5217; have hU5217 := hU5217n; clear hU5217n
                            have HW : Wd w W5284 (U5282 ++ (U5283 ++ (([] : Blks) ++ ([] : Blks)))) (⟨9, 1, .slice A5259 t5257.length c5260, t5257.length, encs encS t5257⟩ :: ([] : List OwnA)) := Wd.segs (ss := [U5282, U5283, ([] : Blks)]) (bt := ([] : Blks)) (m := [⟨9, 1, .slice A5259 t5257.length c5260, t5257.length, encs encS t5257⟩]) (ot := ([] : List OwnA)) [U5282, U5283, ([] : Blks)] [⟨9, 1, .slice A5259 t5257.length c5260, t5257.length, encs encS t5257⟩] HX5285 [0, 1, 2] [] [0] KR KR (by decide) KR; clear HX5285
                            refine stepp ha 100 (.bool (t5280.1 != 0)) KR KR ?_; clear ha a; intro a ha
                            refine stepp ha 101 (.bool (t5280.1 != 0)) KR KR ?_; clear ha a; intro a ha
                            by_cases hp5288 : t5280.1 = 0
                            · skip
                              replace h := ite_pos' h hp5288
                              replace ha := ha.bool 101 KR (ineq_f hp5288)
                              refine stepp ha 102 (.pointer (some ⟨b4665, 0, none⟩)) KR KR ?_; clear ha a; intro a ha
                              obtain ⟨A5289, c5290, HW⟩ := T_journal_Journal.unfold hU5279 (Wd.segs (ss := [U5282, U5283, ([] : Blks)]) (bt := ([] : Blks)) (m := [⟨9, 1, .slice A5259 t5257.length c5260, t5257.length, encs encS t5257⟩]) (ot := ([] : List OwnA)) [U5282, U5283, ([] : Blks)] [⟨9, 1, .slice A5259 t5257.length c5260, t5257.length, encs encS t5257⟩] HW [0, 1, 2] [] [0] KR KR (by decide) KR)
                              replace HW : Wd w W5284 ((b4665, .cells #[.pointer (some ⟨b4646, 0, none⟩), .int .i64 t5280.2.1.f1, .int .i64 t5280.2.1.f2, .int .i64 t5280.2.1.f3, .int .i64 t5280.2.1.f4.f2, .string t5280.2.1.f5, .slice A5289 t5280.2.1.f6.length c5290, .int .i64 t5280.2.1.f7, .bool t5280.2.1.f8, .bool t5280.2.1.f9] 57 (0, 0)) :: U5283 ++ (([] : Blks) ++ ([] : Blks))) (⟨9, 1, .slice A5289 t5280.2.1.f6.length c5290, t5280.2.1.f6.length, encs encS t5280.2.1.f6⟩ :: ⟨9, 1, .slice A5259 t5257.length c5260, t5257.length, encs encS t5257⟩ :: ([] : List OwnA)) := HW; clear hU5279
                              obtain ⟨t5292, ht5293, h_⟩ := bind_some' h; clear h; have h := h_; clear h_
                              refine stepc ha 103 KR KR (journal_Journal_Records.calls (⟨(), t5280.2.1.f1, t5280.2.1.f2, t5280.2.1.f3, (⟨(), (), t5280.2.1.f4.f2⟩ : T_atomic_Int64), t5280.2.1.f5, t5280.2.1.f6, t5280.2.1.f7, t5280.2.1.f8, t5280.2.1.f9⟩ : T_journal_Journal) A5289 c5290 b4665 b4646 t5292 _ (HW.ca (i := 0) (b := b4665) (C := #[.pointer (some ⟨b4646, 0, none⟩), .int .i64 t5280.2.1.f1, .int .i64 t5280.2.1.f2, .int .i64 t5280.2.1.f3, .int .i64 t5280.2.1.f4.f2, .string t5280.2.1.f5, .slice A5289 t5280.2.1.f6.length c5290, .int .i64 t5280.2.1.f7, .bool t5280.2.1.f8, .bool t5280.2.1.f9]) (T := 57) (fr := (0, 0)) KR) (HW.rdo (i := 0) (q := ⟨9, 1, .slice A5289 t5280.2.1.f6.length c5290, t5280.2.1.f6.length, encs encS t5280.2.1.f6⟩) KR) ht5293) ?_; clear ha a; rintro e W5297 ⟨A5294, c5295, rfl, HX5298⟩
                              refine ⟨_, rfl, ?_⟩; intro a ha; replace HW := HW.callw HX5298; clear HX5298
                              refine stepp ha 104 (.int .i64 (t5292.length : Int)) KR KR ?_; clear ha a; intro a ha
                              refine stepp ha 105 (.bool ((t5292.length : Int) != 0)) KR KR ?_; clear ha a; intro a ha
                              refine stepp ha 106 (.bool ((t5292.length : Int) != 0)) KR KR ?_; clear ha a; intro a ha
                              refine endl ?_
                              refine thenN (hK5277 _ _ ?_); clear hK5277
                              by_cases hp5299 : (t5292.length : Int) = 0
                              · skip
                                replace h := ite_pos' h hp5299
                                refine condF ha KR KR (t := ((t5292.length : Int) != 0)) (ineq_f hp5299) ?_
                                refine wp_skip ?_
                                refine blkN ?_
                                refine thenN (hK5153 _ _ ?_); clear hK5153
                                refine wp_region_lit ?_
                                refine stepp ha 57 (.int .i64 x5137) KR KR ?_; clear ha a; intro a ha
                                refine stepp ha 58 (.int .i64 (IntKind.wrap .i64 (x5137 + 1))) KR KR ?_; clear ha a; intro a ha
                                refine stepp ha 13 (.int .i64 (IntKind.wrap .i64 (x5137 + 1))) KR KR ?_; clear ha a; intro a ha
                                refine endl ?_
                                obtain ⟨U5304, hU5305, HW⟩ := T_journal_Journal.fold (x := (⟨(), t5280.2.1.f1, t5280.2.1.f2, t5280.2.1.f3, (⟨(), (), t5280.2.1.f4.f2⟩ : T_atomic_Int64), t5280.2.1.f5, t5280.2.1.f6, t5280.2.1.f7, t5280.2.1.f8, t5280.2.1.f9⟩ : T_journal_Journal)) (Wd.segs (ss := [[(b4665, .cells #[.pointer (some ⟨b4646, 0, none⟩), .int .i64 t5280.2.1.f1, .int .i64 t5280.2.1.f2, .int .i64 t5280.2.1.f3, .int .i64 t5280.2.1.f4.f2, .string t5280.2.1.f5, .slice A5289 t5280.2.1.f6.length c5290, .int .i64 t5280.2.1.f7, .bool t5280.2.1.f8, .bool t5280.2.1.f9] 57 (0, 0))], U5283, ([] : Blks)]) (bt := ([] : Blks)) (m := [⟨9, 1, .slice A5294 t5292.length c5295, t5292.length, encs encS t5292⟩, ⟨9, 1, .slice A5289 t5280.2.1.f6.length c5290, t5280.2.1.f6.length, encs encS t5280.2.1.f6⟩, ⟨9, 1, .slice A5259 t5257.length c5260, t5257.length, encs encS t5257⟩]) (ot := ([] : List OwnA)) [[(b4665, .cells #[.pointer (some ⟨b4646, 0, none⟩), .int .i64 t5280.2.1.f1, .int .i64 t5280.2.1.f2, .int .i64 t5280.2.1.f3, .int .i64 t5280.2.1.f4.f2, .string t5280.2.1.f5, .slice A5289 t5280.2.1.f6.length c5290, .int .i64 t5280.2.1.f7, .bool t5280.2.1.f8, .bool t5280.2.1.f9] 57 (0, 0))], U5283, ([] : Blks)] [⟨9, 1, .slice A5289 t5280.2.1.f6.length c5290, t5280.2.1.f6.length, encs encS t5280.2.1.f6⟩, ⟨9, 1, .slice A5294 t5292.length c5295, t5292.length, encs encS t5292⟩, ⟨9, 1, .slice A5259 t5257.length c5260, t5257.length, encs encS t5257⟩] HW [0, 1, 2] [] [1, 0, 2] KR KR (by decide) KR)
                                replace HW := Wd.segs (ss := [U5304, U5283, ([] : Blks)]) (bt := ([] : Blks)) (m := [⟨9, 1, .slice A5294 t5292.length c5295, t5292.length, encs encS t5292⟩, ⟨9, 1, .slice A5259 t5257.length c5260, t5257.length, encs encS t5257⟩]) (ot := ([] : List OwnA)) [U5304, U5283, ([] : Blks)] [⟨9, 1, .slice A5294 t5292.length c5295, t5292.length, encs encS t5292⟩, ⟨9, 1, .slice A5259 t5257.length c5260, t5257.length, encs encS t5257⟩] HW [0, 1, 2] [] [0, 1] KR KR (by decide) KR
                                replace HW : Wd w W5297 (U5304 ++ (U5283 ++ (([] : Blks) ++ ([] : Blks)))) (⟨9, 1, .slice A5294 t5292.length c5295, t5292.length, encs encS t5292⟩ :: ⟨9, 1, .slice A5259 t5257.length c5260, t5257.length, encs encS t5257⟩ :: ([] : List OwnA)) := HW
                                exact thenN ⟨k5145, Nat.lt_succ_self k5145, IntKind.wrap .i64 (x5137 + 1), (⟨(), t5280.2.1.f1, t5280.2.1.f2, t5280.2.1.f3, (⟨(), (), t5280.2.1.f4.f2⟩ : T_atomic_Int64), t5280.2.1.f5, t5280.2.1.f6, t5280.2.1.f7, t5280.2.1.f8, t5280.2.1.f9⟩ : T_journal_Journal), U5304, t5280.2.2, U5283, (by rw [← hag5146]; exact h), ha.sub (subs_cons KR (subs_cons KR (subs_cons KR (subs_cons KR (subs_cons KR (subs_nil _)))))), (Wd.segs (ss := [U5304, U5283, ([] : Blks)]) (bt := ([] : Blks)) (m := [⟨9, 1, .slice A5294 t5292.length c5295, t5292.length, encs encS t5292⟩, ⟨9, 1, .slice A5259 t5257.length c5260, t5257.length, encs encS t5257⟩]) (ot := ([] : List OwnA)) [U5304, U5283, ([] : Blks)] [] HW [0, 1, 2] [] [] KR KR (by decide) KR), hU5305, hU5217⟩
                              · skip
                                replace h := ite_neg' h hp5299
                                refine condT ha KR KR (t := ((t5292.length : Int) != 0)) (ineq_t hp5299) ?_
                                refine wp_seq_k (fun K5300 hK5301 => ?_)
                                refine wp_region_lit ?_
                                refine stepp ha 4 (.bool false) KR KR ?_; clear ha a; intro a ha
                                refine endl ?_
                                refine thenN (hK5301 _ _ ?_); clear hK5301
                                refine wp_ret ?_
                                refine blkR ?_
                                refine thenR ?_
                                refine thenR ?_
                                refine blkR ?_
                                refine thenR ?_
                                obtain rfl := Option.some.inj h
                                exact finv ha _ _ rfl (.tmp (v := .bool false) KR .nil) (.bool false) rfl ⟨rfl, HW.pick [] [] (by decide) (by decide) rfl KR⟩
                            · skip
                              replace h := ite_neg' h hp5288
                              replace ha := ha.bool 101 KR (ineq_t hp5288)
                              refine stepo ha 102 KR ?_; clear ha a; intro a ha
                              refine stepo ha 103 KR ?_; clear ha a; intro a ha
                              refine stepo ha 104 KR ?_; clear ha a; intro a ha
                              refine stepo ha 105 KR ?_; clear ha a; intro a ha
                              refine stepp ha 106 (.bool true) KR KR ?_; clear ha a; intro a ha
                              refine endl ?_
                              refine thenN (hK5277 _ _ ?_); clear hK5277
                              refine condT ha KR KR (t := true) (rfl) ?_
                              refine wp_seq_k (fun K5302 hK5303 => ?_)
                              refine wp_region_lit ?_
                              refine stepp ha 4 (.bool false) KR KR ?_; clear ha a; intro a ha
                              refine endl ?_
                              refine thenN (hK5303 _ _ ?_); clear hK5303
                              refine wp_ret ?_
                              refine blkR ?_
                              refine thenR ?_
                              refine thenR ?_
                              refine blkR ?_
                              refine thenR ?_
                              obtain rfl := Option.some.inj h
                              exact finv ha _ _ rfl (.tmp (v := .bool false) KR .nil) (.bool false) rfl ⟨rfl, HW.pick [] [] (by decide) (by decide) rfl KR⟩
                          · skip
                            replace h := ite_neg' h hp5269
                            refine condT ha KR KR (t := (t5265 != (IntKind.wrap .i64 ((IntKind.wrap .i64 ((IntKind.wrap .i64 (Int.tdiv (IntKind.wrap .i64 ((IntKind.wrap .i64 (8 + t4624)) - 4)) 2)) - 1)) - (IntKind.wrap .i64 ((IntKind.wrap .i64 (Int.tdiv (IntKind.wrap .i64 ((IntKind.wrap .i64 (Int.tdiv (IntKind.wrap .i64 ((IntKind.wrap .i64 (8 + t4624)) - 4)) 2)) - 1)) (IntKind.wrap .i64 (Int.tdiv (IntKind.wrap .i64 ((IntKind.wrap .i64 (24 + t4628)) + 511)) 512)))) * (IntKind.wrap .i64 (Int.tdiv (IntKind.wrap .i64 ((IntKind.wrap .i64 (24 + t4628)) + 511)) 512)))))))) (ineq_t hp5269) ?_
                            refine wp_seq_k (fun K5270 hK5271 => ?_)
                            refine wp_region_lit ?_
                            refine stepp ha 4 (.bool false) KR KR ?_; clear ha a; intro a ha
                            refine endl ?_
                            refine thenN (hK5271 _ _ ?_); clear hK5271
                            refine wp_ret ?_
                            refine thenR ?_
                            refine blkR ?_
                            refine thenR ?_
                            refine thenR ?_
                            refine blkR ?_
                            refine thenR ?_
                            obtain rfl := Option.some.inj h
                            exact finv ha _ _ rfl (.tmp (v := .bool false) KR .nil) (.bool false) rfl ⟨rfl, HW.pick [] [] (by decide) (by decide) rfl KR⟩
                        · skip
                          replace h := ite_neg' h hp5264
                          replace ha := ha.bool 85 KR (ineq_t hp5264)
                          refine stepo ha 86 KR ?_; clear ha a; intro a ha
                          refine stepo ha 87 KR ?_; clear ha a; intro a ha
                          refine stepo ha 88 KR ?_; clear ha a; intro a ha
                          refine stepo ha 89 KR ?_; clear ha a; intro a ha
                          refine stepo ha 90 KR ?_; clear ha a; intro a ha
                          refine stepo ha 91 KR ?_; clear ha a; intro a ha
                          refine stepo ha 92 KR ?_; clear ha a; intro a ha
                          refine stepo ha 93 KR ?_; clear ha a; intro a ha
                          refine stepo ha 94 KR ?_; clear ha a; intro a ha
                          refine stepo ha 95 KR ?_; clear ha a; intro a ha
                          refine stepo ha 96 KR ?_; clear ha a; intro a ha
                          refine stepp ha 97 (.bool true) KR KR ?_; clear ha a; intro a ha
                          refine endl ?_
                          refine thenN (hK5244 _ _ ?_); clear hK5244
                          refine condT ha KR KR (t := true) (rfl) ?_
                          refine wp_seq_k (fun K5272 hK5273 => ?_)
                          refine wp_region_lit ?_
                          refine stepp ha 4 (.bool false) KR KR ?_; clear ha a; intro a ha
                          refine endl ?_
                          refine thenN (hK5273 _ _ ?_); clear hK5273
                          refine wp_ret ?_
                          refine thenR ?_
                          refine blkR ?_
                          refine thenR ?_
                          refine thenR ?_
                          refine blkR ?_
                          refine thenR ?_
                          obtain rfl := Option.some.inj h
                          exact finv ha _ _ rfl (.tmp (v := .bool false) KR .nil) (.bool false) rfl ⟨rfl, HW.pick [] [] (by decide) (by decide) rfl KR⟩
                      · skip
                        replace h := ite_neg' h hp5253
                        replace ha := ha.bool 78 KR (ineq_t hp5253)
                        refine stepo ha 79 KR ?_; clear ha a; intro a ha
                        refine stepo ha 80 KR ?_; clear ha a; intro a ha
                        refine stepo ha 81 KR ?_; clear ha a; intro a ha
                        refine stepo ha 82 KR ?_; clear ha a; intro a ha
                        refine stepo ha 83 KR ?_; clear ha a; intro a ha
                        refine stepp ha 84 (.bool true) KR KR ?_; clear ha a; intro a ha
                        refine stepp ha 85 (.bool true) KR KR ?_; clear ha a; intro a ha
                        refine stepo ha 86 KR ?_; clear ha a; intro a ha
                        refine stepo ha 87 KR ?_; clear ha a; intro a ha
                        refine stepo ha 88 KR ?_; clear ha a; intro a ha
                        refine stepo ha 89 KR ?_; clear ha a; intro a ha
                        refine stepo ha 90 KR ?_; clear ha a; intro a ha
                        refine stepo ha 91 KR ?_; clear ha a; intro a ha
                        refine stepo ha 92 KR ?_; clear ha a; intro a ha
                        refine stepo ha 93 KR ?_; clear ha a; intro a ha
                        refine stepo ha 94 KR ?_; clear ha a; intro a ha
                        refine stepo ha 95 KR ?_; clear ha a; intro a ha
                        refine stepo ha 96 KR ?_; clear ha a; intro a ha
                        refine stepp ha 97 (.bool true) KR KR ?_; clear ha a; intro a ha
                        refine endl ?_
                        refine thenN (hK5244 _ _ ?_); clear hK5244
                        refine condT ha KR KR (t := true) (rfl) ?_
                        refine wp_seq_k (fun K5274 hK5275 => ?_)
                        refine wp_region_lit ?_
                        refine stepp ha 4 (.bool false) KR KR ?_; clear ha a; intro a ha
                        refine endl ?_
                        refine thenN (hK5275 _ _ ?_); clear hK5275
                        refine wp_ret ?_
                        refine thenR ?_
                        refine blkR ?_
                        refine thenR ?_
                        refine thenR ?_
                        refine blkR ?_
                        refine thenR ?_
                        obtain rfl := Option.some.inj h
                        exact finv ha _ _ rfl (.tmp (v := .bool false) KR .nil) (.bool false) rfl ⟨rfl, HW.pick [] [] (by decide) (by decide) rfl KR⟩
              · skip
                replace h := ite_neg' h hp5151
                refine condF ha KR KR (t := decide (x5137 < 3)) (decide_eq_false hp5151) ?_
                refine wp_exit ?_
                refine thenE ?_
                refine thenE ?_
                refine inBlk ?_
                refine thenN (hK4807 _ _ ?_); clear hK4807
                refine wp_seq_k (fun K5306 hK5307 => ?_)
                refine wp_region_lit ?_
                obtain ⟨t5308, ht5309, h_⟩ := bind_some' h; clear h; have h := h_; clear h_
                refine stepc ha 107 KR KR (headgatelaw06_wakes.calls t5308 _ (HW.ca0 hG1) ht5309) ?_; clear ha a; rintro e W5310 ⟨rfl, HX5311⟩
                refine ⟨_, rfl, ?_⟩; intro a ha; replace HW := HW.callw HX5311; clear HX5311
                refine stepp ha 4 (.bool t5308) KR KR ?_; clear ha a; intro a ha
                refine endl ?_
                refine thenN (hK5307 _ _ ?_); clear hK5307
                refine wp_ret ?_
                obtain rfl := Option.some.inj h
                exact finv ha _ _ rfl (.tmp (v := .bool t5308) KR .nil) (.bool t5308) rfl ⟨rfl, HW.pick [] [] (by decide) (by decide) rfl KR⟩
end Go.Proofs.YtokdiacjcbolfaaDoor.F
namespace Go.Proofs.YtokdiacjcbolfaaDoor.F
open Go Go.RowKit Go.Proofs.YtokdiacjcbolfaaDoor.X
set_option linter.unusedVariables false
set_option linter.unusedSimpArgs false
end Go.Proofs.YtokdiacjcbolfaaDoor.F
namespace Go.Proofs.YtokdiacjcbolfaaDoor.X
open Go Go.RowKit
set_option linter.unusedVariables false
set_option linter.unusedSimpArgs false
theorem wrapi64 (n : Int) : IntKind.wrap .i64 n = (n + 9223372036854775808) % 18446744073709551616 - 9223372036854775808 := by
  have e : IntKind.wrap .i64 n = if n % 18446744073709551616 ≥ 9223372036854775808 then n % 18446744073709551616 - 18446744073709551616 else n % 18446744073709551616 := by
    simp [IntKind.wrap, IntKind.bits, IntKind.signed]
  rw [e]
  split <;> omega
theorem wrapu64 (n : Int) : IntKind.wrap .u64 n = n % 18446744073709551616 := by simp [IntKind.wrap, IntKind.bits, IntKind.signed]
theorem wrapu32 (n : Int) : IntKind.wrap .u32 n = n % 4294967296 := by simp [IntKind.wrap, IntKind.bits, IntKind.signed]
theorem wrapu8 (n : Int) : IntKind.wrap .u8 n = n % 256 := by simp [IntKind.wrap, IntKind.bits, IntKind.signed]
theorem wi {n : Int} (h1 : -9223372036854775808 ≤ n) (h2 : n ≤ 9223372036854775807) : IntKind.wrap .i64 n = n := by rw [wrapi64]; omega
theorem wu {n : Int} (h1 : 0 ≤ n) (h2 : n ≤ 18446744073709551615) : IntKind.wrap .u64 n = n := by rw [wrapu64]; omega
def le (s : ByteArray) (at_ : Int) : Nat → Int
  | 0 => 0
  | n + 1 => le s at_ n + bt s (at_ + n) * 256 ^ n
end Go.Proofs.YtokdiacjcbolfaaDoor.X
namespace Go.Proofs.YtokdiacjcbolfaaDoor.F
open Go Go.RowKit Go.Proofs.YtokdiacjcbolfaaDoor.X
set_option linter.unusedVariables false
set_option linter.unusedSimpArgs false
end Go.Proofs.YtokdiacjcbolfaaDoor.F
namespace Go.Proofs.YtokdiacjcbolfaaDoor.F
open Go Go.RowKit Go.Proofs.YtokdiacjcbolfaaDoor.X
set_option linter.unusedVariables false
set_option linter.unusedSimpArgs false
abbrev NB : ByteArray := ⟨#[]⟩
def ZS : ByteArray := strOfNums (List.replicate (512 : Int).toNat (0 : Int))
theorem NB_ne {s : ByteArray} (h : s.size = 512) : s ≠ NB := by rintro rfl; cases h
abbrev Held := List (Nat × ByteArray)
def lastOf (hs : Held) (i : Nat) : ByteArray := hs.foldl (fun o h => if h.1 = i then h.2 else o) NB
theorem lastOf_snoc (hs : Held) (h : Nat × ByteArray) (i : Nat) : lastOf (hs ++ [h]) i = if h.1 = i then h.2 else lastOf hs i := by simp [lastOf, List.foldl_append]
def ats (hs : Held) (i : Nat) : Prop := ∃ h ∈ hs, h.1 = i
theorem lastOf_ats (hs : Held) (i : Nat) (hok : ∀ h ∈ hs, h.2.size = 512) : (ats hs i ∧ (lastOf hs i).size = 512) ∨ (¬ ats hs i ∧ lastOf hs i = NB) := by
  have key : ∀ (r : Held), (∀ h ∈ r, h.2.size = 512) → (ats r.reverse i ∧ (lastOf r.reverse i).size = 512) ∨ (¬ ats r.reverse i ∧ lastOf r.reverse i = NB) := by
    intro r
    induction r with
    | nil => intro _; exact .inr ⟨fun ⟨h, hh, _⟩ => by simp at hh, rfl⟩
    | cons h r ih =>
      intro hk
      rw [List.reverse_cons, lastOf_snoc]
      by_cases e : h.1 = i
      · rw [if_pos e]
        exact .inl ⟨⟨h, by simp, e⟩, hk h List.mem_cons_self⟩
      · rw [if_neg e]
        rcases ih (fun x hx => hk x (List.mem_cons_of_mem _ hx)) with ⟨⟨x, hx, hxe⟩, h2⟩ | ⟨h1, h2⟩
        · exact .inl ⟨⟨x, by simp at hx ⊢; exact .inl hx, hxe⟩, h2⟩
        · refine .inr ⟨fun ⟨x, hx, hxe⟩ => ?_, h2⟩
          simp only [List.mem_append, List.mem_singleton] at hx
          rcases hx with hx | hx
          · exact h1 ⟨x, hx, hxe⟩
          · subst hx; exact e hxe
  have := key hs.reverse (fun h hh => hok h (List.mem_reverse.mp hh))
  rwa [List.reverse_reverse] at this
structure DRel (N : Nat) (D : T_dev_Dev) (c : Nat → ByteArray) (hs : Held) : Prop where
  n1 : 1 ≤ N
  n2 : N ≤ 8192
  l0 : D.f0.length = N
  l1 : D.f1.length = N
  safe : ∀ i, i < N → (D.f0.getD i NB = NB ∧ c i = ZS) ∨ ((D.f0.getD i NB).size = 512 ∧ c i = D.f0.getD i NB)
  now : ∀ i, i < N → D.f1.getD i NB = lastOf hs i
  held : D.f2 = hs.map fun h => (⟨(h.1 : Int), h.2⟩ : T_dev_held)
  hok : ∀ h ∈ hs, h.1 < N ∧ h.2.size = 512
def view (c : Nat → ByteArray) (hs : Held) (i : Nat) : ByteArray := if lastOf hs i = NB then c i else lastOf hs i
section
variable {N : Nat} {D : T_dev_Dev} {c : Nat → ByteArray} {hs : Held}
theorem DRel.hsize (h : DRel N D c hs) : ∀ x ∈ hs, x.2.size = 512 := fun x hx => (h.hok x hx).2
theorem dev_eta (D : T_dev_Dev) : (⟨D.f0, D.f1, D.f2, (⟨(), (), D.f3.f2⟩ : T_atomic_Int64), D.f4, D.f5, D.f6⟩ : T_dev_Dev) = D := rfl
theorem rdN (l : List ByteArray) (i : Nat) : rdL (⟨#[]⟩ : ByteArray) l (i : Int) = l.getD i NB := rfl
end
theorem new_run (n : Nat) (h1 : 1 ≤ n) (h2 : n ≤ 8192) : ∃ D, dev_New.f (n : Int) = some (some D, 0) ∧ DRel n D (fun _ => ZS) [] ∧ D.f6 = false ∧ D.f4 = false := by
  unfold dev_New.f
  rw [if_neg (by omega), if_neg (by omega), asrt_pos (by omega), asrt_pos (by omega)]
  refine ⟨_, rfl, ⟨h1, h2, by simp, by simp, fun i hi => .inl ⟨?_, rfl⟩, fun i hi => ?_, rfl, fun h hh => by cases hh⟩, rfl, rfl⟩
  · simp [List.getD_eq_getElem?_getD, hi]
  · simp [List.getD_eq_getElem?_getD, hi]; rfl
def Fl (D : T_dev_Dev) (lf : Option Nat) : Prop := D.f6 = false ∧ match lf with
  | none => D.f4 = false
  | some k => D.f4 = true ∧ D.f5 = (k : Int) ∧ k ≤ 1000000
def less (lf : Option Nat) (m : Nat) : Option Nat := lf.map (· - m)
def can (lf : Option Nat) (m : Nat) : Bool := match lf with
  | none => true
  | some k => decide (m ≤ k)
theorem operation_run (K : Nat) {N : Nat} {D : T_dev_Dev} {c : Nat → ByteArray} {hs : Held} {lf : Option Nat} (h : DRel N D c hs) (hf : Fl D lf) : ∃ D', dev_Dev_operation.f K D = some (can lf 1, D') ∧ DRel N D' c hs ∧ (can lf 1 = true → Fl D' (less lf 1)) ∧ (can lf 1 = false → D'.f6 = true) := by
  unfold dev_Dev_operation.f
  obtain ⟨h6, h4⟩ := hf
  rw [if_neg (by rw [h6]; simp)]
  cases lf with
  | none =>
    simp only at h4
    rw [if_neg (by rw [h4]; simp)]
    exact ⟨_, rfl, ⟨h.n1, h.n2, h.l0, h.l1, h.safe, h.now, h.held, h.hok⟩, fun _ => ⟨h6, h4⟩, (fun hx => nomatch hx)⟩
  | some k =>
    obtain ⟨h4, h5, hk⟩ := h4
    rw [if_pos h4]
    by_cases hz : k = 0
    · subst hz
      rw [if_pos (by rw [h5]; rfl)]
      exact ⟨_, rfl, ⟨h.n1, h.n2, h.l0, h.l1, h.safe, h.now, h.held, h.hok⟩, (fun hx => nomatch hx), fun _ => rfl⟩
    · rw [if_neg (by rw [h5]; omega)]
      have hc : can (some k) 1 = true := by simp [can]; omega
      rw [hc]
      refine ⟨_, rfl, ⟨h.n1, h.n2, h.l0, h.l1, h.safe, h.now, h.held, h.hok⟩, fun _ => ⟨h6, h4, ?_, by show k - 1 ≤ _; omega⟩, (fun hx => nomatch hx)⟩
      show IntKind.wrap .i64 (D.f5 - 1) = ((k - 1 : Nat) : Int)
      rw [h5, wi (by omega) (by omega)]
      omega
def chunk (data : ByteArray) (i : Nat) : ByteArray := data.extract (i * 512) ((i + 1) * 512)
def chunks (data : ByteArray) (at_ : Nat) : Nat → Nat → Held
  | _, 0 => []
  | i, r + 1 => (at_ + i, chunk data i) :: chunks data at_ (i + 1) r
theorem chunk_size (data : ByteArray) (i : Nat) (h : (i + 1) * 512 ≤ data.size) : (chunk data i).size = 512 := by
  unfold chunk
  rw [ByteArray.size_extract]
  omega
def doneN (lf : Option Nat) (m : Nat) : Nat := match lf with
  | none => m
  | some k => min m k
theorem getD_set {l : List ByteArray} {j : Nat} {v : ByteArray} (hj : j < l.length) (i : Nat) : (l.set j v).getD i NB = if j = i then v else l.getD i NB := by
  rw [List.getD_eq_getElem?_getD, List.getElem?_set]
  by_cases e : j = i
  · subst e; simp [hj]
  · simp [e, List.getD_eq_getElem?_getD]
theorem tdiv512 (s m : Nat) (h : s = m * 512) : Int.tdiv (s : Int) 512 = (m : Int) := by
  rw [Int.tdiv_eq_ediv_of_nonneg (by omega), h]
  omega
theorem tmod512 (s m : Nat) (h : s = m * 512) : Int.tmod (s : Int) 512 = 0 := by
  rw [Int.tmod_eq_emod_of_nonneg (by omega), h]
  omega
theorem DRel.snoc {N : Nat} {D : T_dev_Dev} {c : Nat → ByteArray} {hs : Held} (h : DRel N D c hs) {j : Nat} {v : ByteArray} (hj : j < N) (hv : v.size = 512) (ops : Int) (f4 : Bool) (f5 : Int) (f6 : Bool) :
    DRel N (⟨D.f0, D.f1.set j v, D.f2 ++ [(⟨(j : Int), v⟩ : T_dev_held)], (⟨(), (), ops⟩ : T_atomic_Int64), f4, f5, f6⟩ : T_dev_Dev) c (hs ++ [(j, v)]) := by
  refine ⟨h.n1, h.n2, h.l0, by simp [h.l1], h.safe, fun i hi => ?_, ?_, fun x hx => ?_⟩
  · rw [lastOf_snoc]
    show (D.f1.set j v).getD i NB = _
    rw [getD_set (by rw [h.l1]; exact hj), h.now i hi]
  · show D.f2 ++ _ = _
    rw [h.held, List.map_append]
    rfl
  · rcases List.mem_append.mp hx with hx | hx
    · exact h.hok x hx
    · rw [List.mem_singleton.mp hx]
      exact ⟨hj, hv⟩
theorem write_loop (K : Nat) {N : Nat} {c : Nat → ByteArray} (at_ m : Nat) (data : ByteArray) (hm : data.size = m * 512) (hN : at_ + m ≤ N) (hN2 : N ≤ 8192) : ∀ (r k i : Nat) (D : T_dev_Dev) (hs : Held) (lf : Option Nat), i + r = m → r < k → DRel N D c hs → Fl D lf → hs.length + r ≤ 1000000 →
    ∃ D', dev_Dev_Write.l0 K (at_ : Int) data k (i : Int) D.f0 D.f1 D.f2 D.f3.f2 D.f4 D.f5 D.f6 = some (if can lf r then 0 else 41, D') ∧ DRel N D' c (hs ++ chunks data at_ i (doneN lf r)) ∧ (can lf r = true → Fl D' (less lf r)) ∧ (can lf r = false → D'.f6 = true)
  | 0, k + 1, i, D, hs, lf, h1, h2, h, hf, hh => by
    refine ⟨D, ?_, ?_, fun _ => ?_, fun hx => ?_⟩
    · show dev_Dev_Write.b0 K (at_ : Int) data (dev_Dev_Write.l0 K (at_ : Int) data k) (i : Int) D.f0 D.f1 D.f2 D.f3.f2 D.f4 D.f5 D.f6 = _
      unfold dev_Dev_Write.b0
      have hq := tdiv512 data.size m hm
      rw [if_neg (by rw [hq, wi (by omega) (by omega)]; omega)]
      have : can lf 0 = true := by cases lf <;> simp [can]
      rw [this]
      rfl
    · have : doneN lf 0 = 0 := by cases lf <;> simp [doneN]
      rw [this]
      show DRel N D c (hs ++ [])
      rw [List.append_nil]
      exact h
    · have : less lf 0 = lf := by cases lf <;> simp [less]
      rw [this]; exact hf
    · have : can lf 0 = true := by cases lf <;> simp [can]
      rw [this] at hx; cases hx
  | r + 1, k + 1, i, D, hs, lf, h1, h2, h, hf, hh => by
    show ∃ D', dev_Dev_Write.b0 K (at_ : Int) data (dev_Dev_Write.l0 K (at_ : Int) data k) (i : Int) D.f0 D.f1 D.f2 D.f3.f2 D.f4 D.f5 D.f6 = _ ∧ _
    unfold dev_Dev_Write.b0
    have hq := tdiv512 data.size m hm
    rw [if_pos (by rw [hq, wi (by omega) (by omega)]; omega), dev_eta]
    obtain ⟨D1, e1, e2, e3, e4⟩ := operation_run K h hf
    rw [e1]
    simp only [Option.bind_some]
    by_cases hc : can lf 1 = true
    · rw [if_pos hc]
      have hf1 := e3 hc
      have hs512 := chunk_size data i (by rw [hm]; omega)
      have w1 : IntKind.wrap .i64 ((i : Int) * 512) = ((i * 512 : Nat) : Int) := by rw [wi (by omega) (by omega)]; omega
      have w2 : IntKind.wrap .i64 (IntKind.wrap .i64 ((i : Int) + 1) * 512) = (((i + 1) * 512 : Nat) : Int) := by rw [wi (n := (i : Int) + 1) (by omega) (by omega), wi (by omega) (by omega)]; omega
      have w3 : IntKind.wrap .i64 ((at_ : Int) + (i : Int)) = ((at_ + i : Nat) : Int) := by rw [wi (by omega) (by omega)]; omega
      rw [w1, w2, w3]
      have hext : data.extract (((i * 512 : Nat) : Int) : Int).toNat ((((i + 1) * 512 : Nat) : Int) : Int).toNat = chunk data i := rfl
      rw [hext]
      have hlen : D1.f2.length = hs.length := by rw [e2.held, List.length_map]
      rw [asrt_pos (by omega), asrt_pos (by omega), asrt_pos (by rw [hm]; omega), asrt_pos (by rw [hlen]; simp; omega), asrt_pos (by omega), asrt_pos (by rw [e2.l1]; omega)]
      rw [wi (by omega) (by omega), show (i : Int) + 1 = ((i + 1 : Nat) : Int) by omega]
      have hsn := e2.snoc (j := at_ + i) (v := chunk data i) (by omega) hs512 D1.f3.f2 D1.f4 D1.f5 D1.f6
      have hfn : Fl (⟨D1.f0, D1.f1.set (at_ + i) (chunk data i), D1.f2 ++ [(⟨((at_ + i : Nat) : Int), chunk data i⟩ : T_dev_held)], (⟨(), (), D1.f3.f2⟩ : T_atomic_Int64), D1.f4, D1.f5, D1.f6⟩ : T_dev_Dev) (less lf 1) := hf1
      obtain ⟨D', g1, g2, g3, g4⟩ := write_loop K at_ m data hm hN hN2 r k (i + 1) _ _ _ (by omega) (by omega) hsn hfn (by simp; omega)
      have c1 : can lf (r + 1) = can (less lf 1) r := by
        cases lf with
        | none => rfl
        | some q =>
          have : 1 ≤ q := by simpa [can] using hc
          simp only [can, less, Option.map_some, decide_eq_decide]
          omega
      have c2 : doneN lf (r + 1) = doneN (less lf 1) r + 1 := by
        cases lf with
        | none => rfl
        | some q =>
          have : 1 ≤ q := by simpa [can] using hc
          simp only [doneN, less, Option.map_some]
          omega
      have c3 : less lf (r + 1) = less (less lf 1) r := by
        cases lf with
        | none => rfl
        | some q => simp only [less, Option.map_some]; congr 1; omega
      rw [c1, c2, c3]
      refine ⟨D', g1, ?_, g3, g4⟩
      rw [List.append_assoc] at g2
      exact g2
    · have hc' : can lf 1 = false := by simpa using hc
      rw [if_neg hc]
      have c1 : can lf (r + 1) = false := by
        cases lf with
        | none => simp [can] at hc'
        | some q => simp [can] at hc' ⊢; omega
      have c2 : doneN lf (r + 1) = 0 := by
        cases lf with
        | none => simp [can] at hc'
        | some q => simp [can] at hc'; simp only [doneN]; omega
      rw [c1, c2]
      refine ⟨D1, rfl, ?_, fun hx => (by cases hx), fun _ => e4 hc'⟩
      show DRel N D1 c (hs ++ [])
      rw [List.append_nil]
      exact e2
  | _, 0, i, D, hs, lf, h1, h2, h, hf, hh => by omega
theorem write_run (K : Nat) {N : Nat} {c : Nat → ByteArray} {D : T_dev_Dev} {hs : Held} {lf : Option Nat} (h : DRel N D c hs) (hf : Fl D lf) (at_ m : Nat) (data : ByteArray) (hm : data.size = m * 512) (hN : at_ + m ≤ N) (hh : hs.length + m ≤ 1000000) (hK : m < K) :
    ∃ D', dev_Dev_Write.f K D (at_ : Int) data = some (if can lf m then 0 else 41, D') ∧ DRel N D' c (hs ++ chunks data at_ 0 (doneN lf m)) ∧ (can lf m = true → Fl D' (less lf m)) ∧ (can lf m = false → D'.f6 = true) := by
  have hN2 := h.n2
  have e1 := tmod512 data.size m hm
  have e2 := tdiv512 data.size m hm
  unfold dev_Dev_Write.f
  rw [if_pos e1, if_neg (by omega), if_neg (by rw [h.l0]; omega), dev_eta]
  unfold dev_Dev_Write.j0
  rw [if_neg (by rw [e2, h.l0, wi (by omega) (by omega), wi (by omega) (by omega)]; simp; omega), if_neg (by rw [hf.1]; simp)]
  exact write_loop K at_ m data hm hN hN2 m K 0 D hs lf (by omega) hK h hf hh
def done (hs : Held) (j i : Nat) : Prop := ∃ q, q < j ∧ ∃ h, hs[q]? = some h ∧ h.1 = i
theorem done_step {hs : Held} {j : Nat} {h : Nat × ByteArray} (hj : hs[j]? = some h) (i : Nat) : done hs (j + 1) i ↔ h.1 = i ∨ done hs j i := by
  constructor
  · rintro ⟨q, hq, x, hx, e⟩
    by_cases e2 : q = j
    · subst e2; rw [hj] at hx; cases hx; exact .inl e
    · exact .inr ⟨q, by omega, x, hx, e⟩
  · rintro (e | ⟨q, hq, x, hx, e⟩)
    · exact ⟨j, by omega, h, hj, e⟩
    · exact ⟨q, by omega, x, hx, e⟩
theorem done_all {hs : Held} (i : Nat) : done hs hs.length i ↔ ats hs i := by
  constructor
  · rintro ⟨q, _, x, hx, e⟩; exact ⟨x, List.mem_of_getElem? hx, e⟩
  · rintro ⟨x, hx, e⟩
    obtain ⟨q, hq⟩ := List.getElem?_of_mem hx
    exact ⟨q, (List.getElem?_eq_some_iff.1 hq).1, x, hq, e⟩
theorem heldAt {D : T_dev_Dev} {hs : Held} (hd : D.f2 = hs.map fun h => (⟨(h.1 : Int), h.2⟩ : T_dev_held)) {j : Nat} {h : Nat × ByteArray} (hj : hs[j]? = some h) : rdL T_dev_held.z D.f2 (j : Int) = ⟨(h.1 : Int), h.2⟩ := by
  unfold rdL
  rw [hd, Int.toNat_natCast, List.getD_eq_getElem?_getD, List.getElem?_map, hj]
  rfl
open Classical in
noncomputable def setS (D : T_dev_Dev) (hs : Held) (j i : Nat) : ByteArray := if done hs j i ∧ D.f1.getD i NB ≠ NB then D.f1.getD i NB else D.f0.getD i NB
open Classical in
noncomputable def setN (D : T_dev_Dev) (hs : Held) (j i : Nat) : ByteArray := if done hs j i then NB else D.f1.getD i NB
theorem settle_loop (K : Nat) {N : Nat} (D : T_dev_Dev) (hs : Held) (hd : D.f2 = hs.map fun h => (⟨(h.1 : Int), h.2⟩ : T_dev_held)) (hok : ∀ h ∈ hs, h.1 < N) (hlen : hs.length ≤ 1000000) : ∀ (r k j : Nat) (S W : List ByteArray), j + r = hs.length → r < k → S.length = N → W.length = N → (∀ i, i < N → S.getD i NB = setS D hs j i) → (∀ i, i < N → W.getD i NB = setN D hs j i) →
    ∃ S' W', dev_Dev_settle.l0 K D k (j : Int) S W = some (⟨S', W', ([] : List T_dev_held), (⟨(), (), D.f3.f2⟩ : T_atomic_Int64), D.f4, D.f5, D.f6⟩ : T_dev_Dev) ∧ S'.length = N ∧ W'.length = N ∧ (∀ i, i < N → S'.getD i NB = setS D hs hs.length i) ∧ (∀ i, i < N → W'.getD i NB = setN D hs hs.length i)
  | 0, k + 1, j, S, W, h1, h2, h3, h4, h5, h6 => by
    have hj : j = hs.length := by omega
    subst hj
    refine ⟨S, W, ?_, h3, h4, h5, h6⟩
    show dev_Dev_settle.b0 K D (dev_Dev_settle.l0 K D k) (hs.length : Int) S W = _
    unfold dev_Dev_settle.b0
    rw [if_neg (by rw [hd, List.length_map]; omega)]
  | r + 1, k + 1, j, S, W, h1, h2, h3, h4, h5, h6 => by
    obtain ⟨h, hj⟩ : ∃ h, hs[j]? = some h := ⟨hs[j]'(by omega), List.getElem?_eq_getElem (by omega)⟩
    have hhN := hok h (List.mem_of_getElem? hj)
    show ∃ S' W', dev_Dev_settle.b0 K D (dev_Dev_settle.l0 K D k) (j : Int) S W = _ ∧ _
    unfold dev_Dev_settle.b0
    rw [if_pos (by rw [hd, List.length_map]; omega), asrt_pos (by omega), heldAt hd hj]
    simp only
    have w1 : IntKind.wrap .i64 ((j : Int) + 1) = ((j + 1 : Nat) : Int) := by rw [wi (by omega) (by omega)]; omega
    rw [asrt_pos (by omega), asrt_pos (by rw [h4]; omega), rdN, w1]
    by_cases he : W.getD h.1 NB = NB
    · rw [if_pos he]
      refine settle_loop K D hs hd hok hlen r k (j + 1) S W (by omega) (by omega) h3 h4 (fun i hi => ?_) (fun i hi => ?_)
      · rw [h5 i hi]
        unfold setS
        by_cases e : h.1 = i
        · subst e
          rw [h6 h.1 hi] at he
          unfold setN at he
          by_cases hdn : done hs j h.1
          · have : done hs (j + 1) h.1 := (done_step hj _).mpr (.inr hdn)
            simp [hdn, this]
          · rw [if_neg hdn] at he
            rw [he]; simp
        · have : done hs (j + 1) i = done hs j i := propext (by rw [done_step hj]; simp [e])
          rw [this]
      · by_cases e : h.1 = i
        · subst e
          have : done hs (j + 1) h.1 := (done_step hj _).mpr (.inl rfl)
          rw [he]
          unfold setN
          rw [if_pos this]
        · have : done hs (j + 1) i = done hs j i := propext (by rw [done_step hj]; simp [e])
          rw [h6 i hi]
          unfold setN
          rw [this]
    · rw [if_neg he, asrt_pos (by rw [h3]; omega)]
      have hdn : ¬ done hs j h.1 := by
        intro hdn
        rw [h6 h.1 hhN] at he
        unfold setN at he
        rw [if_pos hdn] at he
        exact he rfl
      have hWd : W.getD h.1 NB = D.f1.getD h.1 NB := by rw [h6 h.1 hhN]; unfold setN; rw [if_neg hdn]
      have hdn1 : done hs (j + 1) h.1 := (done_step hj _).mpr (.inl rfl)
      refine settle_loop K D hs hd hok hlen r k (j + 1) _ _ (by omega) (by omega) (by rw [List.length_set]; exact h3) (by rw [List.length_set]; exact h4) (fun i hi => ?_) (fun i hi => ?_)
      · show (S.set h.1 (W.getD h.1 NB)).getD i NB = _
        rw [getD_set (by rw [h3]; exact hhN)]
        unfold setS
        by_cases e : h.1 = i
        · subst e
          rw [if_pos rfl, if_pos ⟨hdn1, by rw [← hWd]; exact he⟩, hWd]
        · have : done hs (j + 1) i = done hs j i := propext (by rw [done_step hj]; simp [e])
          rw [if_neg e, h5 i hi]
          unfold setS
          rw [this]
      · show (W.set h.1 NB).getD i NB = _
        rw [getD_set (by rw [h4]; exact hhN)]
        unfold setN
        by_cases e : h.1 = i
        · subst e
          rw [if_pos rfl, if_pos hdn1]
        · have : done hs (j + 1) i = done hs j i := propext (by rw [done_step hj]; simp [e])
          rw [if_neg e, h6 i hi]
          unfold setN
          rw [this]
  | _, 0, j, S, W, h1, h2, h3, h4, h5, h6 => by omega
theorem settle_run (K : Nat) {N : Nat} (D : T_dev_Dev) (hs : Held) (hd : D.f2 = hs.map fun h => (⟨(h.1 : Int), h.2⟩ : T_dev_held)) (hok : ∀ h ∈ hs, h.1 < N) (hlen : hs.length ≤ 1000000) (hK : hs.length < K) (l0 : D.f0.length = N) (l1 : D.f1.length = N) :
    ∃ S' W', dev_Dev_settle.f K D = some (⟨S', W', ([] : List T_dev_held), (⟨(), (), D.f3.f2⟩ : T_atomic_Int64), D.f4, D.f5, D.f6⟩ : T_dev_Dev) ∧ S'.length = N ∧ W'.length = N ∧ (∀ i, i < N → S'.getD i NB = setS D hs hs.length i) ∧ (∀ i, i < N → W'.getD i NB = setN D hs hs.length i) := by
  have hno : ∀ i, ¬ done hs 0 i := fun i ⟨q, hq, _⟩ => by omega
  exact settle_loop K D hs hd hok hlen hs.length K 0 D.f0 D.f1 (by omega) hK l0 l1 (fun i hi => by unfold setS; rw [if_neg (fun h => hno i h.1)]) (fun i hi => by unfold setN; rw [if_neg (hno i)])
theorem flush_run (K : Nat) {N : Nat} {c : Nat → ByteArray} {D : T_dev_Dev} {hs : Held} {lf : Option Nat} (h : DRel N D c hs) (hf : Fl D lf) (hh : hs.length ≤ 1000000) (hK : hs.length < K) :
    ∃ D', dev_Dev_Flush.f K D = some (if can lf 1 then 0 else 41, D') ∧ (can lf 1 = true → DRel N D' (view c hs) [] ∧ Fl D' (less lf 1)) ∧ (can lf 1 = false → DRel N D' c hs ∧ D'.f6 = true) := by
  unfold dev_Dev_Flush.f
  obtain ⟨D1, e1, e2, e3, e4⟩ := operation_run K h hf
  rw [e1]
  simp only [Option.bind_some]
  by_cases hc : can lf 1 = true
  · rw [if_pos hc]
    obtain ⟨S, W, g1, g2, g3, g4, g5⟩ := settle_run K D1 hs e2.held (fun x hx => (e2.hok x hx).1) hh hK e2.l0 e2.l1
    rw [g1]
    simp only [Option.bind_some, hc, if_true]
    refine ⟨_, rfl, fun _ => ⟨⟨h.n1, h.n2, g2, g3, fun i hi => ?_, fun i hi => ?_, rfl, fun x hx => by cases hx⟩, e3 hc⟩, fun hx => by cases hx⟩
    · show (S.getD i NB = NB ∧ _) ∨ ((S.getD i NB).size = 512 ∧ _ = S.getD i NB)
      rw [g4 i hi]
      unfold setS view
      rw [e2.now i hi]
      rcases lastOf_ats hs i h.hsize with ⟨ha, hz⟩ | ⟨ha, hz⟩
      · rw [if_pos ⟨(done_all i).mpr ha, NB_ne hz⟩, if_neg (NB_ne hz)]
        exact .inr ⟨hz, rfl⟩
      · rw [if_neg (fun hx => ha ((done_all i).mp hx.1)), if_pos hz]
        exact e2.safe i hi
    · show W.getD i NB = _
      rw [g5 i hi]
      unfold setN
      rcases lastOf_ats hs i h.hsize with ⟨ha, hz⟩ | ⟨ha, hz⟩
      · rw [if_pos ((done_all i).mpr ha)]; rfl
      · rw [if_neg (fun hx => ha ((done_all i).mp hx)), e2.now i hi, hz]; rfl
  · have hc' : can lf 1 = false := by simpa using hc
    rw [if_neg hc]
    simp only [hc', Bool.false_eq_true, if_false]
    exact ⟨D1, rfl, fun hx => (by cases hx), fun _ => ⟨e2, e4 hc'⟩⟩
end Go.Proofs.YtokdiacjcbolfaaDoor.F
namespace Go.Proofs.YtokdiacjcbolfaaDoor.F
open Go Go.RowKit Go.Proofs.YtokdiacjcbolfaaDoor.X
set_option linter.unusedVariables false
set_option linter.unusedSimpArgs false
def shL (i : Nat) : Int := 8 * (i : Int)
def lb (v : Int) (i : Nat) : Int := v / 256 ^ i % 256
def ltB (v : Int) (n : Nat) : List Int := (List.range n).map (lb v)
theorem ltB_length (v : Int) (n : Nat) : (ltB v n).length = n := by simp [ltB]
theorem shiftsL_loop (n : Nat) (hn : n ≤ 8) : ∀ (m K j : Nat), m ≤ n → fields_shifts.l0 K (n : Int) false (m + 1 + j) ((List.range (n - m)).map shL) ((n : Int) - m) = some ((List.range n).map shL) := by
  intro m
  induction m with
  | zero =>
    intro K j h
    rw [show 0 + 1 + j = j + 1 by omega, fields_shifts.l0]
    unfold fields_shifts.b0
    rw [if_neg (by simp)]; rfl
  | succ m ih =>
    intro K j h
    rw [show m + 1 + 1 + j = (m + 1 + j) + 1 by omega, fields_shifts.l0]
    unfold fields_shifts.b0
    have e1 : IntKind.wrap .i64 ((n : Int) - (m + 1 : Nat) + 1) = (n : Int) - m := by rw [wi] <;> omega
    have e2 : IntKind.wrap .i64 (8 * ((n : Int) - (m + 1 : Nat))) = shL (n - (m + 1)) := by
      unfold shL
      simp only [wrapi64]
      omega
    have e3 : (List.range (n - (m + 1))).map shL ++ [shL (n - (m + 1))] = (List.range (n - m)).map shL := by
      rw [show n - m = (n - (m + 1)) + 1 by omega, List.range_succ, List.map_append]; rfl
    rw [if_pos (by omega), if_neg (by simp), asrt_pos (by simp; omega), e1, e2, e3]
    exact ih K j (by omega)
theorem shifts_little (n : Nat) (hn : n ≤ 8) (K : Nat) : fields_shifts.f (K + 9) (n : Int) false = some ((List.range n).map shL) := by
  have h := shiftsL_loop n hn n (K + 9) (K + 8 - n) (Nat.le_refl n)
  rw [show n + 1 + (K + 8 - n) = K + 9 by omega] at h
  unfold fields_shifts.f
  simpa using h
theorem putL_loop (v : Int) (hv : 0 ≤ v) (n : Nat) (hn : n ≤ 8) : ∀ (m K j : Nat), m ≤ n →
    fields_put_uint64.l0 K v ((List.range n).map shL) (m + 1 + j) ((List.range (n - m)).map (lb v)) ((n : Int) - m) = some (strOfNums (ltB v n)) := by
  intro m
  induction m with
  | zero =>
    intro K j h
    rw [show 0 + 1 + j = j + 1 by omega, fields_put_uint64.l0]
    unfold fields_put_uint64.b0
    rw [if_neg (by simp)]; simp [ltB]
  | succ m ih =>
    intro K j h
    have hi : ((n : Int) - (m + 1 : Nat)).toNat = n - (m + 1) := by omega
    have er : rdL (0 : Int) ((List.range n).map shL) ((n : Int) - (m + 1 : Nat)) = 8 * ((n - (m + 1) : Nat) : Int) := by
      unfold rdL
      rw [hi, List.getD_eq_getElem?_getD, List.getElem?_map, List.getElem?_range (by omega)]
      rfl
    have e1 : IntKind.wrap .i64 ((n : Int) - (m + 1 : Nat) + 1) = (n : Int) - m := by rw [wi] <;> omega
    have e2 : IntKind.wrap .u8 (sshr .u64 v (8 * ((n - (m + 1) : Nat) : Int))) = lb v (n - (m + 1)) := by
      rw [wrapu8]
      unfold sshr lb
      have : min (8 * ((n - (m + 1) : Nat) : Int)).toNat IntKind.u64.bits = 8 * (n - (m + 1)) := by simp only [IntKind.bits]; omega
      rw [this, show (2 : Int) ^ (8 * (n - (m + 1))) = 256 ^ (n - (m + 1)) by rw [Int.pow_mul]; rfl, Int.fdiv_eq_ediv_of_nonneg _ (Int.pow_nonneg (by omega))]
    have e3 : (List.range (n - (m + 1))).map (lb v) ++ [lb v (n - (m + 1))] = (List.range (n - m)).map (lb v) := by
      rw [show n - m = (n - (m + 1)) + 1 by omega, List.range_succ, List.map_append]; rfl
    rw [show m + 1 + 1 + j = (m + 1 + j) + 1 by omega, fields_put_uint64.l0]
    unfold fields_put_uint64.b0
    rw [if_pos (by simp; omega), asrt_pos (by omega), er, asrt_pos (by omega), asrt_pos (by simp; omega), e1, e2, e3]
    exact ih K j (by omega)
theorem fields_PutLittle.is (v : Int) (hv : 0 ≤ v) (n K : Nat) (h1 : 1 ≤ n) (hn : n ≤ 8) : fields_PutLittle.f (K + 9) v (n : Int) = some (strOfNums (ltB v n)) := by
  unfold fields_PutLittle.f fields_put_uint64.f
  rw [if_neg (by omega), if_neg (by omega), shifts_little n hn]
  simp only [Option.bind_some]
  have := putL_loop v hv n hn n (K + 9) (K + 8 - n) (Nat.le_refl n)
  rw [show n + 1 + (K + 8 - n) = K + 9 by omega] at this
  simp only [Nat.sub_self, List.range_zero, List.map_nil, Int.sub_self] at this
  rw [this]; rfl
theorem size_ltB (v : Int) (n : Nat) : (strOfNums (ltB v n)).size = n := by rw [strOfNums_size, ltB_length]
end Go.Proofs.YtokdiacjcbolfaaDoor.F
namespace Go.Proofs.YtokdiacjcbolfaaDoor.F
open Go Go.RowKit Go.Proofs.YtokdiacjcbolfaaDoor.X
set_option linter.unusedVariables false
set_option linter.unusedSimpArgs false
def t1 (x : Nat) : Nat := if x % 2 = 1 then (x / 2) ^^^ 2197175160 else x / 2
theorem xor4 (a b c : Nat) : (a ^^^ c) ^^^ (b ^^^ c) = a ^^^ b := by
  apply Nat.eq_of_testBit_eq; intro i; simp only [Nat.testBit_xor]; cases a.testBit i <;> cases b.testBit i <;> cases c.testBit i <;> rfl
theorem xor3 (a b c : Nat) : (a ^^^ c) ^^^ b = (a ^^^ b) ^^^ c := by
  apply Nat.eq_of_testBit_eq; intro i; simp only [Nat.testBit_xor]; cases a.testBit i <;> cases b.testBit i <;> cases c.testBit i <;> rfl
theorem xor_half (a b : Nat) : (a ^^^ b) / 2 = (a / 2) ^^^ (b / 2) := by
  apply Nat.eq_of_testBit_eq; intro i
  simp only [Nat.testBit_xor, ← Nat.testBit_succ]
theorem xor_par (a b : Nat) : (a ^^^ b) % 2 = (a + b) % 2 := by
  have h := Nat.testBit_xor a b 0
  simp only [Nat.testBit_zero] at h
  have key : ∀ n : Nat, decide (n % 2 = 1) = true ∨ n % 2 = 0 := fun n => by rcases Nat.mod_two_eq_zero_or_one n with h | h <;> simp [h]
  rcases Nat.mod_two_eq_zero_or_one a with ha | ha <;> rcases Nat.mod_two_eq_zero_or_one b with hb | hb <;> rcases Nat.mod_two_eq_zero_or_one (a ^^^ b) with hc | hc <;> simp [ha, hb, hc] at h <;> omega
theorem t1_xor (a b : Nat) : t1 (a ^^^ b) = t1 a ^^^ t1 b := by
  unfold t1
  rw [xor_half, xor_par]
  rcases Nat.mod_two_eq_zero_or_one a with ha | ha <;> rcases Nat.mod_two_eq_zero_or_one b with hb | hb
  · rw [if_neg (by omega), if_neg (by omega), if_neg (by omega)]
  · rw [if_pos (by omega), if_neg (by omega), if_pos (by omega)]
    apply Nat.eq_of_testBit_eq; intro i; simp only [Nat.testBit_xor]; cases (a / 2).testBit i <;> cases (b / 2).testBit i <;> cases Nat.testBit 2197175160 i <;> rfl
  · rw [if_pos (by omega), if_pos (by omega), if_neg (by omega), xor3]
  · rw [if_neg (by omega), if_pos (by omega), if_pos (by omega), xor4]
theorem t1_even (m : Nat) : t1 (2 * m) = m := by unfold t1; rw [if_neg (by omega)]; omega
theorem t1_lt {x : Nat} (h : x < 4294967296) : t1 x < 4294967296 := by
  unfold t1
  split
  · exact Nat.xor_lt_two_pow (n := 32) (by omega) (by omega)
  · omega
def t4 (x : Nat) : Nat := t1 (t1 (t1 (t1 x)))
theorem t4_lt {x : Nat} (h : x < 4294967296) : t4 x < 4294967296 := t1_lt (t1_lt (t1_lt (t1_lt h)))
theorem add_xor (q r : Nat) (hr : r < 16) : 16 * q + r = (16 * q) ^^^ r := by
  apply Nat.eq_of_testBit_eq; intro i
  have e1 : (16 * q + r).testBit i = if i < 4 then r.testBit i else q.testBit (i - 4) := Nat.testBit_two_pow_mul_add (i := 4) q hr i
  have e2 : (16 * q).testBit i = (decide (i ≥ 4) && q.testBit (i - 4)) := Nat.testBit_two_pow_mul (i := 4) (a := q) (j := i)
  rw [e1, Nat.testBit_xor, e2]
  by_cases h : i < 4
  · rw [if_pos h, decide_eq_false (by omega)]; simp
  · rw [if_neg h, decide_eq_true (by omega), Nat.testBit_lt_two_pow (x := r) (i := i) (Nat.lt_of_lt_of_le hr (by have : 2 ^ 4 ≤ 2 ^ i := Nat.pow_le_pow_right (by omega) (by omega); simpa using this))]
    simp
theorem t4_steps : ∀ r, r < 16 → t4 r = (G_crc_steps.getD r 0).toNat := by decide
theorem t4_of (q r : Nat) (hr : r < 16) : t4 (16 * q + r) = q ^^^ (G_crc_steps.getD r 0).toNat := by
  rw [← t4_steps r hr, add_xor q r hr]
  unfold t4
  rw [t1_xor, t1_xor, t1_xor, t1_xor, show 16 * q = 2 * (2 * (2 * (2 * q))) by omega, t1_even, t1_even, t1_even, t1_even]
theorem bxor32 (x y : Nat) (hx : x < 4294967296) (hy : y < 4294967296) : bxor .u32 (x : Int) (y : Int) = ((x ^^^ y : Nat) : Int) := by
  have e : bxor .u32 (x : Int) (y : Int) = IntKind.wrap .u32 ((BitVec.ofInt 32 x ^^^ BitVec.ofInt 32 y).toNat) := rfl
  rw [e, BitVec.toNat_xor, BitVec.toNat_ofInt, BitVec.toNat_ofInt, wrapu32]
  have hz : x ^^^ y < 4294967296 := Nat.xor_lt_two_pow (n := 32) hx hy
  have e1 : ((x : Int) % ((2 ^ 32 : Nat) : Int)).toNat = x := by simp only [Nat.reducePow]; omega
  have e2 : ((y : Int) % ((2 ^ 32 : Nat) : Int)).toNat = y := by simp only [Nat.reducePow]; omega
  rw [e1, e2]
  omega
theorem band32 (x : Nat) (hx : x < 4294967296) : band .u32 (x : Int) 15 = ((x % 16 : Nat) : Int) := by
  have e : band .u32 (x : Int) 15 = IntKind.wrap .u32 ((BitVec.ofInt 32 x &&& BitVec.ofInt 32 15).toNat) := rfl
  rw [e, BitVec.toNat_and, BitVec.toNat_ofInt, BitVec.toNat_ofInt, wrapu32]
  have e1 : ((x : Int) % ((2 ^ 32 : Nat) : Int)).toNat = x := by simp only [Nat.reducePow]; omega
  have e2 : ((15 : Int) % ((2 ^ 32 : Nat) : Int)).toNat = 2 ^ 4 - 1 := by decide
  rw [e1, e2, Nat.and_two_pow_sub_one_eq_mod]
  simp only [Nat.reducePow]
  omega
theorem steps_lt (r : Nat) (hr : r < 16) : (G_crc_steps.getD r 0) = (((G_crc_steps.getD r 0).toNat : Nat) : Int) ∧ (G_crc_steps.getD r 0).toNat < 4294967296 := by
  have : ∀ r, r < 16 → (G_crc_steps.getD r 0) = (((G_crc_steps.getD r 0).toNat : Nat) : Int) ∧ (G_crc_steps.getD r 0).toNat < 4294967296 := by decide
  exact this r hr
def bsN (s : ByteArray) : List Nat := s.data.toList.map (·.toNat)
theorem bsN_length (s : ByteArray) : (bsN s).length = s.size := by unfold bsN; rw [List.length_map]; rfl
theorem bsN_lt (s : ByteArray) : ∀ b ∈ bsN s, b < 256 := fun b hb => by
  simp only [bsN, List.mem_map] at hb
  obtain ⟨x, _, rfl⟩ := hb
  exact x.toNat_lt
theorem bt_bsN (s : ByteArray) (i : Nat) : bt s (i : Int) = (((bsN s).getD i 0 : Nat) : Int) := by
  unfold bt bsN
  simp only [Int.toNat_natCast, List.getD_eq_getElem?_getD, List.getElem?_map]
  cases s.data.toList[i]? <;> rfl
def crcS (w b : Nat) : Nat := t4 (t4 (w ^^^ b))
theorem crcS_lt {w b : Nat} (hw : w < 4294967296) (hb : b < 256) : crcS w b < 4294967296 := t4_lt (t4_lt (Nat.xor_lt_two_pow (n := 32) hw (by omega)))
def crcW (w : Nat) (l : List Nat) : Nat := l.foldl crcS w
theorem crcW_lt : ∀ (l : List Nat) (w : Nat), w < 4294967296 → (∀ b ∈ l, b < 256) → crcW w l < 4294967296
  | [], w, hw, _ => hw
  | b :: l, w, hw, h => crcW_lt l (crcS w b) (crcS_lt hw (h b List.mem_cons_self)) fun x hx => h x (List.mem_cons_of_mem _ hx)
def crcN (l : List Nat) : Nat := 4294967295 ^^^ crcW 4294967295 l
theorem crcN_lt (l : List Nat) (h : ∀ b ∈ l, b < 256) : crcN l < 4294967296 := Nat.xor_lt_two_pow (n := 32) (by omega) (crcW_lt l _ (by omega) h)
def dig (s : ByteArray) : ByteArray := strOfNums (ltB ((crcN (bsN s) : Nat) : Int) 4)
theorem dig_size (s : ByteArray) : (dig s).size = 4 := size_ltB _ _
theorem drop_cons (l : List Nat) (i : Nat) (h : i < l.length) : l.drop i = l.getD i 0 :: l.drop (i + 1) := by
  rw [List.drop_eq_getElem_cons h, List.getD_eq_getElem?_getD, List.getElem?_eq_getElem h]; rfl
theorem more_loop (s : ByteArray) (hs : (s.size : Int) ≤ 4611686018427387904) (K : Nat) : ∀ (m j i w : Nat), i + m = s.size → w < 4294967296 →
    crc_More.l0 K s (m + 1 + j) (w : Int) (i : Int) = some (((4294967295 ^^^ crcW w ((bsN s).drop i) : Nat) : Int)) := by
  intro m
  induction m with
  | zero =>
    intro j i w hi hw
    rw [show 0 + 1 + j = j + 1 by omega, crc_More.l0, crc_More.b0, if_neg (by omega), List.drop_of_length_le (by rw [bsN_length]; omega)]
    rw [show (4294967295 : Int) = ((4294967295 : Nat) : Int) from rfl, bxor32 _ _ (by omega) hw]
    rfl
  | succ m ih =>
    intro j i w hi hw
    have hil : i < (bsN s).length := by rw [bsN_length]; omega
    have hb : (bsN s).getD i 0 < 256 := by
      rw [List.getD_eq_getElem?_getD, List.getElem?_eq_getElem hil]
      exact bsN_lt s _ (List.getElem_mem hil)
    have e0 : IntKind.wrap .u32 (((bsN s).getD i 0 : Nat) : Int) = (((bsN s).getD i 0 : Nat) : Int) := by rw [wrapu32]; omega
    have hv : w ^^^ (bsN s).getD i 0 < 4294967296 := Nat.xor_lt_two_pow (n := 32) hw (by omega)
    have half : ∀ v : Nat, v < 4294967296 → bxor .u32 ((v : Int).fdiv 16) (rdL (0 : Int) G_crc_steps (band .u32 (v : Int) 15)) = ((t4 v : Nat) : Int) := by
      intro v hv
      obtain ⟨h1, h2⟩ := steps_lt (v % 16) (by omega)
      rw [band32 v hv]
      unfold rdL
      rw [Int.toNat_natCast, h1, Int.fdiv_eq_ediv_of_nonneg _ (by omega), show (v : Int) / 16 = ((v / 16 : Nat) : Int) by omega, bxor32 _ _ (by omega) h2]
      rw [← t4_of (v / 16) (v % 16) (by omega), show 16 * (v / 16) + v % 16 = v by omega]
    have r1 : 0 ≤ band .u32 ((w ^^^ (bsN s).getD i 0 : Nat) : Int) 15 ∧ band .u32 ((w ^^^ (bsN s).getD i 0 : Nat) : Int) 15 < 16 := by rw [band32 _ hv]; omega
    have r2 : 0 ≤ band .u32 ((t4 (w ^^^ (bsN s).getD i 0) : Nat) : Int) 15 ∧ band .u32 ((t4 (w ^^^ (bsN s).getD i 0) : Nat) : Int) 15 < 16 := by rw [band32 _ (t4_lt hv)]; omega
    rw [show m + 1 + 1 + j = (m + 1 + j) + 1 by omega, crc_More.l0, crc_More.b0, if_pos (by omega), asrt_pos (by omega), bt_bsN, e0, bxor32 _ _ hw (by omega), half _ hv, asrt_pos r1.1, asrt_pos r1.2, asrt_pos r2.1, asrt_pos r2.2, half _ (t4_lt hv),
      show IntKind.wrap .i64 ((i : Int) + 1) = ((i + 1 : Nat) : Int) by rw [wi] <;> omega, ih j (i + 1) _ (by omega) (t4_lt (t4_lt hv)), drop_cons _ i hil]
    rfl
theorem crc_Digest.is (s : ByteArray) (hs : (s.size : Int) ≤ 4611686018427387904) (K : Nat) (hK : s.size + 9 ≤ K) : crc_Digest.f K s = some (dig s) := by
  obtain ⟨j, rfl⟩ : ∃ j, K = s.size + 9 + j := ⟨K - (s.size + 9), by omega⟩
  unfold crc_Digest.f crc_Sum.f crc_More.f
  have h0 : bxor .u32 4294967295 0 = ((4294967295 : Nat) : Int) := by decide
  have h1 := more_loop s hs (s.size + 9 + j) s.size (8 + j) 0 4294967295 (by omega) (by omega)
  rw [show s.size + 1 + (8 + j) = s.size + 9 + j by omega] at h1
  rw [h0, show (0 : Int) = ((0 : Nat) : Int) from rfl, h1]
  simp only [Option.bind_some, List.drop_zero]
  have h2 := crcN_lt (bsN s) (bsN_lt s)
  have e : IntKind.wrap .u64 (((4294967295 ^^^ crcW 4294967295 (bsN s) : Nat)) : Int) = ((crcN (bsN s) : Nat) : Int) := by rw [wu] <;> unfold crcN at * <;> omega
  rw [e, show s.size + 9 + j = (s.size + j) + 9 by omega, show (4 : Int) = ((4 : Nat) : Int) from rfl, fields_PutLittle.is _ (by omega) 4 _ (by omega) (by omega)]
  rfl
end Go.Proofs.YtokdiacjcbolfaaDoor.F
namespace Go.Proofs.YtokdiacjcbolfaaDoor.F
open Go Go.RowKit Go.Proofs.YtokdiacjcbolfaaDoor.X
set_option linter.unusedVariables false
set_option linter.unusedSimpArgs false
def shB (n : Nat) (i : Nat) : Int := 8 * ((n : Int) - 1 - i)
theorem shifts_loop (n : Nat) (hn : n ≤ 8) : ∀ (m K : Nat), m ≤ n → fields_shifts.l0 K (n : Int) true (m + 1) ((List.range (n - m)).map (shB n)) ((n : Int) - m) = some ((List.range n).map (shB n)) := by
  intro m
  induction m with
  | zero => intro K h; simp [fields_shifts.l0, fields_shifts.b0]
  | succ m ih =>
    intro K h
    rw [fields_shifts.l0, fields_shifts.b0, if_pos (by omega), if_pos rfl, asrt_pos (by simp; omega)]
    have e1 : IntKind.wrap .i64 ((n : Int) - (m + 1 : Nat) + 1) = (n : Int) - m := by rw [wi] <;> omega
    have e2 : IntKind.wrap .i64 (8 * IntKind.wrap .i64 (IntKind.wrap .i64 ((n : Int) - 1) - ((n : Int) - (m + 1 : Nat)))) = shB n (n - (m + 1)) := by
      unfold shB
      simp only [wrapi64]
      omega
    have e3 : (List.range (n - (m + 1))).map (shB n) ++ [shB n (n - (m + 1))] = (List.range (n - m)).map (shB n) := by
      rw [show n - m = (n - (m + 1)) + 1 by omega, List.range_succ, List.map_append]; rfl
    rw [e1, e2, e3]
    exact ih K (by omega)
theorem shifts_big (n : Nat) (hn : n ≤ 8) (K : Nat) : fields_shifts.f (K + 9) (n : Int) true = some ((List.range n).map (shB n)) := by
  have up : ∀ (m m' : Nat) (xs : List Int) (x : Int) (r : List Int) (K : Nat), fields_shifts.l0 K (n : Int) true m xs x = some r → fields_shifts.l0 K (n : Int) true (m + m') xs x = some r := by
    intro m
    induction m with
    | zero => intro m' xs x r K h; simp [fields_shifts.l0] at h
    | succ m ih =>
      intro m' xs x r K h
      rw [Nat.succ_add, fields_shifts.l0]
      rw [fields_shifts.l0] at h
      unfold fields_shifts.b0 at h ⊢
      split at h
      · rename_i h1
        rw [if_pos h1]
        rw [if_pos rfl] at h ⊢
        obtain ⟨h2, h3⟩ := asrt_some h
        rw [asrt_pos h2]
        exact ih _ _ _ _ _ h3
      · rename_i h1
        rw [if_neg h1]
        exact h
  have := shifts_loop n hn n (K + 9) (Nat.le_refl n)
  have h := up (n + 1) (K + 8 - n) _ _ _ _ this
  rw [show n + 1 + (K + 8 - n) = K + 9 by omega] at h
  unfold fields_shifts.f
  simpa using h
end Go.Proofs.YtokdiacjcbolfaaDoor.F
namespace Go.Proofs.YtokdiacjcbolfaaDoor.F
open Go Go.RowKit Go.Proofs.YtokdiacjcbolfaaDoor.X
set_option linter.unusedVariables false
set_option linter.unusedSimpArgs false
def byteOf (v : Int) (n i : Nat) : Int := v / 256 ^ (n - 1 - i) % 256
def beB (v : Int) (n : Nat) : List Int := (List.range n).map (byteOf v n)
theorem beB_length (v : Int) (n : Nat) : (beB v n).length = n := by simp [beB]
theorem put_loop (v : Int) (hv : 0 ≤ v) (n : Nat) (hn : n ≤ 8) : ∀ (m K j : Nat), m ≤ n →
    fields_put_uint64.l0 K v ((List.range n).map (shB n)) (m + 1 + j) ((List.range (n - m)).map (byteOf v n)) ((n : Int) - m) = some (strOfNums (beB v n)) := by
  intro m
  induction m with
  | zero => intro K j h; rw [show 0 + 1 + j = j + 1 by omega, fields_put_uint64.l0, fields_put_uint64.b0, if_neg (by simp)]; simp [beB]
  | succ m ih =>
    intro K j h
    have hi : ((n : Int) - (m + 1 : Nat)).toNat = n - (m + 1) := by omega
    have er : rdL (0 : Int) ((List.range n).map (shB n)) ((n : Int) - (m + 1 : Nat)) = 8 * (m : Int) := by
      unfold rdL
      rw [hi, List.getD_eq_getElem?_getD, List.getElem?_map, List.getElem?_range (by omega)]
      simp only [Option.map_some, Option.getD_some, shB]
      omega
    have e1 : IntKind.wrap .i64 ((n : Int) - (m + 1 : Nat) + 1) = (n : Int) - m := by rw [wi] <;> omega
    have e2 : IntKind.wrap .u8 (sshr .u64 v (8 * (m : Int))) = byteOf v n (n - (m + 1)) := by
      rw [wrapu8]
      unfold sshr byteOf
      have : min (8 * (m : Int)).toNat IntKind.u64.bits = 8 * m := by simp only [IntKind.bits]; omega
      rw [this, show n - 1 - (n - (m + 1)) = m by omega, show (2 : Int) ^ (8 * m) = 256 ^ m by rw [Int.pow_mul]; rfl, Int.fdiv_eq_ediv_of_nonneg _ (Int.pow_nonneg (by omega))]
    have e3 : (List.range (n - (m + 1))).map (byteOf v n) ++ [byteOf v n (n - (m + 1))] = (List.range (n - m)).map (byteOf v n) := by
      rw [show n - m = (n - (m + 1)) + 1 by omega, List.range_succ, List.map_append]; rfl
    rw [show m + 1 + 1 + j = (m + 1 + j) + 1 by omega, fields_put_uint64.l0, fields_put_uint64.b0, if_pos (by simp; omega), asrt_pos (by omega), er, asrt_pos (by omega), asrt_pos (by simp; omega), e1, e2, e3]
    exact ih K j (by omega)
theorem fields_PutBig.is (v : Int) (hv : 0 ≤ v) (n K : Nat) (h1 : 1 ≤ n) (hn : n ≤ 8) : fields_PutBig.f (K + 9) v (n : Int) = some (strOfNums (beB v n)) := by
  unfold fields_PutBig.f fields_put_uint64.f
  rw [if_neg (by omega), if_neg (by omega), shifts_big n hn]
  simp only [Option.bind_some]
  have := put_loop v hv n hn n (K + 9) (K + 8 - n) (Nat.le_refl n)
  rw [show n + 1 + (K + 8 - n) = K + 9 by omega] at this
  simp only [Nat.sub_self, List.range_zero, List.map_nil, Int.sub_self] at this
  rw [this]; rfl
theorem size_beB (v : Int) (n : Nat) : (strOfNums (beB v n)).size = n := by rw [strOfNums_size, beB_length]
end Go.Proofs.YtokdiacjcbolfaaDoor.F
namespace Go.Proofs.YtokdiacjcbolfaaDoor.F
open Go Go.RowKit Go.Proofs.YtokdiacjcbolfaaDoor.X
set_option linter.unusedVariables false
set_option linter.unusedSimpArgs false
def hgfr : ByteArray := ⟨#[72, 71, 70, 82]⟩
def sec (n : Nat) : Nat := (n + 535) / 512
def hd05 (n : Int) (k : Nat) : ByteArray := (hgfr ++ strOfNums (beB n 8)) ++ strOfNums (beB (k : Int) 4)
def pad512 (s : ByteArray) : ByteArray := if s.size % 512 = 0 then s else s ++ strOfNums (List.replicate (512 - s.size % 512) 0)
def putB (n : Int) (t : ByteArray) : ByteArray := pad512 (((hd05 n t.size ++ dig (hd05 n t.size)) ++ t) ++ dig t)
theorem hgfr_size : hgfr.size = 4 := rfl
theorem hd05_size (n : Int) (k : Nat) : (hd05 n k).size = 16 := by
  unfold hd05
  rw [ByteArray.size_append, ByteArray.size_append, size_beB, size_beB, hgfr_size]
theorem body_size (n : Int) (t : ByteArray) : (((hd05 n t.size ++ dig (hd05 n t.size)) ++ t) ++ dig t).size = t.size + 24 := by
  rw [ByteArray.size_append, ByteArray.size_append, ByteArray.size_append, hd05_size, dig_size, dig_size]; omega
theorem pad512_size (s : ByteArray) : (pad512 s).size = (s.size + 511) / 512 * 512 := by
  unfold pad512
  split
  · omega
  · rw [ByteArray.size_append, strOfNums_size, List.length_replicate]; omega
theorem putB_size (n : Int) (t : ByteArray) : (putB n t).size = sec t.size * 512 := by
  unfold putB sec; rw [pad512_size, body_size]
theorem frame_Sectors.is (a : Int) (h1 : -9223372036854775808 ≤ a) (h2 : a ≤ 9223372036854775807) : frame_Sectors.f a = some (if 0 ≤ a ∧ a ≤ 65536 then ((sec a.toNat : Nat) : Int) else 0) := by
  unfold frame_Sectors.f
  by_cases h : a < 0
  · rw [if_pos h, if_neg (by omega)]
  rw [if_neg h]
  by_cases h' : a > 65536
  · rw [if_pos h', if_neg (by omega)]
  rw [if_neg h', if_pos (by omega), wi (n := a + 24) (by omega) (by omega), wi (n := a + 24 + 512) (by omega) (by omega), wi (n := a + 24 + 512 - 1) (by omega) (by omega), Int.tdiv_eq_ediv_of_nonneg (by omega), wi (by omega) (by omega)]
  unfold sec
  congr 1
  omega
theorem frame_Sectors.isN (m : Nat) (h : m ≤ 65536) : frame_Sectors.f (m : Int) = some ((sec m : Nat) : Int) := by
  rw [frame_Sectors.is _ (by omega) (by omega), if_pos (by omega), Int.toNat_natCast]
theorem fields_Pad.is (s : ByteArray) (hs : (s.size : Int) ≤ 4611686018427387904) : fields_Pad.f s 512 = some (pad512 s) := by
  unfold fields_Pad.f pad512
  rw [if_neg (by omega), if_neg (by omega), asrt_pos (by omega), Int.tmod_eq_emod_of_nonneg (by omega)]
  by_cases h : s.size % 512 = 0
  · rw [if_pos (by omega), if_pos h]
  · rw [if_neg (by omega), if_neg h, wi (by omega) (by omega), asrt_pos (by omega), asrt_pos (by omega), asrt_pos (by rw [strOfNums_size, List.length_replicate]; omega), show (512 - (s.size : Int) % 512).toNat = 512 - s.size % 512 by omega]
theorem frame_Put.is (n : Int) (h0 : 0 ≤ n) (h1 : n ≤ 18446744073709551615) (t : ByteArray) (ht : t.size ≤ 70000) (K : Nat) (hK : t.size + 40 ≤ K) : frame_Put.f K n t = some (if t.size > 65536 then (⟨#[]⟩, 2) else (putB n t, 0)) := by
  unfold frame_Put.f
  by_cases h : t.size > 65536
  · rw [if_pos (by omega), if_pos h]
  obtain ⟨K', rfl⟩ : ∃ K', K = K' + 9 := ⟨K - 9, by omega⟩
  have ew : IntKind.wrap .u64 (t.size : Int) = (t.size : Int) := by rw [wu] <;> omega
  have e8 : fields_PutBig.f (K' + 9) n 8 = some (strOfNums (beB n 8)) := fields_PutBig.is n h0 8 K' (by omega) (by omega)
  have e4 : fields_PutBig.f (K' + 9) (t.size : Int) 4 = some (strOfNums (beB (t.size : Int) 4)) := fields_PutBig.is _ (by omega) 4 K' (by omega) (by omega)
  have hh := hd05_size n t.size
  have hb := body_size n t
  unfold hd05 at hh hb
  unfold hgfr at hh hb
  rw [if_neg (by omega), if_neg h, e8, Option.bind_some, asrt_pos (by rw [size_beB]; omega), ew, e4, Option.bind_some, asrt_pos (by rw [← ByteArray.size_append, hh]; omega), crc_Digest.is _ (by rw [hh]; omega) _ (by rw [hh]; omega), Option.bind_some, asrt_pos (by rw [hh, dig_size]; omega),
    asrt_pos (by rw [ByteArray.size_append, hh, dig_size]; omega), crc_Digest.is t (by omega) _ (by omega), Option.bind_some, asrt_pos (by rw [← ByteArray.size_append, hb]; omega), fields_Pad.is _ (by rw [hb]; omega), Option.bind_some]
  rfl
def zeros05 (s : ByteArray) (p q : Nat) : Prop := ∀ i, p ≤ i → i < q → bt s (i : Int) = 0
noncomputable instance (s : ByteArray) (p q : Nat) : Decidable (zeros05 s p q) := Classical.propDecidable _
end Go.Proofs.YtokdiacjcbolfaaDoor.F
namespace Go.Proofs.YtokdiacjcbolfaaDoor.F
open Go Go.RowKit Go.Proofs.YtokdiacjcbolfaaDoor.X
set_option linter.unusedVariables false
set_option linter.unusedSimpArgs false
end Go.Proofs.YtokdiacjcbolfaaDoor.F
namespace Go.Proofs.YtokdiacjcbolfaaDoor.F
open Go Go.RowKit Go.Proofs.YtokdiacjcbolfaaDoor.X
set_option linter.unusedVariables false
set_option linter.unusedSimpArgs false
def mkJ (fr H a s : Nat) (base : ByteArray) (recs : List ByteArray) (used : Nat) (held unfit : Bool) : T_journal_Journal := ⟨(), (fr : Int), (H : Int), (a : Int), ⟨(), (), (s : Int)⟩, base, recs, (used : Int), held, unfit⟩
def ZN (n : Nat) : ByteArray := ⟨(Lib.repeatL (⟨#[0]⟩ : ByteArray).data.toList n).toArray⟩
theorem ZN_size (n : Nat) : (ZN n).size = n := by
  show (Lib.repeatL _ n).toArray.size = n
  rw [List.size_toArray, Lib.repeatL_length]
  simp
def hgjc : ByteArray := ⟨#[72, 71, 74, 67]⟩
def slotB (s half frames : Nat) : ByteArray := (((hgjc ++ strOfNums (beB (s : Int) 8)) ++ strOfNums (beB (half : Int) 4)) ++ strOfNums (beB (frames : Int) 4)) ++ (ZN 484 ++ strOfNums (beB (s : Int) 8))
theorem slotB_size (s half frames : Nat) : (slotB s half frames).size = 512 := by
  unfold slotB
  simp only [ByteArray.size_append, size_beB, ZN_size]
  rfl
theorem repeat_run (n : Nat) (h : n ≤ 140737488355328) : strings_Repeat.f (⟨#[0]⟩ : ByteArray) (n : Int) = some (ZN n) := by
  unfold strings_Repeat.f
  rw [asrt_pos (by omega), asrt_pos (by omega), asrt_pos (by show 1 * n ≤ _; omega)]
  rfl
section
variable {N : Nat} {c : Nat → ByteArray} {D : T_dev_Dev} {hs : Held} {lf : Option Nat} {fr H a s used : Nat} {base : ByteArray} {recs : List ByteArray} {held : Bool}
theorem failed_run (K : Nat) (unfit : Bool) (D : T_dev_Dev) (e : Int) : journal_Journal_failed.f (mkJ fr H a s base recs used held unfit) D e = some (e, mkJ fr H a s base recs used held (unfit || e != 0), D) := by
  unfold journal_Journal_failed.f mkJ
  cases unfit
  · rw [if_neg (by simp)]
    rfl
  · rw [if_pos rfl]
    rfl
theorem jflush_run (K : Nat) (h : DRel N D c hs) (hf : Fl D lf) (hh : hs.length ≤ 1000000) (hK : hs.length < K) :
    ∃ D', journal_Journal_flush.f K (mkJ fr H a s base recs used held false) D = some (if can lf 1 then 0 else 41, mkJ fr H a s base recs used (held && !can lf 1) (!can lf 1), D') ∧ (can lf 1 = true → DRel N D' (view c hs) [] ∧ Fl D' (less lf 1)) ∧ (can lf 1 = false → DRel N D' c hs ∧ D'.f6 = true) := by
  obtain ⟨D', e1, e2, e3⟩ := flush_run K h hf hh hK
  refine ⟨D', ?_, e2, e3⟩
  unfold journal_Journal_flush.f
  rw [e1]
  simp only [Option.bind_some]
  have := failed_run (fr := fr) (H := H) (a := a) (s := s) (used := used) (base := base) (recs := recs) (held := held) K false D' (if can lf 1 = true then 0 else 41)
  unfold mkJ at this ⊢
  simp only at this ⊢
  rw [this]
  cases can lf 1 <;> simp
theorem chunks_one (data : ByteArray) (p : Nat) (h : data.size = 512) : chunks data p 0 1 = [(p, data)] := by
  show [(p + 0, data.extract (0 * 512) ((0 + 1) * 512))] = _
  have : data.extract 0 512 = data := by rw [← h]; exact ByteArray.extract_zero_size
  rw [Nat.add_zero, Nat.zero_mul, Nat.zero_add, Nat.one_mul, this]
theorem chunks_length (data : ByteArray) (p : Nat) : ∀ (r i : Nat), (chunks data p i r).length = r
  | 0, i => rfl
  | r + 1, i => by show (chunks data p (i + 1) r).length + 1 = _; rw [chunks_length data p r (i + 1)]
theorem less_less (lf : Option Nat) (m n : Nat) : less (less lf m) n = less lf (m + n) := by
  cases lf with
  | none => rfl
  | some k => simp only [less, Option.map_some]; congr 1; omega
theorem can_add (lf : Option Nat) (m n : Nat) : can lf (m + n) = (can lf m && can (less lf m) n) := by
  cases lf with
  | none => rfl
  | some k =>
    simp only [can, less, Option.map_some]
    by_cases h1 : m ≤ k
    · simp only [h1, decide_true, Bool.true_and, decide_eq_decide]; omega
    · have : ¬ m + n ≤ k := by omega
      simp [h1, this]
inductive Puts (N : Nat) (c : Nat → ByteArray) (hs : Held) (lf : Option Nat) (fr H a s used : Nat) (base : ByteArray) (recs : List ByteArray) (P half frames : Nat) (text : ByteArray) : Int → T_journal_Journal → T_dev_Dev → Prop
  | done (D' : T_dev_Dev) (hc : can lf (sec text.size + 2) = true) (h : DRel N D' (view c (hs ++ chunks (putB ((s + 1 : Nat) : Int) text) P 0 (sec text.size))) [(fr + (s + 1) % 2, slotB (s + 1) half frames)]) (hf : Fl D' (less lf (sec text.size + 2))) :
      Puts N c hs lf fr H a s used base recs P half frames text 0 (mkJ fr H a (s + 1) base recs used true false) D'
  | cut (t : Nat) (J' : T_journal_Journal) (D' : T_dev_Dev) (hc : can lf (sec text.size + 2) = false) (ht : t ≤ sec text.size) (h : DRel N D' c (hs ++ chunks (putB ((s + 1 : Nat) : Int) text) P 0 t)) (hd : D'.f6 = true) (hJ : J'.f9 = true) :
      Puts N c hs lf fr H a s used base recs P half frames text 41 J' D'
  | late (J' : T_journal_Journal) (D' : T_dev_Dev) (hc : can lf (sec text.size + 2) = false) (h : DRel N D' (view c (hs ++ chunks (putB ((s + 1 : Nat) : Int) text) P 0 (sec text.size))) []) (hd : D'.f6 = true) (hJ : J'.f9 = true) :
      Puts N c hs lf fr H a s used base recs P half frames text 41 J' D'
theorem puts_run (K : Nat) (h : DRel N D c hs) (hf : Fl D lf) (half at_ frames : Nat) (text : ByteArray) (ht : text.size ≤ 65536) (hhalf : half ≤ 1) (hat : at_ + sec text.size ≤ H) (hN : fr + 4 + 2 * H ≤ N) (hs1 : s + 1 < 4611686018427387904) (hfr : frames ≤ 1000000) (hh : hs.length ≤ 500000) (hK : 600000 ≤ K) :
    ∃ e J' D', journal_Journal_puts.f K (mkJ fr H a s base recs used held false) D (half : Int) (at_ : Int) text (frames : Int) = some (e, J', D') ∧ Puts N c hs lf fr H a s used base recs (fr + 4 + half * H + at_) half frames text e J' D' := by
  have hN2 := h.n2
  have hsec : sec text.size ≤ 200 := by unfold sec; omega
  have hhH : half * H ≤ H := by
    rcases (by omega : half = 0 ∨ half = 1) with rfl | rfl <;> omega
  have w0 : IntKind.wrap .i64 ((s : Int) + 1) = ((s + 1 : Nat) : Int) := by rw [wi (by omega) (by omega)]; omega
  have w1 : IntKind.wrap .u64 ((s + 1 : Nat) : Int) = ((s + 1 : Nat) : Int) := wu (by omega) (by omega)
  unfold journal_Journal_puts.f
  have hseq : (mkJ fr H a s base recs used held false).f4.f2 = (s : Int) := rfl
  rw [hseq, w0, w1, frame_Put.is _ (by omega) (by omega) text (by omega) K (by omega), if_neg (by omega)]
  simp only [Option.bind_some, if_true]
  have hplace : journal_Journal_place.f (⟨(), (mkJ fr H a s base recs used held false).f1, (mkJ fr H a s base recs used held false).f2, (mkJ fr H a s base recs used held false).f3, (⟨(), (), (s : Int)⟩ : T_atomic_Int64), (mkJ fr H a s base recs used held false).f5, (mkJ fr H a s base recs used held false).f6, (mkJ fr H a s base recs used held false).f7, (mkJ fr H a s base recs used held false).f8, (mkJ fr H a s base recs used held false).f9⟩ : T_journal_Journal) (half : Int) (at_ : Int) = some ((fr + 4 + half * H + at_ : Nat) : Int) := by
    unfold journal_Journal_place.f mkJ
    simp only
    have e1 : IntKind.wrap .i64 ((fr : Int) + 4) = ((fr + 4 : Nat) : Int) := by rw [wi (by omega) (by omega)]; omega
    have e2 : IntKind.wrap .i64 ((half : Int) * (H : Int)) = ((half * H : Nat) : Int) := by
      have : ((half * H : Nat) : Int) = (half : Int) * (H : Int) := by push_cast; rfl
      rw [← this, wi (by omega) (by omega)]
    rw [e1, e2, wi (n := ((fr + 4 : Nat) : Int) + ((half * H : Nat) : Int)) (by omega) (by omega), wi (by omega) (by omega)]
    congr 1
  rw [hplace]
  simp only [Option.bind_some]
  have hpsz := putB_size ((s + 1 : Nat) : Int) text
  obtain ⟨D1, e1, e2, e3, e4⟩ := write_run K h hf (fr + 4 + half * H + at_) (sec text.size) (putB ((s + 1 : Nat) : Int) text) hpsz (by omega) (by omega) (by omega)
  rw [e1]
  simp only [Option.bind_some]
  have hfail := fun (D : T_dev_Dev) (e : Int) => failed_run (fr := fr) (H := H) (a := a) (s := s) (used := used) (base := base) (recs := recs) (held := held) K false D e
  have hfail1 := hfail D1 (if can lf (sec text.size) = true then 0 else 41)
  rw [show (⟨(), (mkJ fr H a s base recs used held false).f1, (mkJ fr H a s base recs used held false).f2, (mkJ fr H a s base recs used held false).f3, (⟨(), (), (s : Int)⟩ : T_atomic_Int64), (mkJ fr H a s base recs used held false).f5, (mkJ fr H a s base recs used held false).f6, (mkJ fr H a s base recs used held false).f7, (mkJ fr H a s base recs used held false).f8, (mkJ fr H a s base recs used held false).f9⟩ : T_journal_Journal) = mkJ fr H a s base recs used held false from rfl, hfail1]
  simp only [Option.bind_some, Bool.false_or]
  cases hc1 : can lf (sec text.size) with
  | false =>
    simp only [Bool.false_eq_true, if_false]
    have hcc : can lf (sec text.size + 2) = false := by rw [can_add, hc1]; rfl
    refine ⟨41, _, D1, by rw [if_neg (by omega)], ?_⟩
    have hdn : doneN lf (sec text.size) ≤ sec text.size := by
      cases lf with
      | none => exact Nat.le_refl _
      | some k => exact Nat.min_le_left _ _
    exact .cut (doneN lf (sec text.size)) _ D1 hcc hdn e2 (e4 hc1) rfl
  | true =>
    simp only [if_true]
    have hdn : doneN lf (sec text.size) = sec text.size := by
      cases lf with
      | none => rfl
      | some k => simp [can] at hc1; simp only [doneN]; omega
    rw [hdn] at e2
    have hJ0 : (mkJ fr H a s base recs used held ((0 : Int) != 0)) = mkJ fr H a s base recs used held false := rfl
    rw [hJ0]
    obtain ⟨D2, g1, g2, g3⟩ := jflush_run (fr := fr) (H := H) (a := a) (s := s) (used := used) (base := base) (recs := recs) (held := held) K e2 (e3 hc1) (by rw [List.length_append, chunks_length]; omega) (by rw [List.length_append, chunks_length]; omega)
    rw [g1]
    simp only [Option.bind_some]
    cases hc2 : can (less lf (sec text.size)) 1 with
    | false =>
      simp only [Bool.false_eq_true, if_false]
      have hcc : can lf (sec text.size + 2) = false := by
        rw [can_add, hc1, show (2 : Nat) = 1 + 1 from rfl, can_add, hc2]; rfl
      refine ⟨41, _, D2, by rw [if_neg (by omega)], ?_⟩
      exact .cut (sec text.size) _ D2 hcc (Nat.le_refl _) (g3 hc2).1 (g3 hc2).2 rfl
    | true =>
      simp only [if_true]
      obtain ⟨k1, k2⟩ := g2 hc2
      have p8 := fields_PutBig.is ((s + 1 : Nat) : Int) (by omega) 8 (K - 9) (by omega) (by omega)
      have p4 := fields_PutBig.is (half : Int) (by omega) 4 (K - 9) (by omega) (by omega)
      have p4' := fields_PutBig.is (frames : Int) (by omega) 4 (K - 9) (by omega) (by omega)
      rw [show K - 9 + 9 = K by omega] at p8 p4 p4'
      rw [show ((8 : Nat) : Int) = 8 from rfl] at p8
      rw [show ((4 : Nat) : Int) = 4 from rfl] at p4 p4'
      rw [p8]
      simp only [Option.bind_some]
      rw [asrt_pos (by rw [size_beB]; omega), show IntKind.wrap .u64 (half : Int) = (half : Int) from wu (by omega) (by omega), p4]
      simp only [Option.bind_some]
      have z4 : (⟨#[72, 71, 74, 67]⟩ : ByteArray).size = 4 := rfl
      rw [asrt_pos (by simp only [ByteArray.size_append, size_beB, z4]; omega), show IntKind.wrap .u64 (frames : Int) = (frames : Int) from wu (by omega) (by omega), p4']
      simp only [Option.bind_some]
      rw [asrt_pos (by simp only [ByteArray.size_append, size_beB, z4]; omega)]
      have hz : IntKind.wrap .i64 ((IntKind.wrap .i64 (512 - (((((⟨#[72, 71, 74, 67]⟩ : ByteArray) ++ strOfNums (beB ((s + 1 : Nat) : Int) 8)) ++ strOfNums (beB (half : Int) 4)) ++ strOfNums (beB (frames : Int) 4)).size : Int))) - ((strOfNums (beB ((s + 1 : Nat) : Int) 8)).size : Int)) = ((484 : Nat) : Int) := by
        simp only [ByteArray.size_append, size_beB, z4]
        rw [wi (n := 512 - ((4 + 8 + 4 + 4 : Nat) : Int)) (by omega) (by omega), wi (by omega) (by omega)]
        omega
      rw [hz, repeat_run 484 (by omega)]
      simp only [Option.bind_some]
      rw [asrt_pos (by rw [ZN_size, size_beB]; omega), asrt_pos (by simp only [ByteArray.size_append, size_beB, z4, ZN_size]; omega)]
      have hslot : ((((⟨#[72, 71, 74, 67]⟩ : ByteArray) ++ strOfNums (beB ((s + 1 : Nat) : Int) 8)) ++ strOfNums (beB (half : Int) 4)) ++ strOfNums (beB (frames : Int) 4)) ++ (ZN 484 ++ strOfNums (beB ((s + 1 : Nat) : Int) 8)) = slotB (s + 1) half frames := rfl
      rw [hslot]
      have hpos : IntKind.wrap .i64 ((mkJ fr H a s base recs used (held && !true) (!true)).f1 + Int.tmod ((s + 1 : Nat) : Int) 2) = ((fr + (s + 1) % 2 : Nat) : Int) := by
        show IntKind.wrap .i64 ((fr : Int) + Int.tmod ((s + 1 : Nat) : Int) 2) = _
        rw [Int.tmod_eq_emod_of_nonneg (by omega), wi (by omega) (by omega)]
        omega
      rw [hpos]
      obtain ⟨D3, m1, m2, m3, m4⟩ := write_run K k1 k2 (fr + (s + 1) % 2) 1 (slotB (s + 1) half frames) (slotB_size _ _ _) (by omega) (by simp) (by omega)
      rw [m1]
      simp only [Option.bind_some]
      have hfail3 := failed_run (fr := fr) (H := H) (a := a) (s := s) (used := used) (base := base) (recs := recs) (held := held && !true) K (!true) D3 (if can (less (less lf (sec text.size)) 1) 1 = true then 0 else 41)
      rw [show (⟨(), (mkJ fr H a s base recs used (held && !true) (!true)).f1, (mkJ fr H a s base recs used (held && !true) (!true)).f2, (mkJ fr H a s base recs used (held && !true) (!true)).f3, (⟨(), (), (mkJ fr H a s base recs used (held && !true) (!true)).f4.f2⟩ : T_atomic_Int64), (mkJ fr H a s base recs used (held && !true) (!true)).f5, (mkJ fr H a s base recs used (held && !true) (!true)).f6, (mkJ fr H a s base recs used (held && !true) (!true)).f7, (mkJ fr H a s base recs used (held && !true) (!true)).f8, (mkJ fr H a s base recs used (held && !true) (!true)).f9⟩ : T_journal_Journal) = mkJ fr H a s base recs used (held && !true) (!true) from rfl, hfail3]
      simp only [Option.bind_some]
      have hcc2 : can lf (sec text.size + 2) = can (less (less lf (sec text.size)) 1) 1 := by
        rw [can_add, hc1, show (2 : Nat) = 1 + 1 from rfl, can_add, hc2]
        rfl
      cases hc3 : can (less (less lf (sec text.size)) 1) 1 with
      | false =>
        simp only [Bool.false_eq_true, if_false]
        have hd0 : doneN (less (less lf (sec text.size)) 1) 1 = 0 := by
          cases lf with
          | none => simp [can, less] at hc3
          | some q => simp [can, less] at hc3; simp only [doneN, less, Option.map_some]; omega
        rw [hd0] at m2
        refine ⟨41, _, D3, by rw [if_neg (by omega)], ?_⟩
        exact .late _ D3 (by rw [hcc2, hc3]) m2 (m4 hc3) rfl
      | true =>
        simp only [if_true]
        have hd1 : doneN (less (less lf (sec text.size)) 1) 1 = 1 := by
          cases lf with
          | none => rfl
          | some q => simp [can, less] at hc3; simp only [doneN, less, Option.map_some]; omega
        rw [hd1, chunks_one _ _ (slotB_size _ _ _)] at m2
        refine ⟨0, _, D3, rfl, ?_⟩
        have := m3 hc3
        rw [less_less, less_less] at this
        exact .done D3 (by rw [hcc2, hc3]) m2 this
end
end Go.Proofs.YtokdiacjcbolfaaDoor.F
namespace Go.Proofs.YtokdiacjcbolfaaDoor.F
open Go Go.RowKit Go.Proofs.YtokdiacjcbolfaaDoor.X
set_option linter.unusedVariables false
set_option linter.unusedSimpArgs false
section
variable {N : Nat} {c : Nat → ByteArray} {D : T_dev_Dev} {hs : Held} {lf : Option Nat} {fr H a s used : Nat} {base : ByteArray} {recs : List ByteArray} {held : Bool}
theorem mkJ_eta (fr H a s used : Nat) (base : ByteArray) (recs : List ByteArray) (held unfit : Bool) : (⟨(), (mkJ fr H a s base recs used held unfit).f1, (mkJ fr H a s base recs used held unfit).f2, (mkJ fr H a s base recs used held unfit).f3, (⟨(), (), (mkJ fr H a s base recs used held unfit).f4.f2⟩ : T_atomic_Int64), (mkJ fr H a s base recs used held unfit).f5, (mkJ fr H a s base recs used held unfit).f6, (mkJ fr H a s base recs used held unfit).f7, (mkJ fr H a s base recs used held unfit).f8, (mkJ fr H a s base recs used held unfit).f9⟩ : T_journal_Journal) = mkJ fr H a s base recs used held unfit := rfl
theorem room_run : journal_Journal_Room.f (mkJ fr H a s base recs used held false) = some (IntKind.wrap .i64 ((H : Int) - (used : Int))) := rfl
theorem records_run (h : recs.length ≤ 8796093022208) (unfit : Bool) : journal_Journal_Records.f (mkJ fr H a s base recs used held unfit) = some recs := by
  unfold journal_Journal_Records.f
  rw [asrt_pos (by show 0 + recs.length ≤ _; omega)]
  rfl
theorem append_full (K : Nat) (text : ByteArray) (ht : text.size ≤ 65536) (hH : H ≤ 8192) (hu : used ≤ H) (hfull : H < used + sec text.size) : journal_Journal_Append.f K (mkJ fr H a s base recs used held false) D text = some (60, mkJ fr H a s base recs used held false, D) := by
  have hsec : sec text.size ≤ 200 := by unfold sec; omega
  unfold journal_Journal_Append.f
  rw [frame_Sectors.isN text.size ht]
  simp only [Option.bind_some]
  rw [if_neg (by show ¬ false = true; simp), if_neg (by omega), mkJ_eta, room_run]
  simp only [Option.bind_some]
  rw [if_pos (by rw [wi (by omega) (by omega)]; omega)]
theorem append_run (K : Nat) (h : DRel N D c hs) (hf : Fl D lf) (text : ByteArray) (ht : text.size ≤ 65536) (ha : a ≤ 1) (hu : used + sec text.size ≤ H) (hN : fr + 4 + 2 * H ≤ N) (hs1 : s + 1 < 4611686018427387904) (hr : recs.length ≤ 100000) (hh : hs.length ≤ 500000) (hK : 600000 ≤ K) :
    ∃ e J' D', journal_Journal_Append.f K (mkJ fr H a s base recs used held false) D text = some (e, J', D') ∧
      ((e = 0 ∧ J' = mkJ fr H a (s + 1) base (recs ++ [text]) (used + sec text.size) true false ∧ Puts N c hs lf fr H a s used base recs (fr + 4 + a * H + used) a (recs.length + 2) text 0 (mkJ fr H a (s + 1) base recs used true false) D') ∨
       (e = 41 ∧ Puts N c hs lf fr H a s used base recs (fr + 4 + a * H + used) a (recs.length + 2) text 41 J' D')) := by
  have hN2 := h.n2
  have hsec : sec text.size ≤ 200 := by unfold sec; omega
  unfold journal_Journal_Append.f
  rw [frame_Sectors.isN text.size ht]
  simp only [Option.bind_some]
  rw [if_neg (by show ¬ false = true; simp), if_neg (by omega), mkJ_eta, room_run]
  simp only [Option.bind_some]
  rw [if_neg (by rw [wi (by omega) (by omega)]; omega)]
  have hw : IntKind.wrap .i64 (((mkJ fr H a s base recs used held false).f6.length : Int) + 2) = ((recs.length + 2 : Nat) : Int) := by
    show IntKind.wrap .i64 ((recs.length : Int) + 2) = _
    rw [wi (by omega) (by omega)]; omega
  rw [hw]
  obtain ⟨e, J', D', e1, e2⟩ := puts_run (fr := fr) (H := H) (a := a) (s := s) (used := used) (base := base) (recs := recs) (held := held) K h hf a used (recs.length + 2) text ht ha hu hN hs1 (by omega) hh hK
  show ∃ e J' D', (journal_Journal_puts.f K (mkJ fr H a s base recs used held false) D (a : Int) (used : Int) text ((recs.length + 2 : Nat) : Int)).bind _ = _ ∧ _
  rw [e1]
  simp only [Option.bind_some]
  cases e2 with
  | done D' hc hd hfl =>
    rw [if_pos rfl, asrt_pos (by show recs.length + 1 ≤ _; omega)]
    refine ⟨0, _, D', rfl, .inl ⟨rfl, ?_, .done D' hc hd hfl⟩⟩
    show (⟨(), (fr : Int), (H : Int), (a : Int), ⟨(), (), ((s + 1 : Nat) : Int)⟩, base, recs ++ [text], IntKind.wrap .i64 ((used : Int) + ((sec text.size : Nat) : Int)), true, false⟩ : T_journal_Journal) = _
    rw [wi (by omega) (by omega)]
    unfold mkJ
    congr 1
  | cut t J' D' hc htt hd hdn hJ =>
    rw [if_neg (by omega)]
    exact ⟨41, J', D', rfl, .inr ⟨rfl, .cut t J' D' hc htt hd hdn hJ⟩⟩
  | late J' D' hc hd hdn hJ =>
    rw [if_neg (by omega)]
    exact ⟨41, J', D', rfl, .inr ⟨rfl, .late J' D' hc hd hdn hJ⟩⟩
theorem ckpt0_run (K : Nat) (h : DRel N D c hs) (hf : Fl D lf) (text : ByteArray) (ht : text.size ≤ 65536) (ha : a ≤ 1) (hu : sec text.size ≤ H) (hN : fr + 4 + 2 * H ≤ N) (hs1 : s + 1 < 4611686018427387904) (hh : hs.length ≤ 500000) (hK : 600000 ≤ K) :
    ∃ e J' D', journal_Journal_Checkpoint.j0 K text ((sec text.size : Nat) : Int) (mkJ fr H a s base recs used held false) D = some (e, J', D') ∧
      ((e = 0 ∧ J' = mkJ fr H (1 - a) (s + 1) text [] (sec text.size) true false ∧ Puts N c hs lf fr H a s used base recs (fr + 4 + (1 - a) * H + 0) (1 - a) 1 text 0 (mkJ fr H a (s + 1) base recs used true false) D') ∨
       (e = 41 ∧ Puts N c hs lf fr H a s used base recs (fr + 4 + (1 - a) * H + 0) (1 - a) 1 text 41 J' D')) := by
  unfold journal_Journal_Checkpoint.j0
  have hw : IntKind.wrap .i64 (1 - (a : Int)) = ((1 - a : Nat) : Int) := by rw [wi (by omega) (by omega)]; omega
  obtain ⟨e, J', D', e1, e2⟩ := puts_run (fr := fr) (H := H) (a := a) (s := s) (used := used) (base := base) (recs := recs) (held := held) K h hf (1 - a) 0 1 text ht (by omega) (by omega) hN hs1 (by omega) hh hK
  show ∃ e J' D', (journal_Journal_puts.f K (mkJ fr H a s base recs used held false) D (IntKind.wrap .i64 (1 - (a : Int))) 0 text 1).bind _ = _ ∧ _
  have e1' : journal_Journal_puts.f K (mkJ fr H a s base recs used held false) D ((1 - a : Nat) : Int) 0 text 1 = some (e, J', D') := e1
  rw [hw, e1']
  simp only [Option.bind_some]
  cases e2 with
  | done D' hc hd hfl =>
    rw [if_pos rfl]
    refine ⟨0, _, D', rfl, .inl ⟨rfl, ?_, .done D' hc hd hfl⟩⟩
    show (⟨(), (fr : Int), (H : Int), IntKind.wrap .i64 (1 - (a : Int)), ⟨(), (), ((s + 1 : Nat) : Int)⟩, text, [], ((sec text.size : Nat) : Int), true, false⟩ : T_journal_Journal) = _
    rw [hw]
    rfl
  | cut t J' D' hc htt hd hdn hJ =>
    rw [if_neg (by omega)]
    exact ⟨41, J', D', rfl, .inr ⟨rfl, .cut t J' D' hc htt hd hdn hJ⟩⟩
  | late J' D' hc hd hdn hJ =>
    rw [if_neg (by omega)]
    exact ⟨41, J', D', rfl, .inr ⟨rfl, .late J' D' hc hd hdn hJ⟩⟩
theorem ckpt_head (K : Nat) (text : ByteArray) (ht : text.size ≤ 65536) (hu : sec text.size ≤ H) (D : T_dev_Dev) : journal_Journal_Checkpoint.f K (mkJ fr H a s base recs used held false) D text = if held = true then ((journal_Journal_flush.f K (mkJ fr H a s base recs used held false) D).bind fun t => if t.1 = 0 then journal_Journal_Checkpoint.j0 K text ((sec text.size : Nat) : Int) t.2.1 t.2.2 else some (t.1, t.2.1, t.2.2)) else journal_Journal_Checkpoint.j0 K text ((sec text.size : Nat) : Int) (mkJ fr H a s base recs used held false) D := by
  unfold journal_Journal_Checkpoint.f
  rw [frame_Sectors.isN text.size ht]
  simp only [Option.bind_some]
  rw [if_neg (by show ¬ false = true; simp), if_neg (by omega), if_neg (by show ¬ _ > (H : Int); omega)]
  rfl
theorem ckpt_calm (K : Nat) (h : DRel N D c hs) (hf : Fl D none) (text : ByteArray) (ht : text.size ≤ 65536) (ha : a ≤ 1) (hu : sec text.size ≤ H) (hN : fr + 4 + 2 * H ≤ N) (hs1 : s + 1 < 4611686018427387904) (hh : hs.length ≤ 500000) (hK : 600000 ≤ K) :
    ∃ D', journal_Journal_Checkpoint.f K (mkJ fr H a s base recs used held false) D text = some (0, mkJ fr H (1 - a) (s + 1) text [] (sec text.size) true false, D') ∧
      DRel N D' (view (if held then view c hs else c) ((if held then [] else hs) ++ chunks (putB ((s + 1 : Nat) : Int) text) (fr + 4 + (1 - a) * H + 0) 0 (sec text.size))) [(fr + (s + 1) % 2, slotB (s + 1) (1 - a) 1)] ∧ Fl D' none := by
  rw [ckpt_head K text ht hu D]
  cases held with
  | false =>
    rw [if_neg (by simp)]
    obtain ⟨e, J', D', e1, e2⟩ := ckpt0_run (used := used) (base := base) (recs := recs) (held := false) K h hf text ht ha hu hN hs1 hh hK
    rcases e2 with ⟨rfl, rfl, e2⟩ | ⟨_, e2⟩
    · cases e2 with
      | done D' hc hd hfl => exact ⟨D', e1, hd, hfl⟩
    · cases e2 with
      | cut t J' D' hc htt hd hdn hJ => cases hc
      | late J' D' hc hd hdn hJ => cases hc
  | true =>
    simp only [if_true]
    obtain ⟨D1, g1, g2, _⟩ := jflush_run (fr := fr) (H := H) (a := a) (s := s) (used := used) (base := base) (recs := recs) (held := true) K h hf (by omega) (by omega)
    obtain ⟨k1, k2⟩ := g2 rfl
    have g1' : journal_Journal_flush.f K (mkJ fr H a s base recs used true false) D = some (0, mkJ fr H a s base recs used false false, D1) := by rw [g1]; rfl
    rw [g1']
    simp only [Option.bind_some]
    rw [if_pos trivial]
    obtain ⟨e, J', D', e1, e2⟩ := ckpt0_run (used := used) (base := base) (recs := recs) (held := false) K k1 k2 text ht ha hu hN hs1 (by simp) hK
    show ∃ D', journal_Journal_Checkpoint.j0 K text ((sec text.size : Nat) : Int) (mkJ fr H a s base recs used false false) D1 = _ ∧ _
    rcases e2 with ⟨rfl, rfl, e2⟩ | ⟨_, e2⟩
    · cases e2 with
      | done D' hc hd hfl => exact ⟨D', e1, hd, hfl⟩
    · cases e2 with
      | cut t J' D' hc htt hd hdn hJ => cases hc
      | late J' D' hc hd hdn hJ => cases hc
theorem append_calm (K : Nat) (h : DRel N D c hs) (hf : Fl D none) (text : ByteArray) (ht : text.size ≤ 65536) (ha : a ≤ 1) (hu : used + sec text.size ≤ H) (hN : fr + 4 + 2 * H ≤ N) (hs1 : s + 1 < 4611686018427387904) (hr : recs.length ≤ 100000) (hh : hs.length ≤ 500000) (hK : 600000 ≤ K) :
    ∃ D', journal_Journal_Append.f K (mkJ fr H a s base recs used held false) D text = some (0, mkJ fr H a (s + 1) base (recs ++ [text]) (used + sec text.size) true false, D') ∧
      DRel N D' (view c (hs ++ chunks (putB ((s + 1 : Nat) : Int) text) (fr + 4 + a * H + used) 0 (sec text.size))) [(fr + (s + 1) % 2, slotB (s + 1) a (recs.length + 2))] ∧ Fl D' none := by
  obtain ⟨e, J', D', e1, e2⟩ := append_run (base := base) (held := held) K h hf text ht ha hu hN hs1 hr hh hK
  rcases e2 with ⟨rfl, rfl, e2⟩ | ⟨_, e2⟩
  · cases e2 with
    | done D' hc hd hfl => exact ⟨D', e1, hd, hfl⟩
  · cases e2 with
    | cut t J' D' hc htt hd hdn hJ => cases hc
    | late J' D' hc hd hdn hJ => cases hc
theorem placed_run (h : DRel N D c hs) (fr S : Nat) (h8 : 8 ≤ S) (hS : fr + S ≤ N) : journal_placed.f D (fr : Int) (S : Int) = some (some (mkJ fr ((S - 4) / 2) 0 0 NB [] 0 false false), D) := by
  have hN2 := h.n2
  unfold journal_placed.f
  rw [if_neg (by omega), if_neg (by omega), dev_eta]
  rw [show dev_Dev_Size.f D = some (D.f0.length : Int) from rfl, h.l0]
  simp only [Option.bind_some]
  rw [if_neg (by omega), if_neg (by rw [wi (by omega) (by omega)]; omega)]
  have hw : IntKind.wrap .i64 (Int.tdiv (IntKind.wrap .i64 ((S : Int) - 4)) 2) = (((S - 4) / 2 : Nat) : Int) := by
    rw [wi (n := (S : Int) - 4) (by omega) (by omega), Int.tdiv_eq_ediv_of_nonneg (by omega), wi (by omega) (by omega)]
    omega
  rw [hw]
  rfl
def zeros2 (fr : Nat) : Held := chunks (ZN 1024) fr 0 2
theorem format_run (K : Nat) (h : DRel N D c []) (hf : Fl D none) (fr S : Nat) (h8 : 8 ≤ S) (hS : fr + S ≤ N) (base : ByteArray) (hb : base.size ≤ 65536) (hbH : sec base.size ≤ (S - 4) / 2) (hK : 600000 ≤ K) :
    ∃ D', journal_Format.f K D (fr : Int) (S : Int) base = some (some (mkJ fr ((S - 4) / 2) 0 1 base [] (sec base.size) false false), 0, D') ∧
      DRel N D' (view (view (view c (zeros2 fr)) (chunks (putB ((1 : Nat) : Int) base) (fr + 4 + 0 * ((S - 4) / 2) + 0) 0 (sec base.size))) [(fr + 1 % 2, slotB 1 0 1)]) [] ∧ Fl D' none := by
  unfold journal_Format.f
  rw [placed_run h fr S h8 hS]
  simp only [Option.bind_some, optc]
  rw [if_neg (by omega), frame_Sectors.isN base.size hb]
  simp only [Option.bind_some]
  rw [if_neg (by show ¬ _ > (((S - 4) / 2 : Nat) : Int); omega), show (1024 : Int) = ((1024 : Nat) : Int) from rfl, repeat_run 1024 (by omega)]
  simp only [Option.bind_some]
  obtain ⟨D1, e1, e2, e3, _⟩ := write_run K h hf fr 2 (ZN 1024) (by rw [ZN_size]) (by omega) (by simp) (by omega)
  rw [e1]
  simp only [Option.bind_some, can, if_true, mkJ_eta]
  obtain ⟨D2, g1, g2, _⟩ := jflush_run (fr := fr) (H := (S - 4) / 2) (a := 0) (s := 0) (used := 0) (base := NB) (recs := []) (held := false) K e2 (e3 rfl) (by rw [List.nil_append, chunks_length]; show 2 ≤ _; omega) (by rw [List.nil_append, chunks_length]; show 2 < _; omega)
  obtain ⟨k1, k2⟩ := g2 rfl
  rw [g1]
  simp only [Option.bind_some, can, if_true]
  obtain ⟨e, J', D3, p1, p2⟩ := puts_run (fr := fr) (H := (S - 4) / 2) (a := 0) (s := 0) (used := 0) (base := NB) (recs := []) (held := false) K k1 k2 0 0 1 base hb (by omega) (by omega) (by omega) (by omega) (by omega) (by simp) hK
  show ∃ D', (journal_Journal_puts.f K (mkJ fr ((S - 4) / 2) 0 0 NB [] 0 false false) D2 ((0 : Nat) : Int) ((0 : Nat) : Int) base ((1 : Nat) : Int)).bind _ = _ ∧ _
  rw [p1]
  simp only [Option.bind_some]
  cases p2 with
  | cut t J' D' hc htt hd hdn hJ => cases hc
  | late J' D' hc hd hdn hJ => cases hc
  | done D' hc hd hfl =>
    rw [if_pos rfl]
    obtain ⟨D4, q1, q2, _⟩ := jflush_run (fr := fr) (H := (S - 4) / 2) (a := 0) (s := 1) (used := 0) (base := NB) (recs := []) (held := true) K hd hfl (by simp) (by simp; omega)
    obtain ⟨r1, r2⟩ := q2 rfl
    show ∃ D', (journal_Journal_flush.f K (mkJ fr ((S - 4) / 2) 0 1 NB [] 0 true false) D3).bind _ = _ ∧ _
    rw [q1]
    simp only [Option.bind_some, can, if_true]
    refine ⟨D4, rfl, ?_, r2⟩
    rw [List.nil_append] at r1
    exact r1
end
end Go.Proofs.YtokdiacjcbolfaaDoor.F
namespace Go.Proofs.YtokdiacjcbolfaaDoor.F
open Go Go.RowKit Go.Proofs.YtokdiacjcbolfaaDoor.X
set_option linter.unusedVariables false
theorem mod_run (a : Int) (m : Nat) (ha : (-9223372036854775808) ≤ a ∧ a ≤ 9223372036854775807) (h1 : 1 ≤ m) (h2 : m ≤ 1000000) : ∃ r : Nat, headgatekeep_Mod.f a (m : Int) = some (r : Int) ∧ r < m := by
  unfold headgatekeep_Mod.f
  rw [if_neg (by omega), asrt_pos (by omega)]
  have l1 := Int.tmod_lt_of_pos a (show (0 : Int) < (m : Int) by omega)
  have l2 := Int.lt_tmod_of_pos a (show (0 : Int) < (m : Int) by omega)
  rw [wi (by omega) (by omega)]
  have l3 := Int.tmod_lt_of_pos (Int.tmod a (m : Int) + (m : Int)) (show (0 : Int) < (m : Int) by omega)
  have l4 := Int.tmod_nonneg (m : Int) (show 0 ≤ Int.tmod a (m : Int) + (m : Int) by omega)
  exact ⟨(Int.tmod (Int.tmod a (m : Int) + (m : Int)) (m : Int)).toNat, by congr 1; omega, by omega⟩
end Go.Proofs.YtokdiacjcbolfaaDoor.F
namespace Go.Proofs.YtokdiacjcbolfaaDoor.F
open Go Go.RowKit Go.Proofs.YtokdiacjcbolfaaDoor.X
set_option linter.unusedVariables false
set_option linter.unusedSimpArgs false
section
variable {n k H each want : Nat} {text : ByteArray}
def Calm (N : Nat) (D : T_dev_Dev) : Prop := ∃ c hs, DRel N D c hs ∧ Fl D none ∧ hs.length ≤ 1
theorem full_exps (n k : Nat) (hn : n ≤ 100) (h8 : 8 ≤ n) (hk : k ≤ 2000) :
    IntKind.wrap .i64 (Int.tdiv (IntKind.wrap .i64 ((n : Int) - 4)) 2) = (((n - 4) / 2 : Nat) : Int) ∧ IntKind.wrap .i64 (Int.tdiv (IntKind.wrap .i64 ((IntKind.wrap .i64 (24 + (k : Int))) + 511)) 512) = ((sec k : Nat) : Int) := by
  constructor
  · rw [wi (n := (n : Int) - 4) (by omega) (by omega), Int.tdiv_eq_ediv_of_nonneg (by omega), wi (by omega) (by omega)]; omega
  · rw [wi (n := 24 + (k : Int)) (by omega) (by omega), wi (n := 24 + (k : Int) + 511) (by omega) (by omega), Int.tdiv_eq_ediv_of_nonneg (by omega), wi (by omega) (by omega)]; unfold sec; omega
theorem full_want (H e : Nat) (hH : 1 ≤ H) (hH2 : H ≤ 100) (he : 1 ≤ e) : IntKind.wrap .i64 (Int.tdiv (IntKind.wrap .i64 ((H : Int) - 1)) (e : Int)) = (((H - 1) / e : Nat) : Int) := by
  rw [wi (n := (H : Int) - 1) (by omega) (by omega), Int.tdiv_eq_ediv_of_nonneg (by omega)]
  have : ((H : Int) - 1) / (e : Int) = (((H - 1) / e : Nat) : Int) := by rw [Int.natCast_ediv]; congr 1; omega
  rw [this]
  have h2 : (H - 1) / e ≤ H - 1 := Nat.div_le_self _ _
  generalize (H - 1) / e = q at h2
  rw [wi (by omega) (by omega)]
theorem full_round (K : Nat) (hK : 600000 ≤ K) (h8 : 8 ≤ n) (hn : n ≤ 100) (hk : k ≤ 2000) (ht : text.size = k) (again : Int → T_journal_Journal → T_dev_Dev → Option Bool) (x : Int) (hx : 0 ≤ x ∧ x ≤ 3) (s0 : Nat) (hs0 : s0 ≤ 1000) (a : Nat) (ha : a ≤ 1)
    (hag : ∀ D' a', a' ≤ 1 → Calm n D' → again (x + 1) (mkJ 0 ((n - 4) / 2) a' (s0 + ((n - 4) / 2 - 1) / sec k + 1) NB [] 1 true false) D' = some true) :
    ∀ (r fuel i : Nat) (held : Bool) (D : T_dev_Dev), i + r = ((n - 4) / 2 - 1) / sec k → r < fuel → Calm n D →
      headgatelaw06_JournalFull.l3 K ((n : Int) - 8) (k : Int) text again x fuel (i : Int) (mkJ 0 ((n - 4) / 2) a (s0 + i) NB (List.replicate i text) (1 + i * sec k) held false) D = some true := by
  have e8 : IntKind.wrap .i64 (8 + ((n : Int) - 8)) = (n : Int) := by rw [wi (by omega) (by omega)]; omega
  obtain ⟨eH, eS⟩ := full_exps n k hn h8 hk
  have hsec1 : 1 ≤ sec k := by unfold sec; omega
  have hsec2 : sec k ≤ 5 := by unfold sec; omega
  have hsec0 : sec 0 = 1 := rfl
  have eW := full_want ((n - 4) / 2) (sec k) (by omega) (by omega) hsec1
  have hdm := Nat.div_add_mod ((n - 4) / 2 - 1) (sec k)
  have hml := Nat.mod_lt ((n - 4) / 2 - 1) (show sec k > 0 by omega)
  have hWle : ((n - 4) / 2 - 1) / sec k ≤ (n - 4) / 2 - 1 := Nat.div_le_self _ _
  intro r
  induction r with
  | zero =>
    intro fuel i held D h1 h2 hD
    obtain ⟨f, rfl⟩ : ∃ q, fuel = q + 1 := ⟨fuel - 1, by omega⟩
    have hi : i = ((n - 4) / 2 - 1) / sec k := by omega
    have hmul : i * sec k = sec k * (((n - 4) / 2 - 1) / sec k) := by rw [hi, Nat.mul_comm]
    show headgatelaw06_JournalFull.b3 K ((n : Int) - 8) (k : Int) text again x (headgatelaw06_JournalFull.l3 K ((n : Int) - 8) (k : Int) text again x f) (i : Int) _ D = some true
    unfold headgatelaw06_JournalFull.b3
    rw [e8, eH, eS, eW, if_neg (by omega)]
    rw [append_full (base := NB) (recs := List.replicate i text) (held := held) K text (by omega) (by omega) (by omega) (by rw [ht]; omega)]
    simp only [Option.bind_some, if_true]
    rw [mkJ_eta, records_run (by simp; omega) false]
    simp only [Option.bind_some]
    rw [if_pos (by rw [List.length_replicate]; omega), room_run]
    simp only [Option.bind_some]
    have hmi : ((((n - 4) / 2 - 1) / sec k : Nat) : Int) * ((sec k : Nat) : Int) = ((i * sec k : Nat) : Int) := by rw [← hi, Int.natCast_mul]
    rw [hmi]
    generalize i * sec k = m at hmul ⊢
    have hm1 : m ≤ (n - 4) / 2 - 1 := by omega
    rw [if_pos (by rw [wi (n := (((n - 4) / 2 : Nat) : Int) - ((1 + m : Nat) : Int)) (by omega) (by omega), wi (n := (((n - 4) / 2 : Nat) : Int) - 1) (by omega) (by omega), wi (n := (m : Int)) (by omega) (by omega), wi (by omega) (by omega)]; omega)]
    obtain ⟨c, hs, hd, hf, hl⟩ := hD
    obtain ⟨D', g1, g2, g3⟩ := ckpt_calm (fr := 0) (H := (n - 4) / 2) (a := a) (s := s0 + i) (used := 1 + m) (base := NB) (recs := List.replicate i text) (held := held) K hd hf NB (by show 0 ≤ _; omega) ha (by show sec 0 ≤ _; omega) (by omega) (by omega) (by omega) hK
    rw [g1]
    simp only [Option.bind_some, if_true]
    rw [mkJ_eta, records_run (by simp) false]
    simp only [Option.bind_some]
    rw [if_pos (by rfl), wi (by omega) (by omega)]
    have := hag D' (1 - a) (by omega) ⟨_, _, g2, g3, by simp⟩
    rw [← hi] at this
    exact this
  | succ r ih =>
    intro fuel i held D h1 h2 hD
    obtain ⟨f, rfl⟩ : ∃ q, fuel = q + 1 := ⟨fuel - 1, by omega⟩
    show headgatelaw06_JournalFull.b3 K ((n : Int) - 8) (k : Int) text again x (headgatelaw06_JournalFull.l3 K ((n : Int) - 8) (k : Int) text again x f) (i : Int) _ D = some true
    unfold headgatelaw06_JournalFull.b3
    rw [e8, eH, eS, eW, if_pos (by omega)]
    obtain ⟨c, hs, hd, hf, hl⟩ := hD
    have hmul : (i + 1) * sec k ≤ sec k * (((n - 4) / 2 - 1) / sec k) := by rw [Nat.mul_comm]; exact Nat.mul_le_mul_left _ (by omega)
    have hsplit : (i + 1) * sec k = i * sec k + sec k := Nat.succ_mul i (sec k)
    obtain ⟨D', g1, g2, g3⟩ := append_calm (fr := 0) (H := (n - 4) / 2) (a := a) (s := s0 + i) (used := 1 + i * sec k) (base := NB) (recs := List.replicate i text) (held := held) K hd hf text (by omega) ha (by rw [ht]; omega) (by omega) (by omega) (by simp; omega) (by omega) hK
    rw [g1]
    simp only [Option.bind_some, if_true]
    rw [wi (by omega) (by omega), show (i : Int) + 1 = ((i + 1 : Nat) : Int) by omega]
    have := ih f (i + 1) true D' (by omega) (by omega) ⟨_, _, g2, g3, by simp⟩
    have hr : List.replicate i text ++ [text] = List.replicate (i + 1) text := (List.replicate_succ').symm
    rw [hr, ht, show 1 + i * sec k + sec k = 1 + (i + 1) * sec k by omega]
    exact this
theorem full_rounds (K : Nat) (hK : 600000 ≤ K) (h8 : 8 ≤ n) (hn : n ≤ 100) (hk : k ≤ 2000) (ht : text.size = k) : ∀ (r fuel i : Nat) (s0 a : Nat) (held : Bool) (D : T_dev_Dev), i + r = 3 → r < fuel → s0 ≤ 1 + i * 100 → a ≤ 1 → Calm n D →
    headgatelaw06_JournalFull.l2 K ((n : Int) - 8) (k : Int) text fuel (i : Int) (mkJ 0 ((n - 4) / 2) a s0 NB [] 1 held false) D = some true := by
  obtain ⟨eH, eS⟩ := full_exps n k hn h8 hk
  have hsec1 : 1 ≤ sec k := by unfold sec; omega
  intro r
  induction r with
  | zero =>
    intro fuel i s0 a held D h1 h2 h3 h4 h5
    obtain ⟨f, rfl⟩ : ∃ q, fuel = q + 1 := ⟨fuel - 1, by omega⟩
    show headgatelaw06_JournalFull.b2 K ((n : Int) - 8) (k : Int) text (headgatelaw06_JournalFull.l2 K ((n : Int) - 8) (k : Int) text f) (i : Int) _ D = some true
    unfold headgatelaw06_JournalFull.b2
    rw [if_neg (by omega)]
    rfl
  | succ r ih =>
    intro fuel i s0 a held D h1 h2 h3 h4 h5
    obtain ⟨f, rfl⟩ : ∃ q, fuel = q + 1 := ⟨fuel - 1, by omega⟩
    show headgatelaw06_JournalFull.b2 K ((n : Int) - 8) (k : Int) text (headgatelaw06_JournalFull.l2 K ((n : Int) - 8) (k : Int) text f) (i : Int) _ D = some true
    unfold headgatelaw06_JournalFull.b2
    rw [if_pos (by omega), eS, asrt_pos (by omega)]
    have hWle : ((n - 4) / 2 - 1) / sec k ≤ (n - 4) / 2 - 1 := Nat.div_le_self _ _
    have := full_round K hK h8 hn hk ht (headgatelaw06_JournalFull.l2 K ((n : Int) - 8) (k : Int) text f) (i : Int) (by omega) s0 (by omega) a h4 (fun D' a' ha' hD' => by
      have := ih f (i + 1) (s0 + ((n - 4) / 2 - 1) / sec k + 1) a' true D' (by omega) (by omega) (by omega) ha' hD'
      rw [show ((i + 1 : Nat) : Int) = (i : Int) + 1 by omega] at this
      exact this) (((n - 4) / 2 - 1) / sec k) K 0 held D (by omega) (by omega) h5
    rw [Nat.zero_mul] at this
    exact this
end
theorem headgatelaw06_JournalFull.pure (a0 : Int) (a1 : Int) (o0 : (-9223372036854775808) ≤ a0 ∧ a0 ≤ 9223372036854775807) (o1 : (-9223372036854775808) ≤ a1 ∧ a1 ≤ 9223372036854775807) : ∃ K, headgatelaw06_JournalFull.f K a0 a1 = some true := by
  obtain ⟨K, hK⟩ : ∃ K : Nat, 600000 ≤ K := ⟨600000, Nat.le_refl _⟩
  refine ⟨K, ?_⟩
  obtain ⟨m, hm, hm2⟩ := mod_run a0 60 o0 (by omega) (by omega)
  obtain ⟨k, hk, hk2⟩ := mod_run a1 1200 o1 (by omega) (by omega)
  unfold headgatelaw06_JournalFull.f
  rw [show (60 : Int) = ((60 : Nat) : Int) from rfl, hm]
  simp only [Option.bind_some]
  rw [show (1200 : Int) = ((1200 : Nat) : Int) from rfl, hk]
  simp only [Option.bind_some]
  have e8 : IntKind.wrap .i64 (8 + (m : Int)) = ((m + 8 : Nat) : Int) := by rw [wi (by omega) (by omega)]; omega
  rw [e8]
  obtain ⟨D, d1, d2, d3, d4⟩ := new_run (m + 8) (by omega) (by omega)
  rw [d1]
  simp only [Option.bind_some, optc]
  obtain ⟨D', f1, f2, f3⟩ := format_run K d2 ⟨d3, d4⟩ 0 (m + 8) (by omega) (by omega) NB (by show 0 ≤ _; omega) (by show 1 ≤ _; omega) hK
  rw [show (0 : Int) = ((0 : Nat) : Int) from rfl, f1]
  simp only [Option.bind_some, optc]
  rw [if_pos trivial]
  unfold headgatelaw06_JournalFull.j1
  rw [if_neg (by simp)]
  have hz : headgatekeep_Zeros.f (k : Int) = some (strOfNums (List.replicate k 0)) := by
    unfold headgatekeep_Zeros.f
    rw [asrt_pos (by omega), asrt_pos (by omega)]
    rfl
  rw [hz]
  simp only [Option.bind_some]
  have := full_rounds (n := m + 8) (k := k) (text := strOfNums (List.replicate k 0)) K hK (by omega) (by omega) (by omega) (by rw [strOfNums_size, List.length_replicate]) 3 K 0 1 0 false D' (by omega) (by omega) (by omega) (by omega) ⟨_, _, f2, f3, by simp⟩
  rw [show ((m + 8 : Nat) : Int) - 8 = (m : Int) by omega] at this
  exact this
end Go.Proofs.YtokdiacjcbolfaaDoor.F
namespace Go.Proofs.YtokdiacjcbolfaaDoor.F
open Go Go.RowKit Go.ChangeShapes Go.WideShapes Go.ChangeAt Go.Proofs.YtokdiacjcbolfaaDoor.X
set_option linter.unusedVariables false
set_option linter.unusedSimpArgs false
theorem headgatelaw06_JournalFull.op0 (W : World) : XTold Tryd.prog W 3 (fun cs => ∃ (a0 : Int), cs = [.int .i64 a0] ∧ ((-9223372036854775808) ≤ a0 ∧ a0 ≤ 9223372036854775807)) := by
  refine XTold.mono (XTold.int Tryd.underlying3) ?_
  rintro cs ⟨n1, rfl, w1⟩
  exact ⟨n1, rfl, bounds_i64 w1⟩
theorem headgatelaw06_JournalFull.op1 (W : World) : XTold Tryd.prog W 3 (fun cs => ∃ (a1 : Int), cs = [.int .i64 a1] ∧ ((-9223372036854775808) ≤ a1 ∧ a1 ≤ 9223372036854775807)) := by
  refine XTold.mono (XTold.int Tryd.underlying3) ?_
  rintro cs ⟨n1, rfl, w1⟩
  exact ⟨n1, rfl, bounds_i64 w1⟩
theorem headgatelaw06_JournalFull.own : ownKnob Tryd.prog.godebug = none := by kernel_rfl
theorem headgatelaw06_JournalFull.laidOut : laidOutB Tryd.prog = true := by kernel_rfl
theorem headgatelaw06_JournalFull.flat1 : XFlat Tryd.prog 127 := (XFlat.array Tryd.underlying127 (XFlat.int Tryd.underlying97) (by kernel_rfl))
theorem headgatelaw06_JournalFull.laid1 {W : World} (h : laidMet Tryd.prog Rows.journalFullRow.laid W) : CA W 1 0 (encs (encIK .u32) G_crc_steps).toArray :=
  laid_ca h (name := "headgate/crc.steps") (d := Rows.laid_headgate_crc_steps) rfl (by kernel_rfl) (by kernel_rfl) headgatelaw06_JournalFull.flat1 (by kernel_rfl)
noncomputable def headgatelaw06_JournalFull.laidWorld (os : Os) : World :=
  { World.holding Tryd.prog os ⟨#[], #[], []⟩ with heap := ((((World.holding Tryd.prog os ⟨#[], #[], []⟩).heap).modify 1 (putT (encs (encIK .u32) G_crc_steps).toArray)).modify 3 (putT (encs T_utf8_acceptRange.enc G_utf8_acceptRanges).toArray)).modify 2 (putT (encs (encIK .u8) G_utf8_first).toArray) }
theorem headgatelaw06_JournalFull.laid_met (os : Os) : laidMet Tryd.prog Rows.journalFullRow.laid ((headgatelaw06_JournalFull.laidWorld os).forCall (fun _ _ => 0) ⟨#[], #[Value.int .i64 0, Value.int .i64 0], []⟩).memory :=
  laidMet_of_run' 8 (by kernel_rfl) (by kernel_rfl)
theorem headgatelaw06_JournalFull.reads (os : Os) {H : Type} (enc : TypeId × Value → H) : ∃ places, DataW.whole enc Tryd.prog ((headgatelaw06_JournalFull.laidWorld os).forCall (fun _ _ => 0) ⟨#[], #[Value.int .i64 0, Value.int .i64 0], []⟩).memory Tryd.f5.params.toList Rows.journalFullSpec.vars false (#[Value.int .i64 0, Value.int .i64 0] : Array Value).toList 8 = some ([.lit (.int .i64 0), .lit (.int .i64 0)], [], places) :=
  ⟨[], by kernel_rfl⟩
set_option maxRecDepth 100000 in
theorem headgatelaw06_JournalFull.lifted (os : Os) (started : os.Started) (H : Type) (enc : TypeId × Value → H) (F : Stop.Interp) :
    ReturnsInHanded {} Tryd.checked os 5 .any ((OpenSpec.ofChange Rows.journalFullSpec).preRow enc Tryd.prog Tryd.f5 Rows.journalFullRow.domain false Rows.journalFullRow.laid) (((OpenSpec.ofChange Rows.journalFullSpec).at F).post enc Tryd.prog Tryd.f5 false true false false) := by
  obtain ⟨places, hx⟩ := headgatelaw06_JournalFull.reads os enc
  refine returnsInHanded_of_row (C := Tryd.checked) (s := OpenSpec.ofChange Rows.journalFullSpec) headgatelaw06_JournalFull.own started (by kernel_rfl) Tryd.func5
    (witness_row_at (enc := enc) (C := Tryd.checked) false (headgatelaw06_JournalFull.laidWorld os) #[Value.int .i64 0, Value.int .i64 0] rfl (by kernel_rfl) (by kernel_rfl) (by kernel_rfl)
      (OpenSpec.preRow_of_cond 8 hx (by kernel_rfl) (fun k hk => by cases hk) (by kernel_rfl) (headgatelaw06_JournalFull.laid_met os))) ?_
  intro W base args ds gs before hval0 hW hcnd _ hsz0 hL _ _
  have hsz : (DataW.weightsEach Tryd.prog (Tryd.f5.params.toList ++ Rows.journalFullSpec.plain.varTypes Tryd.prog) (ds ++ gs)).all (· ≤ reachBytes) = true := hsz0
  have hLl : laidMet Tryd.prog Rows.journalFullRow.laid W := hL
  have hval : ∀ (j : Nat) t v, Tryd.f5.params[j]? = some t → args[j]? = some v → Value.okWide Tryd.prog W .any base t v := hval0
  have hW' := hW
  obtain ⟨p, q, hA0, hV, rfl, hfz, hnd⟩ := hW
  have hA : DataW.TrodAll enc Tryd.prog W 0 (fun _ => true) true Tryd.f5.params.toList args.toList ds p := hA0
  rw [Tryd.params5] at hA hval hsz
  obtain ⟨v0, vs0, d0, ds0, p0, q0, hargs, rfl, rfl, h0, r0⟩ := trodAll_cons hA
  obtain ⟨v1, vs1, d1, ds1, p1, q1, rfl, rfl, rfl, h1, r1⟩ := trodAll_cons r0
  obtain ⟨rfl, rfl, rfl⟩ := trodAll_nil r1
  obtain rfl : args = #[v0, v1] := by cases args; simp_all
  obtain ⟨rfl, rfl⟩ := trodVars_none hV
  have k0 := h0
  obtain ⟨a0, hc0, o0⟩ := (headgatelaw06_JournalFull.op0 W).arg h0 hsz (j := 0) rfl rfl
  obtain rfl := okWide_one (by kernel_rfl) (hval 0 3 v0 rfl rfl) hc0
  have k1 := h1
  obtain ⟨a1, hc1, o1⟩ := (headgatelaw06_JournalFull.op1 W).arg h1 hsz (j := 1) rfl rfl
  obtain rfl := okWide_one (by kernel_rfl) (hval 1 3 v1 rfl rfl) hc1
  clear hA0 hval0 hsz0 hsz
  obtain ⟨K, hK⟩ := headgatelaw06_JournalFull.pure a0 a1 o0 o1
  refine (headgatelaw06_JournalFull.calls K a0 a1  true W (headgatelaw06_JournalFull.laid1 hLl)  hK).mono fun e W' ⟨he, HW⟩ => ?_
  have bel := HW.below
  subst he
  exact ⟨_, rfl, _, _, _, [], _, [], hW', trodAll_mk1 (shut_bool Tryd.underlying4 _), (trodAll_cons_mk (Below.trod headgatelaw06_JournalFull.laidOut (by kernel_rfl) (of_decide_eq_true (by kernel_rfl)) k0 bel (trod_blocks k0)) (trodAll_cons_mk (Below.trod headgatelaw06_JournalFull.laidOut (by kernel_rfl) (of_decide_eq_true (by kernel_rfl)) k1 bel (trod_blocks k1)) trodAll_mk0)), rfl, bel.frame _, fun h => by cases h⟩
end Go.Proofs.YtokdiacjcbolfaaDoor.F
namespace Go.Proofs.YtokdiacjcbolfaaDoor
open Go Go.RowKit Go.ChangeShapes Go.WideShapes Go.ChangeAt Go.Proofs.YtokdiacjcbolfaaDoor.X Go.Proofs.YtokdiacjcbolfaaDoor.F
theorem journalFull_said : Rows.JournalFullSaid :=
  OpenClaim.holds_of_cond 5 Tryd.f5 rfl rfl rfl rfl rfl rfl rfl ⟨rfl, rfl, rfl, rfl, rfl⟩ rfl rfl rfl rfl rfl (by kernel_rfl) Tryd.func5 (by kernel_rfl)
    (of_decide_eq_true (by kernel_rfl)) (by unfold Func.isWrapper; first | (rw [if_pos (by decide +kernel)]; kernel_rfl) | (rw [if_neg (by decide +kernel)]; exact ⟨rfl, rfl⟩))
    (fun os started H enc _ F => by rw [OpenClaim.pre_eq_preRow]; exact headgatelaw06_JournalFull.lifted os started H enc F)
theorem journalFull_plain (f : FuncId) (fn : Func) (hf : Tryd.pinned.checked.prog.funcNamed "headgate/headgatelaw06.JournalFull" = some f) (hfn : Tryd.pinned.checked.prog.funcs[f]? = some fn) :
    true = Tryd.pinned.checked.prog.looks [] ∧ ∀ (j : Nat) t, fn.params[j]? = some t → Tryd.pinned.checked.prog.wantsStandIn t = false := by
  obtain rfl : f = 5 := Option.some.inj ((show Tryd.prog.funcNamed "headgate/headgatelaw06.JournalFull" = some 5 by kernel_rfl).symm.trans hf) |>.symm
  obtain rfl : fn = Tryd.f5 := (Option.some.inj (Tryd.func5.symm.trans hfn)).symm
  refine ⟨by kernel_rfl, fun j t ht => ?_⟩
  rw [Tryd.params5] at ht
  have hm := Array.mem_of_getElem? ht
  simp only [List.mem_toArray, List.mem_cons, List.not_mem_nil, or_false] at hm
  rcases hm with rfl | rfl
  · exact (show Tryd.prog.wantsStandIn 3 = false by kernel_rfl)
  · exact (show Tryd.prog.wantsStandIn 3 = false by kernel_rfl)
theorem journalFull_card : Rows.JournalFullCardSaid :=
  Claim7.holds_tied_plain_at .later [] _ _ _ _ journalFull_said (fun _ h => by cases h) (by kernel_rfl) (fun _ h => by cases h) journalFull_row_tie rfl ⟨rfl, rfl⟩ (by kernel_rfl) rfl journalFull_plain (by kernel_rfl)
end Go.Proofs.YtokdiacjcbolfaaDoor
