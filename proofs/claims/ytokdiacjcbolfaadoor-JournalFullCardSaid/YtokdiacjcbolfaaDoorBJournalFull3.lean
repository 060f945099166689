import Derived.Test.YtokdiacjcbolfaaDoorBJournalFull2
set_option linter.unusedVariables false
set_option linter.unusedSimpArgs false
namespace Go.Proofs.YtokdiacjcbolfaaDoor.F
open Go Go.RowKit Go.Proofs.YtokdiacjcbolfaaDoor.X
set_option linter.unusedVariables false
set_option linter.unusedSimpArgs false
def dev_New.f (a0 : Int) : Option ((Option T_dev_Dev) × Int) :=
  if a0 < 1 then (some ((none : Option T_dev_Dev), 1)) else (if a0 > 8192 then (some ((none : Option T_dev_Dev), 1)) else (asrt (0 ≤ a0) (asrt (a0 ≤ 17592186044416) (some ((some (⟨List.replicate (a0 : Int).toNat (⟨#[]⟩ : ByteArray), List.replicate (a0 : Int).toNat (⟨#[]⟩ : ByteArray), ([] : List T_dev_held), (⟨(), (), 0⟩ : T_atomic_Int64), false, 0, false⟩ : T_dev_Dev)), 0)))))
set_option maxRecDepth 100000 in
set_option maxHeartbeats 4000000 in
theorem dev_New.calls (a0 : Int)   (r : (Option T_dev_Dev) × Int) (w w1 : World) (F bs : Blks) (os : List OwnA) (HW : Wd w w1 (F ++ bs) os) (h : dev_New.f a0 = some r) :
    Calls Tryd.prog 8 #[.int .i64 a0] w1 (fun e W' => ∃ p_0 : Value, ∃ U_0 : Blks, e = .returned (.tuple #[p_0, .int .i64 r.2]) ∧ OptAt (fun p_ x_ u_ => T_dev_Dev.At p_  x_ u_) (r.1) p_0 U_0 ∧ Wd w W' (U_0 ++ (F ++ bs)) (os)) := by
  refine sxstart (n := 16) (l := [(0, .int .i64 a0)]) Tryd.func8 rfl rfl (Nat.le_of_ble_eq_true KR) (subsA_cons rfl (subsA_nil _)) ?_
  intro a ha
  replace HW : Wd w w1 (F ++ bs) (os) := HW
  unfold dev_New.f at h
  refine wp_seq_k (fun K10 hK11 => ?_)
  refine wp_region_lit ?_
  refine stepp ha 2 (.pointer none) KR KR ?_; clear ha a; intro a ha
  refine stepp ha 3 (.int .i64 0) KR KR ?_; clear ha a; intro a ha
  refine endl ?_
  refine thenN (hK11 _ _ ?_); clear hK11
  refine wp_seq_k (fun K12 hK13 => ?_)
  refine wp_seq_k (fun K14 hK15 => ?_)
  refine wp_region_lit ?_
  refine stepp ha 4 (.int .i64 a0) KR KR ?_; clear ha a; intro a ha
  refine stepp ha 5 (.bool (decide (a0 < 1))) KR KR ?_; clear ha a; intro a ha
  refine stepp ha 6 (.bool (decide (a0 < 1))) KR KR ?_; clear ha a; intro a ha
  by_cases hp16 : a0 < 1
  · skip
    replace h := ite_pos' h hp16
    replace ha := ha.bool 6 KR (decide_eq_true hp16)
    refine stepo ha 7 KR ?_; clear ha a; intro a ha
    refine stepo ha 8 KR ?_; clear ha a; intro a ha
    refine stepp ha 9 (.bool true) KR KR ?_; clear ha a; intro a ha
    refine endl ?_
    refine thenN (hK15 _ _ ?_); clear hK15
    refine condT ha KR KR (t := true) (rfl) ?_
    refine wp_seq_k (fun K17 hK18 => ?_)
    refine wp_region_lit ?_
    refine stepp ha 2 (.pointer none) KR KR ?_; clear ha a; intro a ha
    refine stepp ha 3 (.int .i64 1) KR KR ?_; clear ha a; intro a ha
    refine endl ?_
    refine thenN (hK18 _ _ ?_); clear hK18
    refine wp_ret ?_
    refine thenR ?_
    obtain rfl := Option.some.inj h
    exact finv ha _ _ rfl (.tmp (v := .pointer none) KR (.tmp (v := .int .i64 1) KR .nil)) (.tuple #[.pointer none, .int .i64 1]) rfl ⟨.pointer none, [], rfl, ⟨rfl, rfl⟩, (Wd.segs (ss := [F]) (bt := bs) (m := []) (ot := os) [F] [] HW [0] [] [] KR KR (by decide) KR)⟩
  · skip
    replace h := ite_neg' h hp16
    replace ha := ha.bool 6 KR (decide_eq_false hp16)
    refine stepp ha 7 (.int .i64 a0) KR KR ?_; clear ha a; intro a ha
    refine stepp ha 8 (.bool (decide (a0 > 8192))) KR KR ?_; clear ha a; intro a ha
    refine stepp ha 9 (.bool (decide (a0 > 8192))) KR KR ?_; clear ha a; intro a ha
    refine endl ?_
    refine thenN (hK15 _ _ ?_); clear hK15
    by_cases hp19 : a0 > 8192
    · skip
      replace h := ite_pos' h hp19
      refine condT ha KR KR (t := decide (a0 > 8192)) (decide_eq_true hp19) ?_
      refine wp_seq_k (fun K20 hK21 => ?_)
      refine wp_region_lit ?_
      refine stepp ha 2 (.pointer none) KR KR ?_; clear ha a; intro a ha
      refine stepp ha 3 (.int .i64 1) KR KR ?_; clear ha a; intro a ha
      refine endl ?_
      refine thenN (hK21 _ _ ?_); clear hK21
      refine wp_ret ?_
      refine thenR ?_
      obtain rfl := Option.some.inj h
      exact finv ha _ _ rfl (.tmp (v := .pointer none) KR (.tmp (v := .int .i64 1) KR .nil)) (.tuple #[.pointer none, .int .i64 1]) rfl ⟨.pointer none, [], rfl, ⟨rfl, rfl⟩, (Wd.segs (ss := [F]) (bt := bs) (m := []) (ot := os) [F] [] HW [0] [] [] KR KR (by decide) KR)⟩
    · skip
      replace h := ite_neg' h hp19
      refine condF ha KR KR (t := decide (a0 > 8192)) (decide_eq_false hp19) ?_
      refine wp_skip ?_
      refine thenN (hK13 _ _ ?_); clear hK13
      refine wp_seq_k (fun K22 hK23 => ?_)
      obtain ⟨hA24, h_⟩ := asrt_some h; clear h; have h := h_; clear h_
      obtain ⟨hA25, h_⟩ := asrt_some h; clear h; have h := h_; clear h_
      refine regionM 4 KR [.fix (.int .i64 a0), (.pr (fun v_ => ∃ A_ c_, v_ = .slice A_ (List.replicate (a0 : Int).toNat (⟨#[]⟩ : ByteArray)).length c_)), .fix (.int .i64 a0), (.pr (fun v_ => ∃ A_ c_, v_ = .slice A_ (List.replicate (a0 : Int).toNat (⟨#[]⟩ : ByteArray)).length c_))] [(1, 11, ⟨9, 1, (List.replicate (a0 : Int).toNat (⟨#[]⟩ : ByteArray)).length, encs encS (List.replicate (a0 : Int).toNat (⟨#[]⟩ : ByteArray))⟩), (3, 13, ⟨9, 1, (List.replicate (a0 : Int).toNat (⟨#[]⟩ : ByteArray)).length, encs encS (List.replicate (a0 : Int).toNat (⟨#[]⟩ : ByteArray))⟩)] KR ((F ++ bs), (os)) ha HW ?_ ?_ ?_
      · skip
        refine ⟨?_, ?_, ?_, ?_, trivial⟩
        · skip
          show OpOk _ _ _ _ _ _ _ _ _ _
          intro a wr hn hd HW hs; have ha := hasNil hn hd
          have ha := ha.add (seeE hs 0 (.int .i64 a0) KR KR)
          refine yStep ha 10 KR ?_; intro l_ ha HK
          refine stepp ha 10 (.int .i64 a0) KR KR ?_; intro ax hax; exact HK _ _ _ hax rfl (Below.refl _ _)
        · skip
          show MakeOk _ _ _ _ _ _ _ _ _
          intro a wr hn hd HW hs; have ha := hasNil hn hd
          have ha := ha.add (seeF hs 10 0 (.int .i64 a0) KR KR)
          refine yStepA ha 11 KR ?_; intro l_ ha HK
          refine stepmk encS (⟨#[]⟩ : ByteArray) ha (Wd.refl wr) 11 22 9 (.tmp 10) (.tmp 10) .i64 .i64 a0 (.string (⟨#[]⟩ : ByteArray)) 16 rfl KR KR KR KR rfl rfl hA24 (by have := hA25; omega) (by have := hA25; omega) KR ?_; intro b26 ax W27 HV hax; exact HK _ _ _ hax ⟨⟨_, _, rfl⟩, HV⟩
        · skip
          show OpOk _ _ _ _ _ _ _ _ _ _
          intro a wr hn hd HW hs; have ha := hasNil hn hd
          have ha := ha.add (seeE hs 0 (.int .i64 a0) KR KR)
          refine yStep ha 12 KR ?_; intro l_ ha HK
          refine stepp ha 12 (.int .i64 a0) KR KR ?_; intro ax hax; exact HK _ _ _ hax rfl (Below.refl _ _)
        · skip
          show MakeOk _ _ _ _ _ _ _ _ _
          intro a wr hn hd HW hs; have ha := hasNil hn hd
          have ha := ha.add (seeF hs 12 2 (.int .i64 a0) KR KR)
          refine yStepA ha 13 KR ?_; intro l_ ha HK
          refine stepmk encS (⟨#[]⟩ : ByteArray) ha (Wd.refl wr) 13 22 9 (.tmp 12) (.tmp 12) .i64 .i64 a0 (.string (⟨#[]⟩ : ByteArray)) 16 rfl KR KR KR KR rfl rfl hA24 (by have := hA25; omega) (by have := hA25; omega) KR ?_; intro b31 ax W32 HV hax; exact HK _ _ _ hax ⟨⟨_, _, rfl⟩, HV⟩
      · skip
        intro p_ hp_; simp only [List.mem_cons, List.not_mem_nil, or_false] at hp_
        rcases hp_ with rfl | rfl
        all_goals exact KR
      · skip
        intro a W36 ha HW he hf
        obtain ⟨_, he1_, A29, c30, rfl⟩ := gotK (m := 4) (j := 1) (d := 11) (f := (.pr (fun v_ => ∃ A_ c_, v_ = .slice A_ (List.replicate (a0 : Int).toNat (⟨#[]⟩ : ByteArray)).length c_))) hf KR KR KR; replace ha := ha.add he1_; have hg1_ := getD_some he1_; clear he1_
        obtain ⟨_, he3_, A34, c35, rfl⟩ := gotK (m := 4) (j := 3) (d := 13) (f := (.pr (fun v_ => ∃ A_ c_, v_ = .slice A_ (List.replicate (a0 : Int).toNat (⟨#[]⟩ : ByteArray)).length c_))) hf KR KR KR; replace ha := ha.add he3_; have hg3_ := getD_some he3_; clear he3_
        replace HW : Wd w W36 (F ++ bs) ([(⟨9, 1, (List.replicate (a0 : Int).toNat (⟨#[]⟩ : ByteArray)).length, encs encS (List.replicate (a0 : Int).toNat (⟨#[]⟩ : ByteArray))⟩ : MkRow).own (a.tmps.getD 11 undef), (⟨9, 1, (List.replicate (a0 : Int).toNat (⟨#[]⟩ : ByteArray)).length, encs encS (List.replicate (a0 : Int).toNat (⟨#[]⟩ : ByteArray))⟩ : MkRow).own (a.tmps.getD 13 undef)] ++ (os)) := HW; rw [hg1_, hg3_] at HW; clear hg1_ hg3_
        replace HW : Wd w W36 (F ++ bs) (⟨9, 1, .slice A29 (List.replicate (a0 : Int).toNat (⟨#[]⟩ : ByteArray)).length c30, (List.replicate (a0 : Int).toNat (⟨#[]⟩ : ByteArray)).length, encs encS (List.replicate (a0 : Int).toNat (⟨#[]⟩ : ByteArray))⟩ :: ⟨9, 1, .slice A34 (List.replicate (a0 : Int).toNat (⟨#[]⟩ : ByteArray)).length c35, (List.replicate (a0 : Int).toNat (⟨#[]⟩ : ByteArray)).length, encs encS (List.replicate (a0 : Int).toNat (⟨#[]⟩ : ByteArray))⟩ :: os) := HW
        clear he hf
        refine stepp ha 14 (.agg #[.slice A29 (List.replicate (a0 : Int).toNat (⟨#[]⟩ : ByteArray)).length c30, .slice A34 (List.replicate (a0 : Int).toNat (⟨#[]⟩ : ByteArray)).length c35, .slice none 0 0, .int .i64 0, .bool false, .int .i64 0, .bool false]) KR KR ?_; clear ha a; intro a ha
        refine stepnew ha HW 15 #[.slice A29 (List.replicate (a0 : Int).toNat (⟨#[]⟩ : ByteArray)).length c30, .slice A34 (List.replicate (a0 : Int).toNat (⟨#[]⟩ : ByteArray)).length c35, .slice none 0 0, .int .i64 0, .bool false, .int .i64 0, .bool false] 53 KR KR ?_; clear ha HW a; intro b37 a W38 HW ha
        refine stepp ha 2 (.pointer (some ⟨b37, 0, none⟩)) KR KR ?_; clear ha a; intro a ha
        refine stepp ha 3 (.int .i64 0) KR KR ?_; clear ha a; intro a ha
        refine endl ?_
        refine thenN (hK23 _ _ ?_); clear hK23
        refine wp_ret ?_
        replace HW := HW.nilo 62 2
        replace HW : Wd w W38 ((b37, .cells #[.slice A29 (List.replicate (a0 : Int).toNat (⟨#[]⟩ : ByteArray)).length c30, .slice A34 (List.replicate (a0 : Int).toNat (⟨#[]⟩ : ByteArray)).length c35, .slice none 0 0, .int .i64 0, .bool false, .int .i64 0, .bool false] 53 (0, 0)) :: F ++ bs) (⟨62, 2, .slice none 0 0, ([] : List T_dev_held).length, encs T_dev_held.enc ([] : List T_dev_held)⟩ :: ⟨9, 1, .slice A29 (List.replicate (a0 : Int).toNat (⟨#[]⟩ : ByteArray)).length c30, (List.replicate (a0 : Int).toNat (⟨#[]⟩ : ByteArray)).length, encs encS (List.replicate (a0 : Int).toNat (⟨#[]⟩ : ByteArray))⟩ :: ⟨9, 1, .slice A34 (List.replicate (a0 : Int).toNat (⟨#[]⟩ : ByteArray)).length c35, (List.replicate (a0 : Int).toNat (⟨#[]⟩ : ByteArray)).length, encs encS (List.replicate (a0 : Int).toNat (⟨#[]⟩ : ByteArray))⟩ :: os) := HW
        obtain ⟨U39, hU40, HW⟩ := T_dev_Dev.fold (x := (⟨List.replicate (a0 : Int).toNat (⟨#[]⟩ : ByteArray), List.replicate (a0 : Int).toNat (⟨#[]⟩ : ByteArray), ([] : List T_dev_held), (⟨(), (), 0⟩ : T_atomic_Int64), false, 0, false⟩ : T_dev_Dev)) (Wd.segs (ss := [[(b37, .cells #[.slice A29 (List.replicate (a0 : Int).toNat (⟨#[]⟩ : ByteArray)).length c30, .slice A34 (List.replicate (a0 : Int).toNat (⟨#[]⟩ : ByteArray)).length c35, .slice none 0 0, .int .i64 0, .bool false, .int .i64 0, .bool false] 53 (0, 0))], F]) (bt := bs) (m := [⟨62, 2, .slice none 0 0, ([] : List T_dev_held).length, encs T_dev_held.enc ([] : List T_dev_held)⟩, ⟨9, 1, .slice A29 (List.replicate (a0 : Int).toNat (⟨#[]⟩ : ByteArray)).length c30, (List.replicate (a0 : Int).toNat (⟨#[]⟩ : ByteArray)).length, encs encS (List.replicate (a0 : Int).toNat (⟨#[]⟩ : ByteArray))⟩, ⟨9, 1, .slice A34 (List.replicate (a0 : Int).toNat (⟨#[]⟩ : ByteArray)).length c35, (List.replicate (a0 : Int).toNat (⟨#[]⟩ : ByteArray)).length, encs encS (List.replicate (a0 : Int).toNat (⟨#[]⟩ : ByteArray))⟩]) (ot := os) [[(b37, .cells #[.slice A29 (List.replicate (a0 : Int).toNat (⟨#[]⟩ : ByteArray)).length c30, .slice A34 (List.replicate (a0 : Int).toNat (⟨#[]⟩ : ByteArray)).length c35, .slice none 0 0, .int .i64 0, .bool false, .int .i64 0, .bool false] 53 (0, 0))], F] [⟨9, 1, .slice A29 (List.replicate (a0 : Int).toNat (⟨#[]⟩ : ByteArray)).length c30, (List.replicate (a0 : Int).toNat (⟨#[]⟩ : ByteArray)).length, encs encS (List.replicate (a0 : Int).toNat (⟨#[]⟩ : ByteArray))⟩, ⟨9, 1, .slice A34 (List.replicate (a0 : Int).toNat (⟨#[]⟩ : ByteArray)).length c35, (List.replicate (a0 : Int).toNat (⟨#[]⟩ : ByteArray)).length, encs encS (List.replicate (a0 : Int).toNat (⟨#[]⟩ : ByteArray))⟩, ⟨62, 2, .slice none 0 0, ([] : List T_dev_held).length, encs T_dev_held.enc ([] : List T_dev_held)⟩] HW [0, 1] [] [1, 2, 0] KR KR (by decide) KR)
        replace HW := Wd.segs (ss := [U39, F]) (bt := bs) (m := []) (ot := os) [U39, F] [] HW [0, 1] [] [] KR KR (by decide) KR
        replace HW : Wd w W38 (U39 ++ (F ++ bs)) (os) := HW
        obtain rfl := Option.some.inj h
        exact finv ha _ _ rfl (.tmp (v := .pointer (some ⟨b37, 0, none⟩)) KR (.tmp (v := .int .i64 0) KR .nil)) (.tuple #[.pointer (some ⟨b37, 0, none⟩), .int .i64 0]) rfl ⟨.pointer (some ⟨b37, 0, none⟩), U39, rfl, ⟨b37, rfl, hU40⟩, (Wd.segs (ss := [U39, F]) (bt := bs) (m := []) (ot := os) [U39, F] [] HW [0, 1] [] [] KR KR (by decide) KR)⟩
def dev_Dev_Size.f (a0 : T_dev_Dev) : Option Int :=
  some (a0.f0.length : Int)
set_option maxRecDepth 100000 in
set_option maxHeartbeats 4000000 in
theorem dev_Dev_Size.calls (a0 : T_dev_Dev) (A0_0 : Option Addr) (c0_0 : Nat) (A0_1 : Option Addr) (c0_1 : Nat) (A0_2 : Option Addr) (c0_2 : Nat) (cb0 : Nat) (r : Int) (w : World) (hc0 : CA w cb0 0 #[.slice A0_0 a0.f0.length c0_0, .slice A0_1 a0.f1.length c0_1, .slice A0_2 a0.f2.length c0_2, .int .i64 a0.f3.f2, .bool a0.f4, .int .i64 a0.f5, .bool a0.f6]) (hr0_0 : Rd 1 w (.slice A0_0 a0.f0.length c0_0) a0.f0.length (encs encS a0.f0)) (hr0_1 : Rd 1 w (.slice A0_1 a0.f1.length c0_1) a0.f1.length (encs encS a0.f1)) (hr0_2 : Rd 2 w (.slice A0_2 a0.f2.length c0_2) a0.f2.length (encs T_dev_held.enc a0.f2)) (h : dev_Dev_Size.f a0 = some r) :
    Calls Tryd.prog 35 #[.pointer (some ⟨cb0, 0, none⟩)] w (fun e W' => e = .returned (.int .i64 r) ∧ Wd w W' [] [] ) := by
  refine sxstart (n := 10) (l := [(0, .pointer (some ⟨cb0, 0, none⟩))]) Tryd.func35 rfl rfl (Nat.le_of_ble_eq_true KR) (subsA_cons rfl (subsA_nil _)) ?_
  intro a ha
  have HW := Wd.refl w
  unfold dev_Dev_Size.f at h
  refine wp_seq_k (fun K42 hK43 => ?_)
  refine wp_region_lit ?_
  refine stepp ha 2 (.int .i64 0) KR KR ?_; clear ha a; intro a ha
  refine endl ?_
  refine thenN (hK43 _ _ ?_); clear hK43
  refine wp_seq_k (fun K44 hK45 => ?_)
  refine wp_seq_k (fun K46 hK47 => ?_)
  refine wp_region_lit ?_
  refine stepp ha 3 (.pointer (some ⟨cb0, 0, none⟩)) KR KR ?_; clear ha a; intro a ha
  refine stepp ha 4 (.bool false) KR KR ?_; clear ha a; intro a ha
  refine endl ?_
  refine thenN (hK47 _ _ ?_); clear hK47
  refine condF ha KR KR (t := false) (rfl) ?_
  refine wp_skip ?_
  refine thenN (hK45 _ _ ?_); clear hK45
  refine wp_seq_k (fun K48 hK49 => ?_)
  refine wp_region_lit ?_
  refine stepp ha 5 (.pointer (some ⟨cb0, 0, none⟩)) KR KR ?_; clear ha a; intro a ha
  refine stepp ha 6 (.pointer (some ⟨cb0, 0, none⟩)) KR KR ?_; clear ha a; intro a ha
  refine stepp ha 7 (.pointer (some ⟨cb0, 0, none⟩)) KR KR ?_; clear ha a; intro a ha
  refine stepl ha 8 (HW.ca0 hc0) 22 0 (.tmp 7) (.slice A0_0 a0.f0.length c0_0) rfl KR KR KR ?_; clear ha a; intro a ha
  refine stepp ha 9 (.int .i64 (a0.f0.length : Int)) KR KR ?_; clear ha a; intro a ha
  refine stepp ha 2 (.int .i64 (a0.f0.length : Int)) KR KR ?_; clear ha a; intro a ha
  refine endl ?_
  refine thenN (hK49 _ _ ?_); clear hK49
  refine wp_ret ?_
  obtain rfl := Option.some.inj h
  exact finv ha _ _ rfl (.tmp (v := .int .i64 (a0.f0.length : Int)) KR .nil) (.int .i64 (a0.f0.length : Int)) rfl ⟨rfl, HW.pick [] [] (by decide) (by decide) rfl KR⟩
def journal_placed.f (a0 : T_dev_Dev) (a1 : Int) (a2 : Int) : Option ((Option T_journal_Journal) × T_dev_Dev) :=
  if a1 < 0 then (some ((none : Option T_journal_Journal), a0)) else (if a2 < 8 then (some ((none : Option T_journal_Journal), a0)) else ((dev_Dev_Size.f (⟨a0.f0, a0.f1, a0.f2, (⟨(), (), a0.f3.f2⟩ : T_atomic_Int64), a0.f4, a0.f5, a0.f6⟩ : T_dev_Dev)).bind fun t95 => (if a2 > t95 then (some ((none : Option T_journal_Journal), (⟨a0.f0, a0.f1, a0.f2, (⟨(), (), a0.f3.f2⟩ : T_atomic_Int64), a0.f4, a0.f5, a0.f6⟩ : T_dev_Dev))) else ((dev_Dev_Size.f (⟨a0.f0, a0.f1, a0.f2, (⟨(), (), a0.f3.f2⟩ : T_atomic_Int64), a0.f4, a0.f5, a0.f6⟩ : T_dev_Dev)).bind fun t100 => (if a1 > (IntKind.wrap .i64 (t100 - a2)) then (some ((none : Option T_journal_Journal), (⟨a0.f0, a0.f1, a0.f2, (⟨(), (), a0.f3.f2⟩ : T_atomic_Int64), a0.f4, a0.f5, a0.f6⟩ : T_dev_Dev))) else (some ((some (⟨(), a1, IntKind.wrap .i64 (Int.tdiv (IntKind.wrap .i64 (a2 - 4)) 2), 0, (⟨(), (), 0⟩ : T_atomic_Int64), (⟨#[]⟩ : ByteArray), ([] : List ByteArray), 0, false, false⟩ : T_journal_Journal)), (⟨a0.f0, a0.f1, a0.f2, (⟨(), (), a0.f3.f2⟩ : T_atomic_Int64), a0.f4, a0.f5, a0.f6⟩ : T_dev_Dev))))))))
set_option maxRecDepth 100000 in
set_option maxHeartbeats 4000000 in
theorem journal_placed.calls (a0 : T_dev_Dev) (a1 : Int) (a2 : Int) (p0 : Nat) (U0 : Blks)  (r : (Option T_journal_Journal) × T_dev_Dev) (w w1 : World) (F bs : Blks) (os : List OwnA) (hU0 : T_dev_Dev.At p0  a0 U0) (HW : Wd w w1 (U0 ++ (F ++ bs)) os) (h : journal_placed.f a0 a1 a2 = some r) :
    Calls Tryd.prog 22 #[.pointer (some ⟨p0, 0, none⟩), .int .i64 a1, .int .i64 a2] w1 (fun e W' => ∃ p_0 : Value, ∃ U_0 : Blks, ∃ U0' : Blks, e = .returned (p_0) ∧ OptAt (fun p_ x_ u_ => T_journal_Journal.At p_ p0 x_ u_) (r.1) p_0 U_0 ∧ T_dev_Dev.At p0  r.2 U0' ∧ Wd w W' (U_0 ++ (U0' ++ (F ++ bs))) (os)) := by
  refine sxstart (n := 38) (l := [(0, .pointer (some ⟨p0, 0, none⟩)), (1, .int .i64 a1), (2, .int .i64 a2)]) Tryd.func22 rfl rfl (Nat.le_of_ble_eq_true KR) (subsA_cons rfl (subsA_cons rfl (subsA_cons rfl (subsA_nil _)))) ?_
  intro a ha
  replace HW : Wd w w1 (U0 ++ (F ++ bs)) (os) := HW
  unfold journal_placed.f at h
  refine wp_seq_k (fun K78 hK79 => ?_)
  refine wp_region_lit ?_
  refine stepp ha 6 (.pointer none) KR KR ?_; clear ha a; intro a ha
  refine endl ?_
  refine thenN (hK79 _ _ ?_); clear hK79
  refine wp_seq_k (fun K80 hK81 => ?_)
  refine wp_seq_k (fun K82 hK83 => ?_)
  refine wp_region_lit ?_
  refine stepp ha 7 (.pointer (some ⟨p0, 0, none⟩)) KR KR ?_; clear ha a; intro a ha
  refine stepp ha 8 (.bool false) KR KR ?_; clear ha a; intro a ha
  refine stepp ha 9 (.bool false) KR KR ?_; clear ha a; intro a ha
  refine stepp ha 10 (.int .i64 a1) KR KR ?_; clear ha a; intro a ha
  refine stepp ha 11 (.bool (decide (a1 < 0))) KR KR ?_; clear ha a; intro a ha
  refine stepp ha 12 (.bool (decide (a1 < 0))) KR KR ?_; clear ha a; intro a ha
  refine stepp ha 13 (.bool (decide (a1 < 0))) KR KR ?_; clear ha a; intro a ha
  by_cases hp84 : a1 < 0
  · skip
    replace h := ite_pos' h hp84
    replace ha := ha.bool 13 KR (decide_eq_true hp84)
    refine stepo ha 14 KR ?_; clear ha a; intro a ha
    refine stepo ha 15 KR ?_; clear ha a; intro a ha
    refine stepp ha 16 (.bool true) KR KR ?_; clear ha a; intro a ha
    refine stepp ha 17 (.bool true) KR KR ?_; clear ha a; intro a ha
    refine stepo ha 18 KR ?_; clear ha a; intro a ha
    refine stepo ha 19 KR ?_; clear ha a; intro a ha
    refine stepo ha 20 KR ?_; clear ha a; intro a ha
    refine stepo ha 21 KR ?_; clear ha a; intro a ha
    refine stepp ha 22 (.bool true) KR KR ?_; clear ha a; intro a ha
    refine stepp ha 23 (.bool true) KR KR ?_; clear ha a; intro a ha
    refine stepo ha 24 KR ?_; clear ha a; intro a ha
    refine stepo ha 25 KR ?_; clear ha a; intro a ha
    refine stepo ha 26 KR ?_; clear ha a; intro a ha
    refine stepo ha 27 KR ?_; clear ha a; intro a ha
    refine stepo ha 28 KR ?_; clear ha a; intro a ha
    refine stepo ha 29 KR ?_; clear ha a; intro a ha
    refine stepp ha 30 (.bool true) KR KR ?_; clear ha a; intro a ha
    refine endl ?_
    refine thenN (hK83 _ _ ?_); clear hK83
    refine condT ha KR KR (t := true) (rfl) ?_
    refine wp_seq_k (fun K104 hK105 => ?_)
    refine wp_region_lit ?_
    refine stepp ha 6 (.pointer none) KR KR ?_; clear ha a; intro a ha
    refine endl ?_
    refine thenN (hK105 _ _ ?_); clear hK105
    refine wp_ret ?_
    refine thenR ?_
    obtain rfl := Option.some.inj h
    exact finv ha _ _ rfl (.tmp (v := .pointer none) KR .nil) (.pointer none) rfl ⟨.pointer none, [], U0, rfl, ⟨rfl, rfl⟩, hU0, (Wd.segs (ss := [U0, F]) (bt := bs) (m := []) (ot := os) [U0, F] [] HW [0, 1] [] [] KR KR (by decide) KR)⟩
  · skip
    replace h := ite_neg' h hp84
    replace ha := ha.bool 13 KR (decide_eq_false hp84)
    refine stepp ha 14 (.int .i64 a2) KR KR ?_; clear ha a; intro a ha
    refine stepp ha 15 (.bool (decide (a2 < 8))) KR KR ?_; clear ha a; intro a ha
    refine stepp ha 16 (.bool (decide (a2 < 8))) KR KR ?_; clear ha a; intro a ha
    refine stepp ha 17 (.bool (decide (a2 < 8))) KR KR ?_; clear ha a; intro a ha
    by_cases hp85 : a2 < 8
    · skip
      replace h := ite_pos' h hp85
      replace ha := ha.bool 17 KR (decide_eq_true hp85)
      refine stepo ha 18 KR ?_; clear ha a; intro a ha
      refine stepo ha 19 KR ?_; clear ha a; intro a ha
      refine stepo ha 20 KR ?_; clear ha a; intro a ha
      refine stepo ha 21 KR ?_; clear ha a; intro a ha
      refine stepp ha 22 (.bool true) KR KR ?_; clear ha a; intro a ha
      refine stepp ha 23 (.bool true) KR KR ?_; clear ha a; intro a ha
      refine stepo ha 24 KR ?_; clear ha a; intro a ha
      refine stepo ha 25 KR ?_; clear ha a; intro a ha
      refine stepo ha 26 KR ?_; clear ha a; intro a ha
      refine stepo ha 27 KR ?_; clear ha a; intro a ha
      refine stepo ha 28 KR ?_; clear ha a; intro a ha
      refine stepo ha 29 KR ?_; clear ha a; intro a ha
      refine stepp ha 30 (.bool true) KR KR ?_; clear ha a; intro a ha
      refine endl ?_
      refine thenN (hK83 _ _ ?_); clear hK83
      refine condT ha KR KR (t := true) (rfl) ?_
      refine wp_seq_k (fun K106 hK107 => ?_)
      refine wp_region_lit ?_
      refine stepp ha 6 (.pointer none) KR KR ?_; clear ha a; intro a ha
      refine endl ?_
      refine thenN (hK107 _ _ ?_); clear hK107
      refine wp_ret ?_
      refine thenR ?_
      obtain rfl := Option.some.inj h
      exact finv ha _ _ rfl (.tmp (v := .pointer none) KR .nil) (.pointer none) rfl ⟨.pointer none, [], U0, rfl, ⟨rfl, rfl⟩, hU0, (Wd.segs (ss := [U0, F]) (bt := bs) (m := []) (ot := os) [U0, F] [] HW [0, 1] [] [] KR KR (by decide) KR)⟩
    · skip
      replace h := ite_neg' h hp85
      replace ha := ha.bool 17 KR (decide_eq_false hp85)
      refine stepp ha 18 (.int .i64 a2) KR KR ?_; clear ha a; intro a ha
      refine stepp ha 19 (.pointer (some ⟨p0, 0, none⟩)) KR KR ?_; clear ha a; intro a ha
      obtain ⟨A86, c87, A89, c90, A92, c93, HW⟩ := T_dev_Dev.unfold hU0 (Wd.segs (ss := [U0, F]) (bt := bs) (m := []) (ot := os) [U0, F] [] HW [0, 1] [] [] KR KR (by decide) KR)
      replace HW : Wd w w1 ((p0, .cells #[.slice A86 a0.f0.length c87, .slice A89 a0.f1.length c90, .slice A92 a0.f2.length c93, .int .i64 a0.f3.f2, .bool a0.f4, .int .i64 a0.f5, .bool a0.f6] 53 (0, 0)) :: F ++ bs) (⟨9, 1, .slice A86 a0.f0.length c87, a0.f0.length, encs encS a0.f0⟩ :: ⟨9, 1, .slice A89 a0.f1.length c90, a0.f1.length, encs encS a0.f1⟩ :: ⟨62, 2, .slice A92 a0.f2.length c93, a0.f2.length, encs T_dev_held.enc a0.f2⟩ :: os) := HW; clear hU0
      obtain ⟨t95, ht96, h_⟩ := bind_some' h; clear h; have h := h_; clear h_
      refine stepc ha 20 KR KR (dev_Dev_Size.calls (⟨a0.f0, a0.f1, a0.f2, (⟨(), (), a0.f3.f2⟩ : T_atomic_Int64), a0.f4, a0.f5, a0.f6⟩ : T_dev_Dev) A86 c87 A89 c90 A92 c93 p0 t95 _ (HW.ca (i := 0) (b := p0) (C := #[.slice A86 a0.f0.length c87, .slice A89 a0.f1.length c90, .slice A92 a0.f2.length c93, .int .i64 a0.f3.f2, .bool a0.f4, .int .i64 a0.f5, .bool a0.f6]) (T := 53) (fr := (0, 0)) KR) (HW.rdo (i := 0) (q := ⟨9, 1, .slice A86 a0.f0.length c87, a0.f0.length, encs encS a0.f0⟩) KR) (HW.rdo (i := 1) (q := ⟨9, 1, .slice A89 a0.f1.length c90, a0.f1.length, encs encS a0.f1⟩) KR) (HW.rdo (i := 2) (q := ⟨62, 2, .slice A92 a0.f2.length c93, a0.f2.length, encs T_dev_held.enc a0.f2⟩) KR) ht96) ?_; clear ha a; rintro e W97 ⟨rfl, HX98⟩
      refine ⟨_, rfl, ?_⟩; intro a ha; replace HW := HW.callw HX98; clear HX98
      refine stepp ha 21 (.bool (decide (a2 > t95))) KR KR ?_; clear ha a; intro a ha
      refine stepp ha 22 (.bool (decide (a2 > t95))) KR KR ?_; clear ha a; intro a ha
      refine stepp ha 23 (.bool (decide (a2 > t95))) KR KR ?_; clear ha a; intro a ha
      by_cases hp99 : a2 > t95
      · skip
        replace h := ite_pos' h hp99
        replace ha := ha.bool 23 KR (decide_eq_true hp99)
        refine stepo ha 24 KR ?_; clear ha a; intro a ha
        refine stepo ha 25 KR ?_; clear ha a; intro a ha
        refine stepo ha 26 KR ?_; clear ha a; intro a ha
        refine stepo ha 27 KR ?_; clear ha a; intro a ha
        refine stepo ha 28 KR ?_; clear ha a; intro a ha
        refine stepo ha 29 KR ?_; clear ha a; intro a ha
        refine stepp ha 30 (.bool true) KR KR ?_; clear ha a; intro a ha
        refine endl ?_
        refine thenN (hK83 _ _ ?_); clear hK83
        refine condT ha KR KR (t := true) (rfl) ?_
        refine wp_seq_k (fun K108 hK109 => ?_)
        refine wp_region_lit ?_
        refine stepp ha 6 (.pointer none) KR KR ?_; clear ha a; intro a ha
        refine endl ?_
        refine thenN (hK109 _ _ ?_); clear hK109
        refine wp_ret ?_
        refine thenR ?_
        obtain ⟨U110, hU111, HW⟩ := T_dev_Dev.fold (x := (⟨a0.f0, a0.f1, a0.f2, (⟨(), (), a0.f3.f2⟩ : T_atomic_Int64), a0.f4, a0.f5, a0.f6⟩ : T_dev_Dev)) (Wd.segs (ss := [[(p0, .cells #[.slice A86 a0.f0.length c87, .slice A89 a0.f1.length c90, .slice A92 a0.f2.length c93, .int .i64 a0.f3.f2, .bool a0.f4, .int .i64 a0.f5, .bool a0.f6] 53 (0, 0))], F]) (bt := bs) (m := [⟨9, 1, .slice A86 a0.f0.length c87, a0.f0.length, encs encS a0.f0⟩, ⟨9, 1, .slice A89 a0.f1.length c90, a0.f1.length, encs encS a0.f1⟩, ⟨62, 2, .slice A92 a0.f2.length c93, a0.f2.length, encs T_dev_held.enc a0.f2⟩]) (ot := os) [[(p0, .cells #[.slice A86 a0.f0.length c87, .slice A89 a0.f1.length c90, .slice A92 a0.f2.length c93, .int .i64 a0.f3.f2, .bool a0.f4, .int .i64 a0.f5, .bool a0.f6] 53 (0, 0))], F] [⟨9, 1, .slice A86 a0.f0.length c87, a0.f0.length, encs encS a0.f0⟩, ⟨9, 1, .slice A89 a0.f1.length c90, a0.f1.length, encs encS a0.f1⟩, ⟨62, 2, .slice A92 a0.f2.length c93, a0.f2.length, encs T_dev_held.enc a0.f2⟩] HW [0, 1] [] [0, 1, 2] KR KR (by decide) KR)
        replace HW := Wd.segs (ss := [U110, F]) (bt := bs) (m := []) (ot := os) [U110, F] [] HW [0, 1] [] [] KR KR (by decide) KR
        replace HW : Wd w W97 (U110 ++ (F ++ bs)) (os) := HW
        obtain rfl := Option.some.inj h
        exact finv ha _ _ rfl (.tmp (v := .pointer none) KR .nil) (.pointer none) rfl ⟨.pointer none, [], U110, rfl, ⟨rfl, rfl⟩, hU111, (Wd.segs (ss := [U110, F]) (bt := bs) (m := []) (ot := os) [U110, F] [] HW [0, 1] [] [] KR KR (by decide) KR)⟩
      · skip
        replace h := ite_neg' h hp99
        replace ha := ha.bool 23 KR (decide_eq_false hp99)
        refine stepp ha 24 (.int .i64 a1) KR KR ?_; clear ha a; intro a ha
        refine stepp ha 25 (.pointer (some ⟨p0, 0, none⟩)) KR KR ?_; clear ha a; intro a ha
        obtain ⟨t100, ht101, h_⟩ := bind_some' h; clear h; have h := h_; clear h_
        refine stepc ha 26 KR KR (dev_Dev_Size.calls (⟨a0.f0, a0.f1, a0.f2, (⟨(), (), a0.f3.f2⟩ : T_atomic_Int64), a0.f4, a0.f5, a0.f6⟩ : T_dev_Dev) A86 c87 A89 c90 A92 c93 p0 t100 _ (HW.ca (i := 0) (b := p0) (C := #[.slice A86 a0.f0.length c87, .slice A89 a0.f1.length c90, .slice A92 a0.f2.length c93, .int .i64 a0.f3.f2, .bool a0.f4, .int .i64 a0.f5, .bool a0.f6]) (T := 53) (fr := (0, 0)) KR) (HW.rdo (i := 0) (q := ⟨9, 1, .slice A86 a0.f0.length c87, a0.f0.length, encs encS a0.f0⟩) KR) (HW.rdo (i := 1) (q := ⟨9, 1, .slice A89 a0.f1.length c90, a0.f1.length, encs encS a0.f1⟩) KR) (HW.rdo (i := 2) (q := ⟨62, 2, .slice A92 a0.f2.length c93, a0.f2.length, encs T_dev_held.enc a0.f2⟩) KR) ht101) ?_; clear ha a; rintro e W102 ⟨rfl, HX103⟩
        refine ⟨_, rfl, ?_⟩; intro a ha; replace HW := HW.callw HX103; clear HX103
        refine stepp ha 27 (.int .i64 a2) KR KR ?_; clear ha a; intro a ha
        refine stepp ha 28 (.int .i64 (IntKind.wrap .i64 (t100 - a2))) KR KR ?_; clear ha a; intro a ha
        refine stepp ha 29 (.bool (decide (a1 > (IntKind.wrap .i64 (t100 - a2))))) KR KR ?_; clear ha a; intro a ha
        refine stepp ha 30 (.bool (decide (a1 > (IntKind.wrap .i64 (t100 - a2))))) KR KR ?_; clear ha a; intro a ha
        refine endl ?_
        refine thenN (hK83 _ _ ?_); clear hK83
        by_cases hp112 : a1 > (IntKind.wrap .i64 (t100 - a2))
        · skip
          replace h := ite_pos' h hp112
          refine condT ha KR KR (t := decide (a1 > (IntKind.wrap .i64 (t100 - a2)))) (decide_eq_true hp112) ?_
          refine wp_seq_k (fun K113 hK114 => ?_)
          refine wp_region_lit ?_
          refine stepp ha 6 (.pointer none) KR KR ?_; clear ha a; intro a ha
          refine endl ?_
          refine thenN (hK114 _ _ ?_); clear hK114
          refine wp_ret ?_
          refine thenR ?_
          obtain ⟨U115, hU116, HW⟩ := T_dev_Dev.fold (x := (⟨a0.f0, a0.f1, a0.f2, (⟨(), (), a0.f3.f2⟩ : T_atomic_Int64), a0.f4, a0.f5, a0.f6⟩ : T_dev_Dev)) (Wd.segs (ss := [[(p0, .cells #[.slice A86 a0.f0.length c87, .slice A89 a0.f1.length c90, .slice A92 a0.f2.length c93, .int .i64 a0.f3.f2, .bool a0.f4, .int .i64 a0.f5, .bool a0.f6] 53 (0, 0))], F]) (bt := bs) (m := [⟨9, 1, .slice A86 a0.f0.length c87, a0.f0.length, encs encS a0.f0⟩, ⟨9, 1, .slice A89 a0.f1.length c90, a0.f1.length, encs encS a0.f1⟩, ⟨62, 2, .slice A92 a0.f2.length c93, a0.f2.length, encs T_dev_held.enc a0.f2⟩]) (ot := os) [[(p0, .cells #[.slice A86 a0.f0.length c87, .slice A89 a0.f1.length c90, .slice A92 a0.f2.length c93, .int .i64 a0.f3.f2, .bool a0.f4, .int .i64 a0.f5, .bool a0.f6] 53 (0, 0))], F] [⟨9, 1, .slice A86 a0.f0.length c87, a0.f0.length, encs encS a0.f0⟩, ⟨9, 1, .slice A89 a0.f1.length c90, a0.f1.length, encs encS a0.f1⟩, ⟨62, 2, .slice A92 a0.f2.length c93, a0.f2.length, encs T_dev_held.enc a0.f2⟩] HW [0, 1] [] [0, 1, 2] KR KR (by decide) KR)
          replace HW := Wd.segs (ss := [U115, F]) (bt := bs) (m := []) (ot := os) [U115, F] [] HW [0, 1] [] [] KR KR (by decide) KR
          replace HW : Wd w W102 (U115 ++ (F ++ bs)) (os) := HW
          obtain rfl := Option.some.inj h
          exact finv ha _ _ rfl (.tmp (v := .pointer none) KR .nil) (.pointer none) rfl ⟨.pointer none, [], U115, rfl, ⟨rfl, rfl⟩, hU116, (Wd.segs (ss := [U115, F]) (bt := bs) (m := []) (ot := os) [U115, F] [] HW [0, 1] [] [] KR KR (by decide) KR)⟩
        · skip
          replace h := ite_neg' h hp112
          refine condF ha KR KR (t := decide (a1 > (IntKind.wrap .i64 (t100 - a2)))) (decide_eq_false hp112) ?_
          refine wp_skip ?_
          refine thenN (hK81 _ _ ?_); clear hK81
          refine wp_seq_k (fun K117 hK118 => ?_)
          refine wp_region_lit ?_
          refine stepp ha 31 (.pointer (some ⟨p0, 0, none⟩)) KR KR ?_; clear ha a; intro a ha
          refine stepp ha 32 (.int .i64 a1) KR KR ?_; clear ha a; intro a ha
          refine stepp ha 33 (.int .i64 a2) KR KR ?_; clear ha a; intro a ha
          refine stepp ha 34 (.int .i64 (IntKind.wrap .i64 (a2 - 4))) KR KR ?_; clear ha a; intro a ha
          refine stepp ha 35 (.int .i64 (IntKind.wrap .i64 (Int.tdiv (IntKind.wrap .i64 (a2 - 4)) 2))) KR KR ?_; clear ha a; intro a ha
          refine stepp ha 36 (.agg #[.pointer (some ⟨p0, 0, none⟩), .int .i64 a1, .int .i64 (IntKind.wrap .i64 (Int.tdiv (IntKind.wrap .i64 (a2 - 4)) 2)), .int .i64 0, .int .i64 0, .string (⟨#[]⟩ : ByteArray), .slice none 0 0, .int .i64 0, .bool false, .bool false]) KR KR ?_; clear ha a; intro a ha
          refine stepnew ha HW 37 #[.pointer (some ⟨p0, 0, none⟩), .int .i64 a1, .int .i64 (IntKind.wrap .i64 (Int.tdiv (IntKind.wrap .i64 (a2 - 4)) 2)), .int .i64 0, .int .i64 0, .string (⟨#[]⟩ : ByteArray), .slice none 0 0, .int .i64 0, .bool false, .bool false] 57 KR KR ?_; clear ha HW a; intro b119 a W120 HW ha
          refine stepp ha 6 (.pointer (some ⟨b119, 0, none⟩)) KR KR ?_; clear ha a; intro a ha
          refine endl ?_
          refine thenN (hK118 _ _ ?_); clear hK118
          refine wp_ret ?_
          replace HW := HW.nilo 9 1
          replace HW : Wd w W120 ((b119, .cells #[.pointer (some ⟨p0, 0, none⟩), .int .i64 a1, .int .i64 (IntKind.wrap .i64 (Int.tdiv (IntKind.wrap .i64 (a2 - 4)) 2)), .int .i64 0, .int .i64 0, .string (⟨#[]⟩ : ByteArray), .slice none 0 0, .int .i64 0, .bool false, .bool false] 57 (0, 0)) :: (p0, .cells #[.slice A86 a0.f0.length c87, .slice A89 a0.f1.length c90, .slice A92 a0.f2.length c93, .int .i64 a0.f3.f2, .bool a0.f4, .int .i64 a0.f5, .bool a0.f6] 53 (0, 0)) :: F ++ bs) (⟨9, 1, .slice none 0 0, ([] : List ByteArray).length, encs encS ([] : List ByteArray)⟩ :: ⟨9, 1, .slice A86 a0.f0.length c87, a0.f0.length, encs encS a0.f0⟩ :: ⟨9, 1, .slice A89 a0.f1.length c90, a0.f1.length, encs encS a0.f1⟩ :: ⟨62, 2, .slice A92 a0.f2.length c93, a0.f2.length, encs T_dev_held.enc a0.f2⟩ :: os) := HW
          obtain ⟨U121, hU122, HW⟩ := T_journal_Journal.fold (x := (⟨(), a1, IntKind.wrap .i64 (Int.tdiv (IntKind.wrap .i64 (a2 - 4)) 2), 0, (⟨(), (), 0⟩ : T_atomic_Int64), (⟨#[]⟩ : ByteArray), ([] : List ByteArray), 0, false, false⟩ : T_journal_Journal)) (Wd.segs (ss := [[(b119, .cells #[.pointer (some ⟨p0, 0, none⟩), .int .i64 a1, .int .i64 (IntKind.wrap .i64 (Int.tdiv (IntKind.wrap .i64 (a2 - 4)) 2)), .int .i64 0, .int .i64 0, .string (⟨#[]⟩ : ByteArray), .slice none 0 0, .int .i64 0, .bool false, .bool false] 57 (0, 0))], [(p0, .cells #[.slice A86 a0.f0.length c87, .slice A89 a0.f1.length c90, .slice A92 a0.f2.length c93, .int .i64 a0.f3.f2, .bool a0.f4, .int .i64 a0.f5, .bool a0.f6] 53 (0, 0))], F]) (bt := bs) (m := [⟨9, 1, .slice none 0 0, ([] : List ByteArray).length, encs encS ([] : List ByteArray)⟩, ⟨9, 1, .slice A86 a0.f0.length c87, a0.f0.length, encs encS a0.f0⟩, ⟨9, 1, .slice A89 a0.f1.length c90, a0.f1.length, encs encS a0.f1⟩, ⟨62, 2, .slice A92 a0.f2.length c93, a0.f2.length, encs T_dev_held.enc a0.f2⟩]) (ot := os) [[(b119, .cells #[.pointer (some ⟨p0, 0, none⟩), .int .i64 a1, .int .i64 (IntKind.wrap .i64 (Int.tdiv (IntKind.wrap .i64 (a2 - 4)) 2)), .int .i64 0, .int .i64 0, .string (⟨#[]⟩ : ByteArray), .slice none 0 0, .int .i64 0, .bool false, .bool false] 57 (0, 0))], [(p0, .cells #[.slice A86 a0.f0.length c87, .slice A89 a0.f1.length c90, .slice A92 a0.f2.length c93, .int .i64 a0.f3.f2, .bool a0.f4, .int .i64 a0.f5, .bool a0.f6] 53 (0, 0))], F] [⟨9, 1, .slice none 0 0, ([] : List ByteArray).length, encs encS ([] : List ByteArray)⟩, ⟨9, 1, .slice A86 a0.f0.length c87, a0.f0.length, encs encS a0.f0⟩, ⟨9, 1, .slice A89 a0.f1.length c90, a0.f1.length, encs encS a0.f1⟩, ⟨62, 2, .slice A92 a0.f2.length c93, a0.f2.length, encs T_dev_held.enc a0.f2⟩] HW [0, 1, 2] [] [0, 1, 2, 3] KR KR (by decide) KR)
          replace HW := Wd.segs (ss := [U121, [(p0, .cells #[.slice A86 a0.f0.length c87, .slice A89 a0.f1.length c90, .slice A92 a0.f2.length c93, .int .i64 a0.f3.f2, .bool a0.f4, .int .i64 a0.f5, .bool a0.f6] 53 (0, 0))], F]) (bt := bs) (m := [⟨9, 1, .slice A86 a0.f0.length c87, a0.f0.length, encs encS a0.f0⟩, ⟨9, 1, .slice A89 a0.f1.length c90, a0.f1.length, encs encS a0.f1⟩, ⟨62, 2, .slice A92 a0.f2.length c93, a0.f2.length, encs T_dev_held.enc a0.f2⟩]) (ot := os) [[(p0, .cells #[.slice A86 a0.f0.length c87, .slice A89 a0.f1.length c90, .slice A92 a0.f2.length c93, .int .i64 a0.f3.f2, .bool a0.f4, .int .i64 a0.f5, .bool a0.f6] 53 (0, 0))], U121, F] [⟨9, 1, .slice A86 a0.f0.length c87, a0.f0.length, encs encS a0.f0⟩, ⟨9, 1, .slice A89 a0.f1.length c90, a0.f1.length, encs encS a0.f1⟩, ⟨62, 2, .slice A92 a0.f2.length c93, a0.f2.length, encs T_dev_held.enc a0.f2⟩] HW [1, 0, 2] [] [0, 1, 2] KR KR (by decide) KR
          replace HW : Wd w W120 ((p0, .cells #[.slice A86 a0.f0.length c87, .slice A89 a0.f1.length c90, .slice A92 a0.f2.length c93, .int .i64 a0.f3.f2, .bool a0.f4, .int .i64 a0.f5, .bool a0.f6] 53 (0, 0)) :: U121 ++ (F ++ bs)) (⟨9, 1, .slice A86 a0.f0.length c87, a0.f0.length, encs encS a0.f0⟩ :: ⟨9, 1, .slice A89 a0.f1.length c90, a0.f1.length, encs encS a0.f1⟩ :: ⟨62, 2, .slice A92 a0.f2.length c93, a0.f2.length, encs T_dev_held.enc a0.f2⟩ :: os) := HW
          obtain ⟨U124, hU125, HW⟩ := T_dev_Dev.fold (x := (⟨a0.f0, a0.f1, a0.f2, (⟨(), (), a0.f3.f2⟩ : T_atomic_Int64), a0.f4, a0.f5, a0.f6⟩ : T_dev_Dev)) (Wd.segs (ss := [[(p0, .cells #[.slice A86 a0.f0.length c87, .slice A89 a0.f1.length c90, .slice A92 a0.f2.length c93, .int .i64 a0.f3.f2, .bool a0.f4, .int .i64 a0.f5, .bool a0.f6] 53 (0, 0))], U121, F]) (bt := bs) (m := [⟨9, 1, .slice A86 a0.f0.length c87, a0.f0.length, encs encS a0.f0⟩, ⟨9, 1, .slice A89 a0.f1.length c90, a0.f1.length, encs encS a0.f1⟩, ⟨62, 2, .slice A92 a0.f2.length c93, a0.f2.length, encs T_dev_held.enc a0.f2⟩]) (ot := os) [[(p0, .cells #[.slice A86 a0.f0.length c87, .slice A89 a0.f1.length c90, .slice A92 a0.f2.length c93, .int .i64 a0.f3.f2, .bool a0.f4, .int .i64 a0.f5, .bool a0.f6] 53 (0, 0))], U121, F] [⟨9, 1, .slice A86 a0.f0.length c87, a0.f0.length, encs encS a0.f0⟩, ⟨9, 1, .slice A89 a0.f1.length c90, a0.f1.length, encs encS a0.f1⟩, ⟨62, 2, .slice A92 a0.f2.length c93, a0.f2.length, encs T_dev_held.enc a0.f2⟩] HW [0, 1, 2] [] [0, 1, 2] KR KR (by decide) KR)
          replace HW := Wd.segs (ss := [U124, U121, F]) (bt := bs) (m := []) (ot := os) [U124, U121, F] [] HW [0, 1, 2] [] [] KR KR (by decide) KR
          replace HW : Wd w W120 (U124 ++ (U121 ++ (F ++ bs))) (os) := HW
          obtain rfl := Option.some.inj h
          exact finv ha _ _ rfl (.tmp (v := .pointer (some ⟨b119, 0, none⟩)) KR .nil) (.pointer (some ⟨b119, 0, none⟩)) rfl ⟨.pointer (some ⟨b119, 0, none⟩), U121, U124, rfl, ⟨b119, rfl, hU122⟩, hU125, (Wd.segs (ss := [U124, U121, F]) (bt := bs) (m := []) (ot := os) [U121, U124, F] [] HW [1, 0, 2] [] [] KR KR (by decide) KR)⟩
def frame_Sectors.f (a0 : Int) : Option Int :=
  if a0 < 0 then (some 0) else (if a0 > 65536 then (some 0) else (some (IntKind.wrap .i64 (Int.tdiv (IntKind.wrap .i64 ((IntKind.wrap .i64 ((IntKind.wrap .i64 (a0 + 24)) + 512)) - 1)) 512))))
set_option maxRecDepth 100000 in
set_option maxHeartbeats 4000000 in
theorem frame_Sectors.calls (a0 : Int)  (r : Int) (w : World)  (h : frame_Sectors.f a0 = some r) :
    Calls Tryd.prog 23 #[.int .i64 a0] w (fun e W' => e = .returned (.int .i64 r) ∧ Wd w W' [] [] ) := by
  refine sxstart (n := 14) (l := [(0, .int .i64 a0)]) Tryd.func23 rfl rfl (Nat.le_of_ble_eq_true KR) (subsA_cons rfl (subsA_nil _)) ?_
  intro a ha
  have HW := Wd.refl w
  unfold frame_Sectors.f at h
  refine wp_seq_k (fun K126 hK127 => ?_)
  refine wp_region_lit ?_
  refine stepp ha 2 (.int .i64 0) KR KR ?_; clear ha a; intro a ha
  refine endl ?_
  refine thenN (hK127 _ _ ?_); clear hK127
  refine wp_seq_k (fun K128 hK129 => ?_)
  refine wp_seq_k (fun K130 hK131 => ?_)
  refine wp_region_lit ?_
  refine stepp ha 3 (.int .i64 a0) KR KR ?_; clear ha a; intro a ha
  refine stepp ha 4 (.bool (decide (a0 < 0))) KR KR ?_; clear ha a; intro a ha
  refine stepp ha 5 (.bool (decide (a0 < 0))) KR KR ?_; clear ha a; intro a ha
  by_cases hp132 : a0 < 0
  · skip
    replace h := ite_pos' h hp132
    replace ha := ha.bool 5 KR (decide_eq_true hp132)
    refine stepo ha 6 KR ?_; clear ha a; intro a ha
    refine stepo ha 7 KR ?_; clear ha a; intro a ha
    refine stepp ha 8 (.bool true) KR KR ?_; clear ha a; intro a ha
    refine endl ?_
    refine thenN (hK131 _ _ ?_); clear hK131
    refine condT ha KR KR (t := true) (rfl) ?_
    refine wp_seq_k (fun K133 hK134 => ?_)
    refine wp_region_lit ?_
    refine stepp ha 2 (.int .i64 0) KR KR ?_; clear ha a; intro a ha
    refine endl ?_
    refine thenN (hK134 _ _ ?_); clear hK134
    refine wp_ret ?_
    refine thenR ?_
    obtain rfl := Option.some.inj h
    exact finv ha _ _ rfl (.tmp (v := .int .i64 0) KR .nil) (.int .i64 0) rfl ⟨rfl, HW.pick [] [] (by decide) (by decide) rfl KR⟩
  · skip
    replace h := ite_neg' h hp132
    replace ha := ha.bool 5 KR (decide_eq_false hp132)
    refine stepp ha 6 (.int .i64 a0) KR KR ?_; clear ha a; intro a ha
    refine stepp ha 7 (.bool (decide (a0 > 65536))) KR KR ?_; clear ha a; intro a ha
    refine stepp ha 8 (.bool (decide (a0 > 65536))) KR KR ?_; clear ha a; intro a ha
    refine endl ?_
    refine thenN (hK131 _ _ ?_); clear hK131
    by_cases hp135 : a0 > 65536
    · skip
      replace h := ite_pos' h hp135
      refine condT ha KR KR (t := decide (a0 > 65536)) (decide_eq_true hp135) ?_
      refine wp_seq_k (fun K136 hK137 => ?_)
      refine wp_region_lit ?_
      refine stepp ha 2 (.int .i64 0) KR KR ?_; clear ha a; intro a ha
      refine endl ?_
      refine thenN (hK137 _ _ ?_); clear hK137
      refine wp_ret ?_
      refine thenR ?_
      obtain rfl := Option.some.inj h
      exact finv ha _ _ rfl (.tmp (v := .int .i64 0) KR .nil) (.int .i64 0) rfl ⟨rfl, HW.pick [] [] (by decide) (by decide) rfl KR⟩
    · skip
      replace h := ite_neg' h hp135
      refine condF ha KR KR (t := decide (a0 > 65536)) (decide_eq_false hp135) ?_
      refine wp_skip ?_
      refine thenN (hK129 _ _ ?_); clear hK129
      refine wp_seq_k (fun K138 hK139 => ?_)
      refine wp_region_lit ?_
      refine stepp ha 9 (.int .i64 a0) KR KR ?_; clear ha a; intro a ha
      refine stepp ha 10 (.int .i64 (IntKind.wrap .i64 (a0 + 24))) KR KR ?_; clear ha a; intro a ha
      refine stepp ha 11 (.int .i64 (IntKind.wrap .i64 ((IntKind.wrap .i64 (a0 + 24)) + 512))) KR KR ?_; clear ha a; intro a ha
      refine stepp ha 12 (.int .i64 (IntKind.wrap .i64 ((IntKind.wrap .i64 ((IntKind.wrap .i64 (a0 + 24)) + 512)) - 1))) KR KR ?_; clear ha a; intro a ha
      refine stepp ha 13 (.int .i64 (IntKind.wrap .i64 (Int.tdiv (IntKind.wrap .i64 ((IntKind.wrap .i64 ((IntKind.wrap .i64 (a0 + 24)) + 512)) - 1)) 512))) KR KR ?_; clear ha a; intro a ha
      refine stepp ha 2 (.int .i64 (IntKind.wrap .i64 (Int.tdiv (IntKind.wrap .i64 ((IntKind.wrap .i64 ((IntKind.wrap .i64 (a0 + 24)) + 512)) - 1)) 512))) KR KR ?_; clear ha a; intro a ha
      refine endl ?_
      refine thenN (hK139 _ _ ?_); clear hK139
      refine wp_ret ?_
      obtain rfl := Option.some.inj h
      exact finv ha _ _ rfl (.tmp (v := .int .i64 (IntKind.wrap .i64 (Int.tdiv (IntKind.wrap .i64 ((IntKind.wrap .i64 ((IntKind.wrap .i64 (a0 + 24)) + 512)) - 1)) 512))) KR .nil) (.int .i64 (IntKind.wrap .i64 (Int.tdiv (IntKind.wrap .i64 ((IntKind.wrap .i64 ((IntKind.wrap .i64 (a0 + 24)) + 512)) - 1)) 512))) rfl ⟨rfl, HW.pick [] [] (by decide) (by decide) rfl KR⟩
def dev_Dev_operation.j0 (K : Nat) (a0 : T_dev_Dev) : Option (Bool × T_dev_Dev) :=
  some (true, (⟨a0.f0, a0.f1, a0.f2, (⟨(), (), IntKind.wrap .i64 (a0.f3.f2 + 1)⟩ : T_atomic_Int64), a0.f4, IntKind.wrap .i64 (a0.f5 - 1), a0.f6⟩ : T_dev_Dev))
def dev_Dev_operation.f (K : Nat) (a0 : T_dev_Dev) : Option (Bool × T_dev_Dev) :=
  if a0.f6 = true then (some (false, (⟨a0.f0, a0.f1, a0.f2, (⟨(), (), a0.f3.f2⟩ : T_atomic_Int64), a0.f4, a0.f5, true⟩ : T_dev_Dev))) else (if a0.f4 = true then (if a0.f5 = 0 then (some (false, (⟨a0.f0, a0.f1, a0.f2, (⟨(), (), a0.f3.f2⟩ : T_atomic_Int64), a0.f4, a0.f5, true⟩ : T_dev_Dev))) else (dev_Dev_operation.j0 K a0)) else (dev_Dev_operation.j0 K a0))
set_option maxRecDepth 100000 in
set_option maxHeartbeats 4000000 in
theorem dev_Dev_operation.calls (K : Nat) (a0 : T_dev_Dev) (p0 : Nat) (U0 : Blks)  (r : Bool × T_dev_Dev) (w w1 : World) (F bs : Blks) (os : List OwnA) (hU0 : T_dev_Dev.At p0  a0 U0) (HW : Wd w w1 (U0 ++ (F ++ bs)) os) (h : dev_Dev_operation.f K a0 = some r) :
    Calls Tryd.prog 36 #[.pointer (some ⟨p0, 0, none⟩)] w1 (fun e W' => ∃ U0' : Blks, e = .returned (.bool r.1) ∧ T_dev_Dev.At p0  r.2 U0' ∧ Wd w W' (U0' ++ (F ++ bs)) (os)) := by
  refine sxstart (n := 34) (l := [(0, .pointer (some ⟨p0, 0, none⟩))]) Tryd.func36 rfl rfl (Nat.le_of_ble_eq_true KR) (subsA_cons rfl (subsA_nil _)) ?_
  intro a ha
  replace HW : Wd w w1 (U0 ++ (F ++ bs)) (os) := HW
  unfold dev_Dev_operation.f at h
  refine wp_seq_k (fun K154 hK155 => ?_)
  refine wp_region_lit ?_
  refine stepp ha 2 (.bool false) KR KR ?_; clear ha a; intro a ha
  refine endl ?_
  refine thenN (hK155 _ _ ?_); clear hK155
  refine wp_seq_k (fun K156 hK157 => ?_)
  refine cutn (fun a W195 => ∃ A186, ∃ c187, ∃ A189, ∃ c190, ∃ A192, ∃ c193, dev_Dev_operation.j0 K a0 = some r ∧ Has 34 [(0, .pointer (some ⟨p0, 0, none⟩))] a ∧ Wd w W195 ((p0, .cells #[.slice A186 a0.f0.length c187, .slice A189 a0.f1.length c190, .slice A192 a0.f2.length c193, .int .i64 a0.f3.f2, .bool a0.f4, .int .i64 a0.f5, .bool a0.f6] 53 (0, 0)) :: F ++ bs) (⟨9, 1, .slice A186 a0.f0.length c187, a0.f0.length, encs encS a0.f0⟩ :: ⟨9, 1, .slice A189 a0.f1.length c190, a0.f1.length, encs encS a0.f1⟩ :: ⟨62, 2, .slice A192 a0.f2.length c193, a0.f2.length, encs T_dev_held.enc a0.f2⟩ :: os)) ?_ ?_
  · skip
    refine wp_seq_k (fun K158 hK159 => ?_)
    refine wp_region_lit ?_
    refine stepp ha 3 (.pointer (some ⟨p0, 0, none⟩)) KR KR ?_; clear ha a; intro a ha
    refine stepp ha 4 (.pointer (some ⟨p0, 0, none⟩)) KR KR ?_; clear ha a; intro a ha
    refine stepp ha 5 (.pointer (some ⟨p0, 6, none⟩)) KR KR ?_; clear ha a; intro a ha
    obtain ⟨A160, c161, A163, c164, A166, c167, HW⟩ := T_dev_Dev.unfold hU0 (Wd.segs (ss := [U0, F]) (bt := bs) (m := []) (ot := os) [U0, F] [] HW [0, 1] [] [] KR KR (by decide) KR)
    replace HW : Wd w w1 ((p0, .cells #[.slice A160 a0.f0.length c161, .slice A163 a0.f1.length c164, .slice A166 a0.f2.length c167, .int .i64 a0.f3.f2, .bool a0.f4, .int .i64 a0.f5, .bool a0.f6] 53 (0, 0)) :: F ++ bs) (⟨9, 1, .slice A160 a0.f0.length c161, a0.f0.length, encs encS a0.f0⟩ :: ⟨9, 1, .slice A163 a0.f1.length c164, a0.f1.length, encs encS a0.f1⟩ :: ⟨62, 2, .slice A166 a0.f2.length c167, a0.f2.length, encs T_dev_held.enc a0.f2⟩ :: os) := HW; clear hU0
    refine stepl ha 6 (HW.ca (i := 0) (b := p0) (C := #[.slice A160 a0.f0.length c161, .slice A163 a0.f1.length c164, .slice A166 a0.f2.length c167, .int .i64 a0.f3.f2, .bool a0.f4, .int .i64 a0.f5, .bool a0.f6]) (T := 53) (fr := (0, 0)) KR) 4 6 (.tmp 5) (.bool a0.f6) rfl KR KR KR ?_; clear ha a; intro a ha
    refine stepp ha 7 (.bool a0.f6) KR KR ?_; clear ha a; intro a ha
    by_cases hp169 : a0.f6 = true
    · skip
      replace h := ite_pos' h hp169
      replace ha := ha.bool 7 KR (hp169)
      refine stepo ha 8 KR ?_; clear ha a; intro a ha
      refine stepo ha 9 KR ?_; clear ha a; intro a ha
      refine stepo ha 10 KR ?_; clear ha a; intro a ha
      refine stepo ha 11 KR ?_; clear ha a; intro a ha
      refine stepo ha 12 KR ?_; clear ha a; intro a ha
      refine stepo ha 13 KR ?_; clear ha a; intro a ha
      refine stepo ha 14 KR ?_; clear ha a; intro a ha
      refine stepo ha 15 KR ?_; clear ha a; intro a ha
      refine stepo ha 16 KR ?_; clear ha a; intro a ha
      refine stepo ha 17 KR ?_; clear ha a; intro a ha
      refine stepo ha 18 KR ?_; clear ha a; intro a ha
      refine stepp ha 19 (.bool true) KR KR ?_; clear ha a; intro a ha
      refine endl ?_
      refine thenN (hK159 _ _ ?_); clear hK159
      refine condT ha KR KR (t := true) (rfl) ?_
      refine wp_seq_k (fun K171 hK172 => ?_)
      refine wp_region_lit ?_
      refine stepp ha 20 (.pointer (some ⟨p0, 0, none⟩)) KR KR ?_; clear ha a; intro a ha
      refine stepp ha 21 (.pointer (some ⟨p0, 0, none⟩)) KR KR ?_; clear ha a; intro a ha
      refine stepp ha 22 (.pointer (some ⟨p0, 6, none⟩)) KR KR ?_; clear ha a; intro a ha
      refine stepst ha HW 0 (b := p0) (C := #[.slice A160 a0.f0.length c161, .slice A163 a0.f1.length c164, .slice A166 a0.f2.length c167, .int .i64 a0.f3.f2, .bool a0.f4, .int .i64 a0.f5, .bool a0.f6]) (T := 53) KR 4 6 (.tmp 22) (.const (.bool true)) (.bool true) #[.slice A160 a0.f0.length c161, .slice A163 a0.f1.length c164, .slice A166 a0.f2.length c167, .int .i64 a0.f3.f2, .bool a0.f4, .int .i64 a0.f5, .bool true] rfl KR KR KR KR KR KR KR ?_; clear ha HW a; intro a W173 HW ha
      refine endl ?_
      refine thenN (hK172 _ _ ?_); clear hK172
      refine wp_seq_k (fun K174 hK175 => ?_)
      refine wp_region_lit ?_
      refine stepp ha 2 (.bool false) KR KR ?_; clear ha a; intro a ha
      refine endl ?_
      refine thenN (hK175 _ _ ?_); clear hK175
      refine wp_ret ?_
      refine thenR ?_
      obtain ⟨U176, hU177, HW⟩ := T_dev_Dev.fold (x := (⟨a0.f0, a0.f1, a0.f2, (⟨(), (), a0.f3.f2⟩ : T_atomic_Int64), a0.f4, a0.f5, true⟩ : T_dev_Dev)) (Wd.segs (ss := [[(p0, .cells #[.slice A160 a0.f0.length c161, .slice A163 a0.f1.length c164, .slice A166 a0.f2.length c167, .int .i64 a0.f3.f2, .bool a0.f4, .int .i64 a0.f5, .bool true] 53 (0, 0))], F]) (bt := bs) (m := [⟨9, 1, .slice A160 a0.f0.length c161, a0.f0.length, encs encS a0.f0⟩, ⟨9, 1, .slice A163 a0.f1.length c164, a0.f1.length, encs encS a0.f1⟩, ⟨62, 2, .slice A166 a0.f2.length c167, a0.f2.length, encs T_dev_held.enc a0.f2⟩]) (ot := os) [[(p0, .cells #[.slice A160 a0.f0.length c161, .slice A163 a0.f1.length c164, .slice A166 a0.f2.length c167, .int .i64 a0.f3.f2, .bool a0.f4, .int .i64 a0.f5, .bool true] 53 (0, 0))], F] [⟨9, 1, .slice A160 a0.f0.length c161, a0.f0.length, encs encS a0.f0⟩, ⟨9, 1, .slice A163 a0.f1.length c164, a0.f1.length, encs encS a0.f1⟩, ⟨62, 2, .slice A166 a0.f2.length c167, a0.f2.length, encs T_dev_held.enc a0.f2⟩] HW [0, 1] [] [0, 1, 2] KR KR (by decide) KR)
      replace HW := Wd.segs (ss := [U176, F]) (bt := bs) (m := []) (ot := os) [U176, F] [] HW [0, 1] [] [] KR KR (by decide) KR
      replace HW : Wd w W173 (U176 ++ (F ++ bs)) (os) := HW
      obtain rfl := Option.some.inj h
      exact finv ha _ _ rfl (.tmp (v := .bool false) KR .nil) (.bool false) rfl ⟨U176, rfl, hU177, (Wd.segs (ss := [U176, F]) (bt := bs) (m := []) (ot := os) [U176, F] [] HW [0, 1] [] [] KR KR (by decide) KR)⟩
    · skip
      replace h := ite_neg' h hp169
      replace ha := ha.bool 7 KR (bool_f hp169)
      refine stepp ha 8 (.pointer (some ⟨p0, 0, none⟩)) KR KR ?_; clear ha a; intro a ha
      refine stepp ha 9 (.pointer (some ⟨p0, 0, none⟩)) KR KR ?_; clear ha a; intro a ha
      refine stepp ha 10 (.pointer (some ⟨p0, 4, none⟩)) KR KR ?_; clear ha a; intro a ha
      refine stepl ha 11 (HW.ca (i := 0) (b := p0) (C := #[.slice A160 a0.f0.length c161, .slice A163 a0.f1.length c164, .slice A166 a0.f2.length c167, .int .i64 a0.f3.f2, .bool a0.f4, .int .i64 a0.f5, .bool a0.f6]) (T := 53) (fr := (0, 0)) KR) 4 4 (.tmp 10) (.bool a0.f4) rfl KR KR KR ?_; clear ha a; intro a ha
      refine stepp ha 12 (.bool a0.f4) KR KR ?_; clear ha a; intro a ha
      by_cases hp170 : a0.f4 = true
      · skip
        replace h := ite_pos' h hp170
        replace ha := ha.bool 12 KR (hp170)
        refine stepp ha 13 (.pointer (some ⟨p0, 0, none⟩)) KR KR ?_; clear ha a; intro a ha
        refine stepp ha 14 (.pointer (some ⟨p0, 0, none⟩)) KR KR ?_; clear ha a; intro a ha
        refine stepp ha 15 (.pointer (some ⟨p0, 5, none⟩)) KR KR ?_; clear ha a; intro a ha
        refine stepl ha 16 (HW.ca (i := 0) (b := p0) (C := #[.slice A160 a0.f0.length c161, .slice A163 a0.f1.length c164, .slice A166 a0.f2.length c167, .int .i64 a0.f3.f2, .bool a0.f4, .int .i64 a0.f5, .bool a0.f6]) (T := 53) (fr := (0, 0)) KR) 3 5 (.tmp 15) (.int .i64 a0.f5) rfl KR KR KR ?_; clear ha a; intro a ha
        refine stepp ha 17 (.bool (a0.f5 == 0)) KR KR ?_; clear ha a; intro a ha
        refine stepp ha 18 (.bool (a0.f5 == 0)) KR KR ?_; clear ha a; intro a ha
        refine stepp ha 19 (.bool (a0.f5 == 0)) KR KR ?_; clear ha a; intro a ha
        refine endl ?_
        refine thenN (hK159 _ _ ?_); clear hK159
        by_cases hp178 : a0.f5 = 0
        · skip
          replace h := ite_pos' h hp178
          refine condT ha KR KR (t := (a0.f5 == 0)) (ieq_t hp178) ?_
          refine wp_seq_k (fun K179 hK180 => ?_)
          refine wp_region_lit ?_
          refine stepp ha 20 (.pointer (some ⟨p0, 0, none⟩)) KR KR ?_; clear ha a; intro a ha
          refine stepp ha 21 (.pointer (some ⟨p0, 0, none⟩)) KR KR ?_; clear ha a; intro a ha
          refine stepp ha 22 (.pointer (some ⟨p0, 6, none⟩)) KR KR ?_; clear ha a; intro a ha
          refine stepst ha HW 0 (b := p0) (C := #[.slice A160 a0.f0.length c161, .slice A163 a0.f1.length c164, .slice A166 a0.f2.length c167, .int .i64 a0.f3.f2, .bool a0.f4, .int .i64 a0.f5, .bool a0.f6]) (T := 53) KR 4 6 (.tmp 22) (.const (.bool true)) (.bool true) #[.slice A160 a0.f0.length c161, .slice A163 a0.f1.length c164, .slice A166 a0.f2.length c167, .int .i64 a0.f3.f2, .bool a0.f4, .int .i64 a0.f5, .bool true] rfl KR KR KR KR KR KR KR ?_; clear ha HW a; intro a W181 HW ha
          refine endl ?_
          refine thenN (hK180 _ _ ?_); clear hK180
          refine wp_seq_k (fun K182 hK183 => ?_)
          refine wp_region_lit ?_
          refine stepp ha 2 (.bool false) KR KR ?_; clear ha a; intro a ha
          refine endl ?_
          refine thenN (hK183 _ _ ?_); clear hK183
          refine wp_ret ?_
          refine thenR ?_
          obtain ⟨U184, hU185, HW⟩ := T_dev_Dev.fold (x := (⟨a0.f0, a0.f1, a0.f2, (⟨(), (), a0.f3.f2⟩ : T_atomic_Int64), a0.f4, a0.f5, true⟩ : T_dev_Dev)) (Wd.segs (ss := [[(p0, .cells #[.slice A160 a0.f0.length c161, .slice A163 a0.f1.length c164, .slice A166 a0.f2.length c167, .int .i64 a0.f3.f2, .bool a0.f4, .int .i64 a0.f5, .bool true] 53 (0, 0))], F]) (bt := bs) (m := [⟨9, 1, .slice A160 a0.f0.length c161, a0.f0.length, encs encS a0.f0⟩, ⟨9, 1, .slice A163 a0.f1.length c164, a0.f1.length, encs encS a0.f1⟩, ⟨62, 2, .slice A166 a0.f2.length c167, a0.f2.length, encs T_dev_held.enc a0.f2⟩]) (ot := os) [[(p0, .cells #[.slice A160 a0.f0.length c161, .slice A163 a0.f1.length c164, .slice A166 a0.f2.length c167, .int .i64 a0.f3.f2, .bool a0.f4, .int .i64 a0.f5, .bool true] 53 (0, 0))], F] [⟨9, 1, .slice A160 a0.f0.length c161, a0.f0.length, encs encS a0.f0⟩, ⟨9, 1, .slice A163 a0.f1.length c164, a0.f1.length, encs encS a0.f1⟩, ⟨62, 2, .slice A166 a0.f2.length c167, a0.f2.length, encs T_dev_held.enc a0.f2⟩] HW [0, 1] [] [0, 1, 2] KR KR (by decide) KR)
          replace HW := Wd.segs (ss := [U184, F]) (bt := bs) (m := []) (ot := os) [U184, F] [] HW [0, 1] [] [] KR KR (by decide) KR
          replace HW : Wd w W181 (U184 ++ (F ++ bs)) (os) := HW
          obtain rfl := Option.some.inj h
          exact finv ha _ _ rfl (.tmp (v := .bool false) KR .nil) (.bool false) rfl ⟨U184, rfl, hU185, (Wd.segs (ss := [U184, F]) (bt := bs) (m := []) (ot := os) [U184, F] [] HW [0, 1] [] [] KR KR (by decide) KR)⟩
        · skip
          replace h := ite_neg' h hp178
          refine condF ha KR KR (t := (a0.f5 == 0)) (ieq_f hp178) ?_
          refine wp_skip ?_
          exact thenN ⟨A160, c161, A163, c164, A166, c167, h, ha.sub (subs_cons KR (subs_nil _)), (Wd.segs (ss := [[(p0, .cells #[.slice A160 a0.f0.length c161, .slice A163 a0.f1.length c164, .slice A166 a0.f2.length c167, .int .i64 a0.f3.f2, .bool a0.f4, .int .i64 a0.f5, .bool a0.f6] 53 (0, 0))], F]) (bt := bs) (m := [⟨9, 1, .slice A160 a0.f0.length c161, a0.f0.length, encs encS a0.f0⟩, ⟨9, 1, .slice A163 a0.f1.length c164, a0.f1.length, encs encS a0.f1⟩, ⟨62, 2, .slice A166 a0.f2.length c167, a0.f2.length, encs T_dev_held.enc a0.f2⟩]) (ot := os) [[(p0, .cells #[.slice A160 a0.f0.length c161, .slice A163 a0.f1.length c164, .slice A166 a0.f2.length c167, .int .i64 a0.f3.f2, .bool a0.f4, .int .i64 a0.f5, .bool a0.f6] 53 (0, 0))], F] [⟨9, 1, .slice A160 a0.f0.length c161, a0.f0.length, encs encS a0.f0⟩, ⟨9, 1, .slice A163 a0.f1.length c164, a0.f1.length, encs encS a0.f1⟩, ⟨62, 2, .slice A166 a0.f2.length c167, a0.f2.length, encs T_dev_held.enc a0.f2⟩] HW [0, 1] [] [0, 1, 2] KR KR (by decide) KR)⟩
      · skip
        replace h := ite_neg' h hp170
        replace ha := ha.bool 12 KR (bool_f hp170)
        refine stepo ha 13 KR ?_; clear ha a; intro a ha
        refine stepo ha 14 KR ?_; clear ha a; intro a ha
        refine stepo ha 15 KR ?_; clear ha a; intro a ha
        refine stepo ha 16 KR ?_; clear ha a; intro a ha
        refine stepo ha 17 KR ?_; clear ha a; intro a ha
        refine stepp ha 18 (.bool false) KR KR ?_; clear ha a; intro a ha
        refine stepp ha 19 (.bool false) KR KR ?_; clear ha a; intro a ha
        refine endl ?_
        refine thenN (hK159 _ _ ?_); clear hK159
        refine condF ha KR KR (t := false) (rfl) ?_
        refine wp_skip ?_
        exact thenN ⟨A160, c161, A163, c164, A166, c167, h, ha.sub (subs_cons KR (subs_nil _)), (Wd.segs (ss := [[(p0, .cells #[.slice A160 a0.f0.length c161, .slice A163 a0.f1.length c164, .slice A166 a0.f2.length c167, .int .i64 a0.f3.f2, .bool a0.f4, .int .i64 a0.f5, .bool a0.f6] 53 (0, 0))], F]) (bt := bs) (m := [⟨9, 1, .slice A160 a0.f0.length c161, a0.f0.length, encs encS a0.f0⟩, ⟨9, 1, .slice A163 a0.f1.length c164, a0.f1.length, encs encS a0.f1⟩, ⟨62, 2, .slice A166 a0.f2.length c167, a0.f2.length, encs T_dev_held.enc a0.f2⟩]) (ot := os) [[(p0, .cells #[.slice A160 a0.f0.length c161, .slice A163 a0.f1.length c164, .slice A166 a0.f2.length c167, .int .i64 a0.f3.f2, .bool a0.f4, .int .i64 a0.f5, .bool a0.f6] 53 (0, 0))], F] [⟨9, 1, .slice A160 a0.f0.length c161, a0.f0.length, encs encS a0.f0⟩, ⟨9, 1, .slice A163 a0.f1.length c164, a0.f1.length, encs encS a0.f1⟩, ⟨62, 2, .slice A166 a0.f2.length c167, a0.f2.length, encs T_dev_held.enc a0.f2⟩] HW [0, 1] [] [0, 1, 2] KR KR (by decide) KR)⟩
  · skip
    intro a W195 hJ
    obtain ⟨A186, c187, A189, c190, A192, c193, h, ha, HW⟩ := hJ
    replace h : dev_Dev_operation.j0 K a0 = some r := h
    unfold dev_Dev_operation.j0 at h
    refine hK157 _ _ ?_; clear hK157
    refine wp_seq_k (fun K196 hK197 => ?_)
    refine wp_region_lit ?_
    refine stepp ha 23 (.pointer (some ⟨p0, 0, none⟩)) KR KR ?_; clear ha a; intro a ha
    refine stepp ha 24 (.pointer (some ⟨p0, 0, none⟩)) KR KR ?_; clear ha a; intro a ha
    refine stepp ha 25 (.pointer (some ⟨p0, 5, none⟩)) KR KR ?_; clear ha a; intro a ha
    refine stepl ha 26 (HW.ca (i := 0) (b := p0) (C := #[.slice A186 a0.f0.length c187, .slice A189 a0.f1.length c190, .slice A192 a0.f2.length c193, .int .i64 a0.f3.f2, .bool a0.f4, .int .i64 a0.f5, .bool a0.f6]) (T := 53) (fr := (0, 0)) KR) 3 5 (.tmp 25) (.int .i64 a0.f5) rfl KR KR KR ?_; clear ha a; intro a ha
    refine stepp ha 27 (.int .i64 (IntKind.wrap .i64 (a0.f5 - 1))) KR KR ?_; clear ha a; intro a ha
    refine stepp ha 28 (.pointer (some ⟨p0, 0, none⟩)) KR KR ?_; clear ha a; intro a ha
    refine stepp ha 29 (.pointer (some ⟨p0, 5, none⟩)) KR KR ?_; clear ha a; intro a ha
    refine stepst ha HW 0 (b := p0) (C := #[.slice A186 a0.f0.length c187, .slice A189 a0.f1.length c190, .slice A192 a0.f2.length c193, .int .i64 a0.f3.f2, .bool a0.f4, .int .i64 a0.f5, .bool a0.f6]) (T := 53) KR 3 5 (.tmp 29) (.tmp 27) (.int .i64 (IntKind.wrap .i64 (a0.f5 - 1))) #[.slice A186 a0.f0.length c187, .slice A189 a0.f1.length c190, .slice A192 a0.f2.length c193, .int .i64 a0.f3.f2, .bool a0.f4, .int .i64 (IntKind.wrap .i64 (a0.f5 - 1)), .bool a0.f6] rfl KR KR KR KR KR KR KR ?_; clear ha HW a; intro a W198 HW ha
    refine endl ?_
    refine thenN (hK197 _ _ ?_); clear hK197
    refine wp_seq_k (fun K199 hK200 => ?_)
    refine wp_region_lit ?_
    refine stepp ha 30 (.pointer (some ⟨p0, 0, none⟩)) KR KR ?_; clear ha a; intro a ha
    refine stepp ha 31 (.pointer (some ⟨p0, 0, none⟩)) KR KR ?_; clear ha a; intro a ha
    refine stepp ha 32 (.pointer (some ⟨p0, 3, none⟩)) KR KR ?_; clear ha a; intro a ha
    refine stepc ha 33 KR KR (atom_add (x := a0.f3.f2) (y := 1) (HW.cellAt (i := 0) (b := p0) (C := #[.slice A186 a0.f0.length c187, .slice A189 a0.f1.length c190, .slice A192 a0.f2.length c193, .int .i64 a0.f3.f2, .bool a0.f4, .int .i64 (IntKind.wrap .i64 (a0.f5 - 1)), .bool a0.f6]) (T := 53) KR 3 KR) (HW.notFrozen (i := 0) (b := p0) (C := #[.slice A186 a0.f0.length c187, .slice A189 a0.f1.length c190, .slice A192 a0.f2.length c193, .int .i64 a0.f3.f2, .bool a0.f4, .int .i64 (IntKind.wrap .i64 (a0.f5 - 1)), .bool a0.f6]) (T := 53) KR 3)) ?_; clear ha a; rintro e W201 ⟨rfl, hW202⟩; refine ⟨_, rfl, ?_⟩; intro a ha
    replace HW : Wd w W201 ((p0, .cells #[.slice A186 a0.f0.length c187, .slice A189 a0.f1.length c190, .slice A192 a0.f2.length c193, .int .i64 (IntKind.wrap .i64 (a0.f3.f2 + 1)), .bool a0.f4, .int .i64 (IntKind.wrap .i64 (a0.f5 - 1)), .bool a0.f6] 53 (0, 0)) :: F ++ bs) (⟨9, 1, .slice A186 a0.f0.length c187, a0.f0.length, encs encS a0.f0⟩ :: ⟨9, 1, .slice A189 a0.f1.length c190, a0.f1.length, encs encS a0.f1⟩ :: ⟨62, 2, .slice A192 a0.f2.length c193, a0.f2.length, encs T_dev_held.enc a0.f2⟩ :: os) := by rw [hW202]; exact HW.setAt (i := 0) (b := p0) (C := #[.slice A186 a0.f0.length c187, .slice A189 a0.f1.length c190, .slice A192 a0.f2.length c193, .int .i64 a0.f3.f2, .bool a0.f4, .int .i64 (IntKind.wrap .i64 (a0.f5 - 1)), .bool a0.f6]) (T := 53) KR 3 (.int .i64 (IntKind.wrap .i64 (a0.f3.f2 + 1))) (C' := #[.slice A186 a0.f0.length c187, .slice A189 a0.f1.length c190, .slice A192 a0.f2.length c193, .int .i64 (IntKind.wrap .i64 (a0.f3.f2 + 1)), .bool a0.f4, .int .i64 (IntKind.wrap .i64 (a0.f5 - 1)), .bool a0.f6]) KR
    clear hW202
    refine endl ?_
    refine thenN (hK200 _ _ ?_); clear hK200
    refine wp_seq_k (fun K203 hK204 => ?_)
    refine wp_region_lit ?_
    refine stepp ha 2 (.bool true) KR KR ?_; clear ha a; intro a ha
    refine endl ?_
    refine thenN (hK204 _ _ ?_); clear hK204
    refine wp_ret ?_
    obtain ⟨U205, hU206, HW⟩ := T_dev_Dev.fold (x := (⟨a0.f0, a0.f1, a0.f2, (⟨(), (), IntKind.wrap .i64 (a0.f3.f2 + 1)⟩ : T_atomic_Int64), a0.f4, IntKind.wrap .i64 (a0.f5 - 1), a0.f6⟩ : T_dev_Dev)) (Wd.segs (ss := [[(p0, .cells #[.slice A186 a0.f0.length c187, .slice A189 a0.f1.length c190, .slice A192 a0.f2.length c193, .int .i64 (IntKind.wrap .i64 (a0.f3.f2 + 1)), .bool a0.f4, .int .i64 (IntKind.wrap .i64 (a0.f5 - 1)), .bool a0.f6] 53 (0, 0))], F]) (bt := bs) (m := [⟨9, 1, .slice A186 a0.f0.length c187, a0.f0.length, encs encS a0.f0⟩, ⟨9, 1, .slice A189 a0.f1.length c190, a0.f1.length, encs encS a0.f1⟩, ⟨62, 2, .slice A192 a0.f2.length c193, a0.f2.length, encs T_dev_held.enc a0.f2⟩]) (ot := os) [[(p0, .cells #[.slice A186 a0.f0.length c187, .slice A189 a0.f1.length c190, .slice A192 a0.f2.length c193, .int .i64 (IntKind.wrap .i64 (a0.f3.f2 + 1)), .bool a0.f4, .int .i64 (IntKind.wrap .i64 (a0.f5 - 1)), .bool a0.f6] 53 (0, 0))], F] [⟨9, 1, .slice A186 a0.f0.length c187, a0.f0.length, encs encS a0.f0⟩, ⟨9, 1, .slice A189 a0.f1.length c190, a0.f1.length, encs encS a0.f1⟩, ⟨62, 2, .slice A192 a0.f2.length c193, a0.f2.length, encs T_dev_held.enc a0.f2⟩] HW [0, 1] [] [0, 1, 2] KR KR (by decide) KR)
    replace HW := Wd.segs (ss := [U205, F]) (bt := bs) (m := []) (ot := os) [U205, F] [] HW [0, 1] [] [] KR KR (by decide) KR
    replace HW : Wd w W201 (U205 ++ (F ++ bs)) (os) := HW
    obtain rfl := Option.some.inj h
    exact finv ha _ _ rfl (.tmp (v := .bool true) KR .nil) (.bool true) rfl ⟨U205, rfl, hU206, (Wd.segs (ss := [U205, F]) (bt := bs) (m := []) (ot := os) [U205, F] [] HW [0, 1] [] [] KR KR (by decide) KR)⟩
def journal_Journal_failed.f (a0 : T_journal_Journal) (a0_0 : T_dev_Dev) (a1 : Int) : Option (Int × T_journal_Journal × T_dev_Dev) :=
  if a0.f9 = true then (some (a1, (⟨(), a0.f1, a0.f2, a0.f3, (⟨(), (), a0.f4.f2⟩ : T_atomic_Int64), a0.f5, a0.f6, a0.f7, a0.f8, true⟩ : T_journal_Journal), a0_0)) else (some (a1, (⟨(), a0.f1, a0.f2, a0.f3, (⟨(), (), a0.f4.f2⟩ : T_atomic_Int64), a0.f5, a0.f6, a0.f7, a0.f8, (a1 != 0)⟩ : T_journal_Journal), a0_0))
set_option maxRecDepth 100000 in
set_option maxHeartbeats 4000000 in
theorem journal_Journal_failed.calls (a0 : T_journal_Journal) (a0_0 : T_dev_Dev) (a1 : Int) (p0 : Nat) (U0 : Blks) (p0_0 : Nat) (U0_0 : Blks)  (r : Int × T_journal_Journal × T_dev_Dev) (w w1 : World) (F bs : Blks) (os : List OwnA) (hU0 : T_journal_Journal.At p0 p0_0 a0 U0) (hU0_0 : T_dev_Dev.At p0_0  a0_0 U0_0) (HW : Wd w w1 (U0 ++ (U0_0 ++ (F ++ bs))) os) (h : journal_Journal_failed.f a0 a0_0 a1 = some r) :
    Calls Tryd.prog 43 #[.pointer (some ⟨p0, 0, none⟩), .int .i64 a1] w1 (fun e W' => ∃ U0' : Blks, ∃ U0_0' : Blks, e = .returned (.int .i64 r.1) ∧ T_journal_Journal.At p0 p0_0 r.2.1 U0' ∧ T_dev_Dev.At p0_0  r.2.2 U0_0' ∧ Wd w W' (U0' ++ (U0_0' ++ (F ++ bs))) (os)) := by
  refine sxstart (n := 17) (l := [(0, .pointer (some ⟨p0, 0, none⟩)), (1, .int .i64 a1)]) Tryd.func43 rfl rfl (Nat.le_of_ble_eq_true KR) (subsA_cons rfl (subsA_cons rfl (subsA_nil _))) ?_
  intro a ha
  replace HW : Wd w w1 (U0 ++ (U0_0 ++ (F ++ bs))) (os) := HW
  unfold journal_Journal_failed.f at h
  refine wp_seq_k (fun K613 hK614 => ?_)
  refine wp_region_lit ?_
  refine stepp ha 4 (.int .i64 0) KR KR ?_; clear ha a; intro a ha
  refine endl ?_
  refine thenN (hK614 _ _ ?_); clear hK614
  refine wp_seq_k (fun K615 hK616 => ?_)
  refine wp_region_lit ?_
  refine stepp ha 5 (.pointer (some ⟨p0, 0, none⟩)) KR KR ?_; clear ha a; intro a ha
  refine stepp ha 6 (.pointer (some ⟨p0, 0, none⟩)) KR KR ?_; clear ha a; intro a ha
  refine stepp ha 7 (.pointer (some ⟨p0, 0, none⟩)) KR KR ?_; clear ha a; intro a ha
  refine stepp ha 8 (.pointer (some ⟨p0, 9, none⟩)) KR KR ?_; clear ha a; intro a ha
  obtain ⟨A617, c618, HW⟩ := T_journal_Journal.unfold hU0 (Wd.segs (ss := [U0, U0_0, F]) (bt := bs) (m := []) (ot := os) [U0, U0_0, F] [] HW [0, 1, 2] [] [] KR KR (by decide) KR)
  replace HW : Wd w w1 ((p0, .cells #[.pointer (some ⟨p0_0, 0, none⟩), .int .i64 a0.f1, .int .i64 a0.f2, .int .i64 a0.f3, .int .i64 a0.f4.f2, .string a0.f5, .slice A617 a0.f6.length c618, .int .i64 a0.f7, .bool a0.f8, .bool a0.f9] 57 (0, 0)) :: U0_0 ++ (F ++ bs)) (⟨9, 1, .slice A617 a0.f6.length c618, a0.f6.length, encs encS a0.f6⟩ :: os) := HW; clear hU0
  refine stepl ha 9 (HW.ca (i := 0) (b := p0) (C := #[.pointer (some ⟨p0_0, 0, none⟩), .int .i64 a0.f1, .int .i64 a0.f2, .int .i64 a0.f3, .int .i64 a0.f4.f2, .string a0.f5, .slice A617 a0.f6.length c618, .int .i64 a0.f7, .bool a0.f8, .bool a0.f9]) (T := 57) (fr := (0, 0)) KR) 4 9 (.tmp 8) (.bool a0.f9) rfl KR KR KR ?_; clear ha a; intro a ha
  refine stepp ha 10 (.bool a0.f9) KR KR ?_; clear ha a; intro a ha
  by_cases hp620 : a0.f9 = true
  · skip
    replace h := ite_pos' h hp620
    replace ha := ha.bool 10 KR (hp620)
    refine stepo ha 11 KR ?_; clear ha a; intro a ha
    refine stepo ha 12 KR ?_; clear ha a; intro a ha
    refine stepp ha 13 (.bool true) KR KR ?_; clear ha a; intro a ha
    refine stepp ha 14 (.pointer (some ⟨p0, 0, none⟩)) KR KR ?_; clear ha a; intro a ha
    refine stepp ha 15 (.pointer (some ⟨p0, 9, none⟩)) KR KR ?_; clear ha a; intro a ha
    refine stepst ha HW 0 (b := p0) (C := #[.pointer (some ⟨p0_0, 0, none⟩), .int .i64 a0.f1, .int .i64 a0.f2, .int .i64 a0.f3, .int .i64 a0.f4.f2, .string a0.f5, .slice A617 a0.f6.length c618, .int .i64 a0.f7, .bool a0.f8, .bool a0.f9]) (T := 57) KR 4 9 (.tmp 15) (.tmp 13) (.bool true) #[.pointer (some ⟨p0_0, 0, none⟩), .int .i64 a0.f1, .int .i64 a0.f2, .int .i64 a0.f3, .int .i64 a0.f4.f2, .string a0.f5, .slice A617 a0.f6.length c618, .int .i64 a0.f7, .bool a0.f8, .bool true] rfl KR KR KR KR KR KR KR ?_; clear ha HW a; intro a W621 HW ha
    refine endl ?_
    refine thenN (hK616 _ _ ?_); clear hK616
    refine wp_seq_k (fun K623 hK624 => ?_)
    refine wp_region_lit ?_
    refine stepp ha 16 (.int .i64 a1) KR KR ?_; clear ha a; intro a ha
    refine stepp ha 4 (.int .i64 a1) KR KR ?_; clear ha a; intro a ha
    refine endl ?_
    refine thenN (hK624 _ _ ?_); clear hK624
    refine wp_ret ?_
    obtain ⟨U625, hU626, HW⟩ := T_journal_Journal.fold (x := (⟨(), a0.f1, a0.f2, a0.f3, (⟨(), (), a0.f4.f2⟩ : T_atomic_Int64), a0.f5, a0.f6, a0.f7, a0.f8, true⟩ : T_journal_Journal)) (Wd.segs (ss := [[(p0, .cells #[.pointer (some ⟨p0_0, 0, none⟩), .int .i64 a0.f1, .int .i64 a0.f2, .int .i64 a0.f3, .int .i64 a0.f4.f2, .string a0.f5, .slice A617 a0.f6.length c618, .int .i64 a0.f7, .bool a0.f8, .bool true] 57 (0, 0))], U0_0, F]) (bt := bs) (m := [⟨9, 1, .slice A617 a0.f6.length c618, a0.f6.length, encs encS a0.f6⟩]) (ot := os) [[(p0, .cells #[.pointer (some ⟨p0_0, 0, none⟩), .int .i64 a0.f1, .int .i64 a0.f2, .int .i64 a0.f3, .int .i64 a0.f4.f2, .string a0.f5, .slice A617 a0.f6.length c618, .int .i64 a0.f7, .bool a0.f8, .bool true] 57 (0, 0))], U0_0, F] [⟨9, 1, .slice A617 a0.f6.length c618, a0.f6.length, encs encS a0.f6⟩] HW [0, 1, 2] [] [0] KR KR (by decide) KR)
    replace HW := Wd.segs (ss := [U625, U0_0, F]) (bt := bs) (m := []) (ot := os) [U625, U0_0, F] [] HW [0, 1, 2] [] [] KR KR (by decide) KR
    replace HW : Wd w W621 (U625 ++ (U0_0 ++ (F ++ bs))) (os) := HW
    obtain rfl := Option.some.inj h
    exact finv ha _ _ rfl (.tmp (v := .int .i64 a1) KR .nil) (.int .i64 a1) rfl ⟨U625, U0_0, rfl, hU626, hU0_0, (Wd.segs (ss := [U625, U0_0, F]) (bt := bs) (m := []) (ot := os) [U625, U0_0, F] [] HW [0, 1, 2] [] [] KR KR (by decide) KR)⟩
  · skip
    replace h := ite_neg' h hp620
    replace ha := ha.bool 10 KR (bool_f hp620)
    refine stepp ha 11 (.int .i64 a1) KR KR ?_; clear ha a; intro a ha
    refine stepp ha 12 (.bool (a1 != 0)) KR KR ?_; clear ha a; intro a ha
    refine stepp ha 13 (.bool (a1 != 0)) KR KR ?_; clear ha a; intro a ha
    refine stepp ha 14 (.pointer (some ⟨p0, 0, none⟩)) KR KR ?_; clear ha a; intro a ha
    refine stepp ha 15 (.pointer (some ⟨p0, 9, none⟩)) KR KR ?_; clear ha a; intro a ha
    refine stepst ha HW 0 (b := p0) (C := #[.pointer (some ⟨p0_0, 0, none⟩), .int .i64 a0.f1, .int .i64 a0.f2, .int .i64 a0.f3, .int .i64 a0.f4.f2, .string a0.f5, .slice A617 a0.f6.length c618, .int .i64 a0.f7, .bool a0.f8, .bool a0.f9]) (T := 57) KR 4 9 (.tmp 15) (.tmp 13) (.bool (a1 != 0)) #[.pointer (some ⟨p0_0, 0, none⟩), .int .i64 a0.f1, .int .i64 a0.f2, .int .i64 a0.f3, .int .i64 a0.f4.f2, .string a0.f5, .slice A617 a0.f6.length c618, .int .i64 a0.f7, .bool a0.f8, .bool (a1 != 0)] rfl KR KR KR KR KR KR KR ?_; clear ha HW a; intro a W622 HW ha
    refine endl ?_
    refine thenN (hK616 _ _ ?_); clear hK616
    refine wp_seq_k (fun K627 hK628 => ?_)
    refine wp_region_lit ?_
    refine stepp ha 16 (.int .i64 a1) KR KR ?_; clear ha a; intro a ha
    refine stepp ha 4 (.int .i64 a1) KR KR ?_; clear ha a; intro a ha
    refine endl ?_
    refine thenN (hK628 _ _ ?_); clear hK628
    refine wp_ret ?_
    obtain ⟨U629, hU630, HW⟩ := T_journal_Journal.fold (x := (⟨(), a0.f1, a0.f2, a0.f3, (⟨(), (), a0.f4.f2⟩ : T_atomic_Int64), a0.f5, a0.f6, a0.f7, a0.f8, (a1 != 0)⟩ : T_journal_Journal)) (Wd.segs (ss := [[(p0, .cells #[.pointer (some ⟨p0_0, 0, none⟩), .int .i64 a0.f1, .int .i64 a0.f2, .int .i64 a0.f3, .int .i64 a0.f4.f2, .string a0.f5, .slice A617 a0.f6.length c618, .int .i64 a0.f7, .bool a0.f8, .bool (a1 != 0)] 57 (0, 0))], U0_0, F]) (bt := bs) (m := [⟨9, 1, .slice A617 a0.f6.length c618, a0.f6.length, encs encS a0.f6⟩]) (ot := os) [[(p0, .cells #[.pointer (some ⟨p0_0, 0, none⟩), .int .i64 a0.f1, .int .i64 a0.f2, .int .i64 a0.f3, .int .i64 a0.f4.f2, .string a0.f5, .slice A617 a0.f6.length c618, .int .i64 a0.f7, .bool a0.f8, .bool (a1 != 0)] 57 (0, 0))], U0_0, F] [⟨9, 1, .slice A617 a0.f6.length c618, a0.f6.length, encs encS a0.f6⟩] HW [0, 1, 2] [] [0] KR KR (by decide) KR)
    replace HW := Wd.segs (ss := [U629, U0_0, F]) (bt := bs) (m := []) (ot := os) [U629, U0_0, F] [] HW [0, 1, 2] [] [] KR KR (by decide) KR
    replace HW : Wd w W622 (U629 ++ (U0_0 ++ (F ++ bs))) (os) := HW
    obtain rfl := Option.some.inj h
    exact finv ha _ _ rfl (.tmp (v := .int .i64 a1) KR .nil) (.int .i64 a1) rfl ⟨U629, U0_0, rfl, hU630, hU0_0, (Wd.segs (ss := [U629, U0_0, F]) (bt := bs) (m := []) (ot := os) [U629, U0_0, F] [] HW [0, 1, 2] [] [] KR KR (by decide) KR)⟩
def dev_Dev_settle.b0 (K : Nat) (a0 : T_dev_Dev) (again731 : Int → (List ByteArray) → (List ByteArray) → Option T_dev_Dev) (x732 : Int) (x733 : List ByteArray) (x737 : List ByteArray) : Option T_dev_Dev :=
  if x732 < (a0.f2.length : Int) then (asrt (0 ≤ x732) (asrt (0 ≤ ((rdL T_dev_held.z a0.f2 x732).f0)) (asrt (((rdL T_dev_held.z a0.f2 x732).f0) < (x737.length : Int)) (if (rdL (⟨#[]⟩ : ByteArray) x737 ((rdL T_dev_held.z a0.f2 x732).f0)) = (⟨#[]⟩ : ByteArray) then (again731 (IntKind.wrap .i64 (x732 + 1)) x733 x737) else (asrt (((rdL T_dev_held.z a0.f2 x732).f0) < (x733.length : Int)) (again731 (IntKind.wrap .i64 (x732 + 1)) (x733.set ((rdL T_dev_held.z a0.f2 x732).f0 : Int).toNat (rdL (⟨#[]⟩ : ByteArray) x737 ((rdL T_dev_held.z a0.f2 x732).f0))) (x737.set ((rdL T_dev_held.z a0.f2 x732).f0 : Int).toNat (⟨#[]⟩ : ByteArray)))))))) else (some (⟨x733, x737, ([] : List T_dev_held), (⟨(), (), a0.f3.f2⟩ : T_atomic_Int64), a0.f4, a0.f5, a0.f6⟩ : T_dev_Dev))
def dev_Dev_settle.l0 (K : Nat) (a0 : T_dev_Dev) : Nat → Int → (List ByteArray) → (List ByteArray) → Option T_dev_Dev
  | 0, _, _, _ => none
  | k_ + 1, x732, x733, x737 => dev_Dev_settle.b0 K a0 (dev_Dev_settle.l0 K a0 k_) x732 x733 x737
def dev_Dev_settle.f (K : Nat) (a0 : T_dev_Dev) : Option T_dev_Dev :=
  dev_Dev_settle.l0 K a0 K 0 a0.f0 a0.f1
set_option maxRecDepth 100000 in
set_option maxHeartbeats 4000000 in
theorem dev_Dev_settle.calls (K : Nat) (a0 : T_dev_Dev) (p0 : Nat) (U0 : Blks)  (r : T_dev_Dev) (w w1 : World) (F bs : Blks) (os : List OwnA) (hU0 : T_dev_Dev.At p0  a0 U0) (HW : Wd w w1 (U0 ++ (F ++ bs)) os) (h : dev_Dev_settle.f K a0 = some r) :
    Calls Tryd.prog 29 #[.pointer (some ⟨p0, 0, none⟩)] w1 (fun e W' => ∃ U0' : Blks, e = .returned (.tuple #[]) ∧ T_dev_Dev.At p0  r U0' ∧ Wd w W' (U0' ++ (F ++ bs)) (os)) := by
  refine sxstart (n := 48) (l := [(0, .pointer (some ⟨p0, 0, none⟩))]) Tryd.func29 rfl rfl (Nat.le_of_ble_eq_true KR) (subsA_cons rfl (subsA_nil _)) ?_
  intro a ha
  replace HW : Wd w w1 (U0 ++ (F ++ bs)) (os) := HW
  unfold dev_Dev_settle.f at h
  refine wp_seq_k (fun K631 hK632 => ?_)
  refine wp_seq_k (fun K633 hK634 => ?_)
  refine wp_region_lit ?_
  refine stepp ha 4 (.pointer (some ⟨p0, 0, none⟩)) KR KR ?_; clear ha a; intro a ha
  refine stepp ha 5 (.pointer (some ⟨p0, 0, none⟩)) KR KR ?_; clear ha a; intro a ha
  refine stepp ha 6 (.pointer (some ⟨p0, 2, none⟩)) KR KR ?_; clear ha a; intro a ha
  obtain ⟨A635, c636, A638, c639, A641, c642, HW⟩ := T_dev_Dev.unfold hU0 (Wd.segs (ss := [U0, F]) (bt := bs) (m := []) (ot := os) [U0, F] [] HW [0, 1] [] [] KR KR (by decide) KR)
  replace HW : Wd w w1 ((p0, .cells #[.slice A635 a0.f0.length c636, .slice A638 a0.f1.length c639, .slice A641 a0.f2.length c642, .int .i64 a0.f3.f2, .bool a0.f4, .int .i64 a0.f5, .bool a0.f6] 53 (0, 0)) :: F ++ bs) (⟨9, 1, .slice A635 a0.f0.length c636, a0.f0.length, encs encS a0.f0⟩ :: ⟨9, 1, .slice A638 a0.f1.length c639, a0.f1.length, encs encS a0.f1⟩ :: ⟨62, 2, .slice A641 a0.f2.length c642, a0.f2.length, encs T_dev_held.enc a0.f2⟩ :: os) := HW; clear hU0
  refine stepl ha 7 (HW.ca (i := 0) (b := p0) (C := #[.slice A635 a0.f0.length c636, .slice A638 a0.f1.length c639, .slice A641 a0.f2.length c642, .int .i64 a0.f3.f2, .bool a0.f4, .int .i64 a0.f5, .bool a0.f6]) (T := 53) (fr := (0, 0)) KR) 46 2 (.tmp 6) (.slice A641 a0.f2.length c642) rfl KR KR KR ?_; clear ha a; intro a ha
  refine stepp ha 8 (.int .i64 (a0.f2.length : Int)) KR KR ?_; clear ha a; intro a ha
  refine stepp ha 9 (.int .i64 0) KR KR ?_; clear ha a; intro a ha
  refine endl ?_
  refine thenN (hK634 _ _ ?_); clear hK634
  refine wp_block ?_
  refine loopk (fun k => fun a W741 => ∃ (x732 : Int), ∃ (x733 : List ByteArray), ∃ A734, ∃ c735, ∃ (x737 : List ByteArray), ∃ A738, ∃ c739, dev_Dev_settle.l0 K a0 k x732 x733 x737 = some r ∧ Has 48 [(0, .pointer (some ⟨p0, 0, none⟩)), (7, .slice A641 a0.f2.length c642), (8, .int .i64 (a0.f2.length : Int)), (9, .int .i64 x732)] a ∧ Wd w W741 ((p0, .cells #[.slice A734 x733.length c735, .slice A738 x737.length c739, .slice A641 a0.f2.length c642, .int .i64 a0.f3.f2, .bool a0.f4, .int .i64 a0.f5, .bool a0.f6] 53 (0, 0)) :: F ++ bs) (⟨9, 1, .slice A734 x733.length c735, x733.length, encs encS x733⟩ :: ⟨9, 1, .slice A738 x737.length c739, x737.length, encs encS x737⟩ :: ⟨62, 2, .slice A641 a0.f2.length c642, a0.f2.length, encs T_dev_held.enc a0.f2⟩ :: os)) K ?_ ?_
  · skip
    exact ⟨0, a0.f0, A635, c636, a0.f1, A638, c639, h, ha.sub (subs_cons KR (subs_cons KR (subs_cons KR (subs_cons KR (subs_nil _))))), (Wd.segs (ss := [[(p0, .cells #[.slice A635 a0.f0.length c636, .slice A638 a0.f1.length c639, .slice A641 a0.f2.length c642, .int .i64 a0.f3.f2, .bool a0.f4, .int .i64 a0.f5, .bool a0.f6] 53 (0, 0))], F]) (bt := bs) (m := [⟨9, 1, .slice A635 a0.f0.length c636, a0.f0.length, encs encS a0.f0⟩, ⟨9, 1, .slice A638 a0.f1.length c639, a0.f1.length, encs encS a0.f1⟩, ⟨62, 2, .slice A641 a0.f2.length c642, a0.f2.length, encs T_dev_held.enc a0.f2⟩]) (ot := os) [[(p0, .cells #[.slice A635 a0.f0.length c636, .slice A638 a0.f1.length c639, .slice A641 a0.f2.length c642, .int .i64 a0.f3.f2, .bool a0.f4, .int .i64 a0.f5, .bool a0.f6] 53 (0, 0))], F] [⟨9, 1, .slice A635 a0.f0.length c636, a0.f0.length, encs encS a0.f0⟩, ⟨9, 1, .slice A638 a0.f1.length c639, a0.f1.length, encs encS a0.f1⟩, ⟨62, 2, .slice A641 a0.f2.length c642, a0.f2.length, encs T_dev_held.enc a0.f2⟩] HW [0, 1] [] [0, 1, 2] KR KR (by decide) KR)⟩
  · skip
    intro k a W741 hI
    obtain ⟨x732, x733, A734, c735, x737, A738, c739, h, ha, HW⟩ := hI
    cases k with
    | zero => exact (none_some (show none = some r from h)).elim
    | succ k742 =>
      replace h : dev_Dev_settle.b0 K a0 (dev_Dev_settle.l0 K a0 k742) x732 x733 x737 = some r := h
      obtain ⟨again731, hag743⟩ : ∃ g_, g_ = dev_Dev_settle.l0 K a0 k742 := ⟨_, rfl⟩
      rw [← hag743] at h
      unfold dev_Dev_settle.b0 at h
      refine wp_seq_k (fun K744 hK745 => ?_)
      refine wp_region_lit ?_
      refine stepp ha 10 (.bool (decide (x732 < (a0.f2.length : Int)))) KR KR ?_; clear ha a; intro a ha
      refine endl ?_
      refine thenN (hK745 _ _ ?_); clear hK745
      refine wp_seq_k (fun K746 hK747 => ?_)
      by_cases hp748 : x732 < (a0.f2.length : Int)
      · skip
        replace h := ite_pos' h hp748
        refine condT ha KR KR (t := decide (x732 < (a0.f2.length : Int))) (decide_eq_true hp748) ?_
        refine wp_skip ?_
        refine thenN (hK747 _ _ ?_); clear hK747
        refine wp_seq_k (fun K749 hK750 => ?_)
        refine wp_block ?_
        refine wp_seq_k (fun K751 hK752 => ?_)
        refine wp_region_lit ?_
        obtain ⟨hA753, h_⟩ := asrt_some h; clear h; have h := h_; clear h_
        refine stepie T_dev_held.enc T_dev_held.z ha 11 (fun _ => rfl) (v := .slice A641 a0.f2.length c642) (xs := a0.f2) (HW.rdo (i := 2) (q := ⟨62, 2, .slice A641 a0.f2.length c642, a0.f2.length, encs T_dev_held.enc a0.f2⟩) KR) 46 62 (.tmp 7) (.tmp 9) .i64 x732 rfl KR KR KR KR hA753 (show (x732 : Int) < ((a0.f2).length : Int) from hp748) KR ?_; clear ha a; intro b754 off755 a hC756 ha
        refine stepl ha 12 hC756 62 0 (.tmp 11) (.agg #[.int .i64 ((rdL T_dev_held.z a0.f2 x732).f0), .string ((rdL T_dev_held.z a0.f2 x732).f1)]) rfl KR KR KR ?_; clear ha a; intro a ha
        refine stepnew ha HW 3 #[.int .i64 0, .string (⟨#[]⟩ : ByteArray)] 62 KR KR ?_; clear ha HW a; intro b757 a W758 HW ha
        refine stepst ha HW 0 (b := b757) (C := #[.int .i64 0, .string (⟨#[]⟩ : ByteArray)]) (T := 62) KR 62 0 (.tmp 3) (.tmp 12) (.agg #[.int .i64 ((rdL T_dev_held.z a0.f2 x732).f0), .string ((rdL T_dev_held.z a0.f2 x732).f1)]) #[.int .i64 ((rdL T_dev_held.z a0.f2 x732).f0), .string ((rdL T_dev_held.z a0.f2 x732).f1)] rfl KR KR KR KR KR KR KR ?_; clear ha HW a; intro a W759 HW ha
        refine endl ?_
        refine thenN (hK752 _ _ ?_); clear hK752
        refine wp_seq_k (fun K760 hK761 => ?_)
        obtain ⟨hA762, h_⟩ := asrt_some h; clear h; have h := h_; clear h_
        obtain ⟨hA763, h_⟩ := asrt_some h; clear h; have h := h_; clear h_
        obtain ⟨b765, off766, hA767⟩ := Rd.addr (HW.rdo (i := 1) (q := ⟨9, 1, .slice A738 x737.length c739, x737.length, encs encS x737⟩) KR) hA762 (show ((rdL T_dev_held.z a0.f2 x732).f0 : Int) < ((x737).length : Int) from hA763)
        refine regionG 9 KR KR ha HW [.fix (.pointer (some ⟨p0, 0, none⟩)), .fix (.pointer (some ⟨p0, 0, none⟩)), .fix (.pointer (some ⟨p0, 1, none⟩)), .fix (.slice A738 x737.length c739), .fix (.pointer (some ⟨b757, 0, none⟩)), .fix (.int .i64 ((rdL T_dev_held.z a0.f2 x732).f0)), .fix (.pointer (some ⟨b765, off766 + ((rdL T_dev_held.z a0.f2 x732).f0 : Int).toNat * 1, none⟩)), .fix (.string (rdL (⟨#[]⟩ : ByteArray) x737 ((rdL T_dev_held.z a0.f2 x732).f0))), .fix (.bool (!((rdL (⟨#[]⟩ : ByteArray) x737 ((rdL T_dev_held.z a0.f2 x732).f0)).toList == (⟨#[]⟩ : ByteArray).toList)))] ?_ ?_
        · skip
          refine ⟨?_, ?_, ?_, ?_, ?_, ?_, ?_, ?_, ?_, trivial⟩
          · skip
            intro a wr hn hd HW hs; have ha := hasNil hn hd
            have ha := ha.add (seeE hs 0 (.pointer (some ⟨p0, 0, none⟩)) KR KR)
            refine yStep ha 13 KR ?_; intro l_ ha HK
            refine stepp ha 13 (.pointer (some ⟨p0, 0, none⟩)) KR KR ?_; intro ax hax; exact HK _ _ _ hax rfl (Below.refl _ _)
          · skip
            intro a wr hn hd HW hs; have ha := hasNil hn hd
            have ha := ha.add (seeF hs 13 0 (.pointer (some ⟨p0, 0, none⟩)) KR KR)
            refine yStep ha 14 KR ?_; intro l_ ha HK
            refine stepp ha 14 (.pointer (some ⟨p0, 0, none⟩)) KR KR ?_; intro ax hax; exact HK _ _ _ hax rfl (Below.refl _ _)
          · skip
            intro a wr hn hd HW hs; have ha := hasNil hn hd
            have ha := ha.add (seeF hs 14 1 (.pointer (some ⟨p0, 0, none⟩)) KR KR)
            refine yStep ha 15 KR ?_; intro l_ ha HK
            refine stepp ha 15 (.pointer (some ⟨p0, 1, none⟩)) KR KR ?_; intro ax hax; exact HK _ _ _ hax rfl (Below.refl _ _)
          · skip
            intro a wr hn hd HW hs; have ha := hasNil hn hd
            have ha := ha.add (seeF hs 15 2 (.pointer (some ⟨p0, 1, none⟩)) KR KR)
            refine yStep ha 16 KR ?_; intro l_ ha HK
            refine stepl ha 16 (HW.ca (i := 1) (b := p0) (C := #[.slice A734 x733.length c735, .slice A738 x737.length c739, .slice A641 a0.f2.length c642, .int .i64 a0.f3.f2, .bool a0.f4, .int .i64 a0.f5, .bool a0.f6]) (T := 53) (fr := (0, 0)) KR) 22 1 (.tmp 15) (.slice A738 x737.length c739) rfl KR KR KR ?_; intro ax hax; exact HK _ _ _ hax rfl (Below.refl _ _)
          · skip
            intro a wr hn hd HW hs; have ha := hasNil hn hd
            have ha := ha.add (seeE hs 3 (.pointer (some ⟨b757, 0, none⟩)) KR KR)
            refine yStep ha 17 KR ?_; intro l_ ha HK
            refine stepp ha 17 (.pointer (some ⟨b757, 0, none⟩)) KR KR ?_; intro ax hax; exact HK _ _ _ hax rfl (Below.refl _ _)
          · skip
            intro a wr hn hd HW hs; have ha := hasNil hn hd
            have ha := ha.add (seeF hs 17 4 (.pointer (some ⟨b757, 0, none⟩)) KR KR)
            refine yStep ha 18 KR ?_; intro l_ ha HK
            refine stepl ha 18 (HW.ca (i := 0) (b := b757) (C := #[.int .i64 ((rdL T_dev_held.z a0.f2 x732).f0), .string ((rdL T_dev_held.z a0.f2 x732).f1)]) (T := 62) (fr := (0, 0)) KR) 3 0 (.tmp 17) (.int .i64 ((rdL T_dev_held.z a0.f2 x732).f0)) rfl KR KR KR ?_; intro ax hax; exact HK _ _ _ hax rfl (Below.refl _ _)
          · skip
            intro a wr hn hd HW hs; have ha := hasNil hn hd
            have ha := ha.add (seeF hs 16 3 (.slice A738 x737.length c739) KR KR)
            have ha := ha.add (seeF hs 18 5 (.int .i64 ((rdL T_dev_held.z a0.f2 x732).f0)) KR KR)
            replace ha := ha.turn 16 (u := .slice A738 x737.length c739) (v := .slice (some ⟨b765, off766, none⟩) x737.length c739) KR (by rw [hA767])
            refine yStep ha 19 KR ?_; intro l_ ha HK
            refine stepif ha 19 (sz := 1) (len := x737.length) (b := b765) (off := off766) (c := c739) 22 9 (.tmp 16) (.tmp 18) .i64 ((rdL T_dev_held.z a0.f2 x732).f0) rfl KR KR KR KR hA762 (show ((rdL T_dev_held.z a0.f2 x732).f0 : Int) < ((x737).length : Int) from hA763) KR ?_; intro ax hax; exact HK _ _ _ hax rfl (Below.refl _ _)
          · skip
            intro a wr hn hd HW hs; have ha := hasNil hn hd
            have ha := ha.add (seeF hs 19 6 (.pointer (some ⟨b765, off766 + ((rdL T_dev_held.z a0.f2 x732).f0 : Int).toNat * 1, none⟩)) KR KR)
            refine yStep ha 20 KR ?_; intro l_ ha HK
            refine stepl ha 20 (Rd.ca encS (⟨#[]⟩ : ByteArray) (fun _ => rfl) (by have h_ := (HW.rdo (i := 1) (q := ⟨9, 1, .slice A738 x737.length c739, x737.length, encs encS x737⟩) KR); rw [hA767] at h_; exact h_) hA762 (show ((rdL T_dev_held.z a0.f2 x732).f0 : Int) < ((x737).length : Int) from hA763)) 9 0 (.tmp 19) (.string (rdL (⟨#[]⟩ : ByteArray) x737 ((rdL T_dev_held.z a0.f2 x732).f0))) rfl KR KR KR ?_; intro ax hax; exact HK _ _ _ hax rfl (Below.refl _ _)
          · skip
            intro a wr hn hd HW hs; have ha := hasNil hn hd
            have ha := ha.add (seeF hs 20 7 (.string (rdL (⟨#[]⟩ : ByteArray) x737 ((rdL T_dev_held.z a0.f2 x732).f0))) KR KR)
            refine yStep ha 21 KR ?_; intro l_ ha HK
            refine stepp ha 21 (.bool (!((rdL (⟨#[]⟩ : ByteArray) x737 ((rdL T_dev_held.z a0.f2 x732).f0)).toList == (⟨#[]⟩ : ByteArray).toList))) KR KR ?_; intro ax hax; exact HK _ _ _ hax rfl (Below.refl _ _)
        · skip
          intro a W768 ha HW he hf
          replace ha := ha.add (he 0 (.pointer (some ⟨p0, 0, none⟩)) KR KR)
          replace ha := ha.add (he 3 (.pointer (some ⟨b757, 0, none⟩)) KR KR)
          replace ha := ha.add (he 7 (.slice A641 a0.f2.length c642) KR KR)
          replace ha := ha.add (he 8 (.int .i64 (a0.f2.length : Int)) KR KR)
          replace ha := ha.add (he 9 (.int .i64 x732) KR KR)
          replace ha := ha.add (gotF (m := 9) (j := 8) (d := 21) (v := .bool (!((rdL (⟨#[]⟩ : ByteArray) x737 ((rdL T_dev_held.z a0.f2 x732).f0)).toList == (⟨#[]⟩ : ByteArray).toList))) hf KR KR KR)
          clear he hf
          refine endl ?_
          refine thenN (hK761 _ _ ?_); clear hK761
          by_cases hp769 : (rdL (⟨#[]⟩ : ByteArray) x737 ((rdL T_dev_held.z a0.f2 x732).f0)) = (⟨#[]⟩ : ByteArray)
          · skip
            replace h := ite_pos' h hp769
            refine condF ha KR KR (t := (!((rdL (⟨#[]⟩ : ByteArray) x737 ((rdL T_dev_held.z a0.f2 x732).f0)).toList == (⟨#[]⟩ : ByteArray).toList))) (str_ne_f hp769) ?_
            refine wp_skip ?_
            refine blkN ?_
            refine thenN (hK750 _ _ ?_); clear hK750
            refine wp_region_lit ?_
            refine stepp ha 44 (.int .i64 (IntKind.wrap .i64 (x732 + 1))) KR KR ?_; clear ha a; intro a ha
            refine stepp ha 9 (.int .i64 (IntKind.wrap .i64 (x732 + 1))) KR KR ?_; clear ha a; intro a ha
            refine endl ?_
            exact thenN ⟨k742, Nat.lt_succ_self k742, IntKind.wrap .i64 (x732 + 1), x733, A734, c735, x737, A738, c739, (by rw [← hag743]; exact h), ha.sub (subs_cons KR (subs_cons KR (subs_cons KR (subs_cons KR (subs_nil _))))), (Wd.segs (ss := [[(b757, .cells #[.int .i64 ((rdL T_dev_held.z a0.f2 x732).f0), .string ((rdL T_dev_held.z a0.f2 x732).f1)] 62 (0, 0))], [(p0, .cells #[.slice A734 x733.length c735, .slice A738 x737.length c739, .slice A641 a0.f2.length c642, .int .i64 a0.f3.f2, .bool a0.f4, .int .i64 a0.f5, .bool a0.f6] 53 (0, 0))], F]) (bt := bs) (m := [⟨9, 1, .slice A734 x733.length c735, x733.length, encs encS x733⟩, ⟨9, 1, .slice A738 x737.length c739, x737.length, encs encS x737⟩, ⟨62, 2, .slice A641 a0.f2.length c642, a0.f2.length, encs T_dev_held.enc a0.f2⟩]) (ot := os) [[(p0, .cells #[.slice A734 x733.length c735, .slice A738 x737.length c739, .slice A641 a0.f2.length c642, .int .i64 a0.f3.f2, .bool a0.f4, .int .i64 a0.f5, .bool a0.f6] 53 (0, 0))], F] [⟨9, 1, .slice A734 x733.length c735, x733.length, encs encS x733⟩, ⟨9, 1, .slice A738 x737.length c739, x737.length, encs encS x737⟩, ⟨62, 2, .slice A641 a0.f2.length c642, a0.f2.length, encs T_dev_held.enc a0.f2⟩] HW [1, 2] [0] [0, 1, 2] KR KR (by decide) KR)⟩
          · skip
            replace h := ite_neg' h hp769
            refine condT ha KR KR (t := (!((rdL (⟨#[]⟩ : ByteArray) x737 ((rdL T_dev_held.z a0.f2 x732).f0)).toList == (⟨#[]⟩ : ByteArray).toList))) (str_ne_t hp769) ?_
            refine wp_seq_k (fun K770 hK771 => ?_)
            refine regionG 14 KR KR ha HW [.fix (.pointer (some ⟨p0, 0, none⟩)), .fix (.pointer (some ⟨p0, 0, none⟩)), .fix (.pointer (some ⟨p0, 0, none⟩)), .fix (.slice A734 x733.length c735), .fix (.pointer (some ⟨b757, 0, none⟩)), .fix (.int .i64 ((rdL T_dev_held.z a0.f2 x732).f0)), .fix (.pointer (some ⟨p0, 0, none⟩)), .fix (.pointer (some ⟨p0, 0, none⟩)), .fix (.pointer (some ⟨p0, 1, none⟩)), .fix (.slice A738 x737.length c739), .fix (.pointer (some ⟨b757, 0, none⟩)), .fix (.int .i64 ((rdL T_dev_held.z a0.f2 x732).f0)), .fix (.pointer (some ⟨b765, off766 + ((rdL T_dev_held.z a0.f2 x732).f0 : Int).toNat * 1, none⟩)), .fix (.string (rdL (⟨#[]⟩ : ByteArray) x737 ((rdL T_dev_held.z a0.f2 x732).f0)))] ?_ ?_
            · skip
              refine ⟨?_, ?_, ?_, ?_, ?_, ?_, ?_, ?_, ?_, ?_, ?_, ?_, ?_, ?_, trivial⟩
              · skip
                intro a wr hn hd HW hs; have ha := hasNil hn hd
                have ha := ha.add (seeE hs 0 (.pointer (some ⟨p0, 0, none⟩)) KR KR)
                refine yStep ha 22 KR ?_; intro l_ ha HK
                refine stepp ha 22 (.pointer (some ⟨p0, 0, none⟩)) KR KR ?_; intro ax hax; exact HK _ _ _ hax rfl (Below.refl _ _)
              · skip
                intro a wr hn hd HW hs; have ha := hasNil hn hd
                have ha := ha.add (seeF hs 22 0 (.pointer (some ⟨p0, 0, none⟩)) KR KR)
                refine yStep ha 23 KR ?_; intro l_ ha HK
                refine stepp ha 23 (.pointer (some ⟨p0, 0, none⟩)) KR KR ?_; intro ax hax; exact HK _ _ _ hax rfl (Below.refl _ _)
              · skip
                intro a wr hn hd HW hs; have ha := hasNil hn hd
                have ha := ha.add (seeF hs 23 1 (.pointer (some ⟨p0, 0, none⟩)) KR KR)
                refine yStep ha 24 KR ?_; intro l_ ha HK
                refine stepp ha 24 (.pointer (some ⟨p0, 0, none⟩)) KR KR ?_; intro ax hax; exact HK _ _ _ hax rfl (Below.refl _ _)
              · skip
                intro a wr hn hd HW hs; have ha := hasNil hn hd
                have ha := ha.add (seeF hs 24 2 (.pointer (some ⟨p0, 0, none⟩)) KR KR)
                refine yStep ha 25 KR ?_; intro l_ ha HK
                refine stepl ha 25 (HW.ca (i := 1) (b := p0) (C := #[.slice A734 x733.length c735, .slice A738 x737.length c739, .slice A641 a0.f2.length c642, .int .i64 a0.f3.f2, .bool a0.f4, .int .i64 a0.f5, .bool a0.f6]) (T := 53) (fr := (0, 0)) KR) 22 0 (.tmp 24) (.slice A734 x733.length c735) rfl KR KR KR ?_; intro ax hax; exact HK _ _ _ hax rfl (Below.refl _ _)
              · skip
                intro a wr hn hd HW hs; have ha := hasNil hn hd
                have ha := ha.add (seeE hs 3 (.pointer (some ⟨b757, 0, none⟩)) KR KR)
                refine yStep ha 26 KR ?_; intro l_ ha HK
                refine stepp ha 26 (.pointer (some ⟨b757, 0, none⟩)) KR KR ?_; intro ax hax; exact HK _ _ _ hax rfl (Below.refl _ _)
              · skip
                intro a wr hn hd HW hs; have ha := hasNil hn hd
                have ha := ha.add (seeF hs 26 4 (.pointer (some ⟨b757, 0, none⟩)) KR KR)
                refine yStep ha 27 KR ?_; intro l_ ha HK
                refine stepl ha 27 (HW.ca (i := 0) (b := b757) (C := #[.int .i64 ((rdL T_dev_held.z a0.f2 x732).f0), .string ((rdL T_dev_held.z a0.f2 x732).f1)]) (T := 62) (fr := (0, 0)) KR) 3 0 (.tmp 26) (.int .i64 ((rdL T_dev_held.z a0.f2 x732).f0)) rfl KR KR KR ?_; intro ax hax; exact HK _ _ _ hax rfl (Below.refl _ _)
              · skip
                intro a wr hn hd HW hs; have ha := hasNil hn hd
                have ha := ha.add (seeE hs 0 (.pointer (some ⟨p0, 0, none⟩)) KR KR)
                refine yStep ha 28 KR ?_; intro l_ ha HK
                refine stepp ha 28 (.pointer (some ⟨p0, 0, none⟩)) KR KR ?_; intro ax hax; exact HK _ _ _ hax rfl (Below.refl _ _)
              · skip
                intro a wr hn hd HW hs; have ha := hasNil hn hd
                have ha := ha.add (seeF hs 28 6 (.pointer (some ⟨p0, 0, none⟩)) KR KR)
                refine yStep ha 29 KR ?_; intro l_ ha HK
                refine stepp ha 29 (.pointer (some ⟨p0, 0, none⟩)) KR KR ?_; intro ax hax; exact HK _ _ _ hax rfl (Below.refl _ _)
              · skip
                intro a wr hn hd HW hs; have ha := hasNil hn hd
                have ha := ha.add (seeF hs 29 7 (.pointer (some ⟨p0, 0, none⟩)) KR KR)
                refine yStep ha 30 KR ?_; intro l_ ha HK
                refine stepp ha 30 (.pointer (some ⟨p0, 1, none⟩)) KR KR ?_; intro ax hax; exact HK _ _ _ hax rfl (Below.refl _ _)
              · skip
                intro a wr hn hd HW hs; have ha := hasNil hn hd
                have ha := ha.add (seeF hs 30 8 (.pointer (some ⟨p0, 1, none⟩)) KR KR)
                refine yStep ha 31 KR ?_; intro l_ ha HK
                refine stepl ha 31 (HW.ca (i := 1) (b := p0) (C := #[.slice A734 x733.length c735, .slice A738 x737.length c739, .slice A641 a0.f2.length c642, .int .i64 a0.f3.f2, .bool a0.f4, .int .i64 a0.f5, .bool a0.f6]) (T := 53) (fr := (0, 0)) KR) 22 1 (.tmp 30) (.slice A738 x737.length c739) rfl KR KR KR ?_; intro ax hax; exact HK _ _ _ hax rfl (Below.refl _ _)
              · skip
                intro a wr hn hd HW hs; have ha := hasNil hn hd
                have ha := ha.add (seeE hs 3 (.pointer (some ⟨b757, 0, none⟩)) KR KR)
                refine yStep ha 32 KR ?_; intro l_ ha HK
                refine stepp ha 32 (.pointer (some ⟨b757, 0, none⟩)) KR KR ?_; intro ax hax; exact HK _ _ _ hax rfl (Below.refl _ _)
              · skip
                intro a wr hn hd HW hs; have ha := hasNil hn hd
                have ha := ha.add (seeF hs 32 10 (.pointer (some ⟨b757, 0, none⟩)) KR KR)
                refine yStep ha 33 KR ?_; intro l_ ha HK
                refine stepl ha 33 (HW.ca (i := 0) (b := b757) (C := #[.int .i64 ((rdL T_dev_held.z a0.f2 x732).f0), .string ((rdL T_dev_held.z a0.f2 x732).f1)]) (T := 62) (fr := (0, 0)) KR) 3 0 (.tmp 32) (.int .i64 ((rdL T_dev_held.z a0.f2 x732).f0)) rfl KR KR KR ?_; intro ax hax; exact HK _ _ _ hax rfl (Below.refl _ _)
              · skip
                intro a wr hn hd HW hs; have ha := hasNil hn hd
                have ha := ha.add (seeF hs 31 9 (.slice A738 x737.length c739) KR KR)
                have ha := ha.add (seeF hs 33 11 (.int .i64 ((rdL T_dev_held.z a0.f2 x732).f0)) KR KR)
                replace ha := ha.turn 31 (u := .slice A738 x737.length c739) (v := .slice (some ⟨b765, off766, none⟩) x737.length c739) KR (by rw [hA767])
                refine yStep ha 34 KR ?_; intro l_ ha HK
                refine stepif ha 34 (sz := 1) (len := x737.length) (b := b765) (off := off766) (c := c739) 22 9 (.tmp 31) (.tmp 33) .i64 ((rdL T_dev_held.z a0.f2 x732).f0) rfl KR KR KR KR hA762 (show ((rdL T_dev_held.z a0.f2 x732).f0 : Int) < ((x737).length : Int) from hA763) KR ?_; intro ax hax; exact HK _ _ _ hax rfl (Below.refl _ _)
              · skip
                intro a wr hn hd HW hs; have ha := hasNil hn hd
                have ha := ha.add (seeF hs 34 12 (.pointer (some ⟨b765, off766 + ((rdL T_dev_held.z a0.f2 x732).f0 : Int).toNat * 1, none⟩)) KR KR)
                refine yStep ha 35 KR ?_; intro l_ ha HK
                refine stepl ha 35 (Rd.ca encS (⟨#[]⟩ : ByteArray) (fun _ => rfl) (by have h_ := (HW.rdo (i := 1) (q := ⟨9, 1, .slice A738 x737.length c739, x737.length, encs encS x737⟩) KR); rw [hA767] at h_; exact h_) hA762 (show ((rdL T_dev_held.z a0.f2 x732).f0 : Int) < ((x737).length : Int) from hA763)) 9 0 (.tmp 34) (.string (rdL (⟨#[]⟩ : ByteArray) x737 ((rdL T_dev_held.z a0.f2 x732).f0))) rfl KR KR KR ?_; intro ax hax; exact HK _ _ _ hax rfl (Below.refl _ _)
            · skip
              intro a W773 ha HW he hf
              replace ha := ha.add (he 0 (.pointer (some ⟨p0, 0, none⟩)) KR KR)
              replace ha := ha.add (he 3 (.pointer (some ⟨b757, 0, none⟩)) KR KR)
              replace ha := ha.add (he 7 (.slice A641 a0.f2.length c642) KR KR)
              replace ha := ha.add (he 8 (.int .i64 (a0.f2.length : Int)) KR KR)
              replace ha := ha.add (he 9 (.int .i64 x732) KR KR)
              replace ha := ha.add (gotF (m := 14) (j := 3) (d := 25) (v := .slice A734 x733.length c735) hf KR KR KR)
              replace ha := ha.add (gotF (m := 14) (j := 5) (d := 27) (v := .int .i64 ((rdL T_dev_held.z a0.f2 x732).f0)) hf KR KR KR)
              replace ha := ha.add (gotF (m := 14) (j := 13) (d := 35) (v := .string (rdL (⟨#[]⟩ : ByteArray) x737 ((rdL T_dev_held.z a0.f2 x732).f0))) hf KR KR KR)
              clear he hf
              obtain ⟨hA774, h_⟩ := asrt_some h; clear h; have h := h_; clear h_
              refine stepio encS ha HW 36 0 (sz := 1) (e := 9) (v := .slice A734 x733.length c735) (xs := x733) KR 22 (.tmp 25) (.tmp 27) .i64 ((rdL T_dev_held.z a0.f2 x732).f0) rfl KR KR KR KR hA762 (show ((rdL T_dev_held.z a0.f2 x732).f0 : Int) < ((x733).length : Int) from hA774) KR ?_; clear ha a; intro b775 a hb776 ha
              refine stepos encS (⟨#[]⟩ : ByteArray) ha HW 0 (sz := 1) (e := 9) (fun _ => rfl) (v := .slice A734 x733.length c735) (xs := x733) KR hb776 ((rdL T_dev_held.z a0.f2 x732).f0) hA762 (show ((rdL T_dev_held.z a0.f2 x732).f0 : Int) < ((x733).length : Int) from hA774) 9 0 (.tmp 36) (.tmp 35) (.string (rdL (⟨#[]⟩ : ByteArray) x737 ((rdL T_dev_held.z a0.f2 x732).f0))) (rdL (⟨#[]⟩ : ByteArray) x737 ((rdL T_dev_held.z a0.f2 x732).f0)) rfl KR KR KR KR KR KR KR (.slice A734 (x733.set ((rdL T_dev_held.z a0.f2 x732).f0 : Int).toNat (rdL (⟨#[]⟩ : ByteArray) x737 ((rdL T_dev_held.z a0.f2 x732).f0))).length c735) (by rw [List.length_set]) ?_; clear ha HW a; intro a W777 HW ha
              replace ha := ha.turn 25 (v := .slice A734 (x733.set ((rdL T_dev_held.z a0.f2 x732).f0 : Int).toNat (rdL (⟨#[]⟩ : ByteArray) x737 ((rdL T_dev_held.z a0.f2 x732).f0))).length c735) KR (by rw [List.length_set])
              replace HW : Wd w W777 ((b757, .cells #[.int .i64 ((rdL T_dev_held.z a0.f2 x732).f0), .string ((rdL T_dev_held.z a0.f2 x732).f1)] 62 (0, 0)) :: (p0, .cells #[.slice A734 (x733.set ((rdL T_dev_held.z a0.f2 x732).f0 : Int).toNat (rdL (⟨#[]⟩ : ByteArray) x737 ((rdL T_dev_held.z a0.f2 x732).f0))).length c735, .slice A738 x737.length c739, .slice A641 a0.f2.length c642, .int .i64 a0.f3.f2, .bool a0.f4, .int .i64 a0.f5, .bool a0.f6] 53 (0, 0)) :: F ++ bs) (⟨9, 1, .slice A734 (x733.set ((rdL T_dev_held.z a0.f2 x732).f0 : Int).toNat (rdL (⟨#[]⟩ : ByteArray) x737 ((rdL T_dev_held.z a0.f2 x732).f0))).length c735, (x733.set ((rdL T_dev_held.z a0.f2 x732).f0 : Int).toNat (rdL (⟨#[]⟩ : ByteArray) x737 ((rdL T_dev_held.z a0.f2 x732).f0))).length, encs encS (x733.set ((rdL T_dev_held.z a0.f2 x732).f0 : Int).toNat (rdL (⟨#[]⟩ : ByteArray) x737 ((rdL T_dev_held.z a0.f2 x732).f0)))⟩ :: ⟨9, 1, .slice A738 x737.length c739, x737.length, encs encS x737⟩ :: ⟨62, 2, .slice A641 a0.f2.length c642, a0.f2.length, encs T_dev_held.enc a0.f2⟩ :: os) := by simp only [List.length_set] at HW ⊢; exact HW
              refine endl ?_
              refine thenN (hK771 _ _ ?_); clear hK771
              refine regionG 6 KR KR ha HW [.fix (.pointer (some ⟨p0, 0, none⟩)), .fix (.pointer (some ⟨p0, 0, none⟩)), .fix (.pointer (some ⟨p0, 1, none⟩)), .fix (.slice A738 x737.length c739), .fix (.pointer (some ⟨b757, 0, none⟩)), .fix (.int .i64 ((rdL T_dev_held.z a0.f2 x732).f0))] ?_ ?_
              · skip
                refine ⟨?_, ?_, ?_, ?_, ?_, ?_, trivial⟩
                · skip
                  intro a wr hn hd HW hs; have ha := hasNil hn hd
                  have ha := ha.add (seeE hs 0 (.pointer (some ⟨p0, 0, none⟩)) KR KR)
                  refine yStep ha 37 KR ?_; intro l_ ha HK
                  refine stepp ha 37 (.pointer (some ⟨p0, 0, none⟩)) KR KR ?_; intro ax hax; exact HK _ _ _ hax rfl (Below.refl _ _)
                · skip
                  intro a wr hn hd HW hs; have ha := hasNil hn hd
                  have ha := ha.add (seeF hs 37 0 (.pointer (some ⟨p0, 0, none⟩)) KR KR)
                  refine yStep ha 38 KR ?_; intro l_ ha HK
                  refine stepp ha 38 (.pointer (some ⟨p0, 0, none⟩)) KR KR ?_; intro ax hax; exact HK _ _ _ hax rfl (Below.refl _ _)
                · skip
                  intro a wr hn hd HW hs; have ha := hasNil hn hd
                  have ha := ha.add (seeF hs 38 1 (.pointer (some ⟨p0, 0, none⟩)) KR KR)
                  refine yStep ha 39 KR ?_; intro l_ ha HK
                  refine stepp ha 39 (.pointer (some ⟨p0, 1, none⟩)) KR KR ?_; intro ax hax; exact HK _ _ _ hax rfl (Below.refl _ _)
                · skip
                  intro a wr hn hd HW hs; have ha := hasNil hn hd
                  have ha := ha.add (seeF hs 39 2 (.pointer (some ⟨p0, 1, none⟩)) KR KR)
                  refine yStep ha 40 KR ?_; intro l_ ha HK
                  refine stepl ha 40 (HW.ca (i := 1) (b := p0) (C := #[.slice A734 (x733.set ((rdL T_dev_held.z a0.f2 x732).f0 : Int).toNat (rdL (⟨#[]⟩ : ByteArray) x737 ((rdL T_dev_held.z a0.f2 x732).f0))).length c735, .slice A738 x737.length c739, .slice A641 a0.f2.length c642, .int .i64 a0.f3.f2, .bool a0.f4, .int .i64 a0.f5, .bool a0.f6]) (T := 53) (fr := (0, 0)) KR) 22 1 (.tmp 39) (.slice A738 x737.length c739) rfl KR KR KR ?_; intro ax hax; exact HK _ _ _ hax rfl (Below.refl _ _)
                · skip
                  intro a wr hn hd HW hs; have ha := hasNil hn hd
                  have ha := ha.add (seeE hs 3 (.pointer (some ⟨b757, 0, none⟩)) KR KR)
                  refine yStep ha 41 KR ?_; intro l_ ha HK
                  refine stepp ha 41 (.pointer (some ⟨b757, 0, none⟩)) KR KR ?_; intro ax hax; exact HK _ _ _ hax rfl (Below.refl _ _)
                · skip
                  intro a wr hn hd HW hs; have ha := hasNil hn hd
                  have ha := ha.add (seeF hs 41 4 (.pointer (some ⟨b757, 0, none⟩)) KR KR)
                  refine yStep ha 42 KR ?_; intro l_ ha HK
                  refine stepl ha 42 (HW.ca (i := 0) (b := b757) (C := #[.int .i64 ((rdL T_dev_held.z a0.f2 x732).f0), .string ((rdL T_dev_held.z a0.f2 x732).f1)]) (T := 62) (fr := (0, 0)) KR) 3 0 (.tmp 41) (.int .i64 ((rdL T_dev_held.z a0.f2 x732).f0)) rfl KR KR KR ?_; intro ax hax; exact HK _ _ _ hax rfl (Below.refl _ _)
              · skip
                intro a W778 ha HW he hf
                replace ha := ha.add (he 0 (.pointer (some ⟨p0, 0, none⟩)) KR KR)
                replace ha := ha.add (he 7 (.slice A641 a0.f2.length c642) KR KR)
                replace ha := ha.add (he 8 (.int .i64 (a0.f2.length : Int)) KR KR)
                replace ha := ha.add (he 9 (.int .i64 x732) KR KR)
                replace ha := ha.add (gotF (m := 6) (j := 3) (d := 40) (v := .slice A738 x737.length c739) hf KR KR KR)
                replace ha := ha.add (gotF (m := 6) (j := 5) (d := 42) (v := .int .i64 ((rdL T_dev_held.z a0.f2 x732).f0)) hf KR KR KR)
                clear he hf
                refine stepio encS ha HW 43 1 (sz := 1) (e := 9) (v := .slice A738 x737.length c739) (xs := x737) KR 22 (.tmp 40) (.tmp 42) .i64 ((rdL T_dev_held.z a0.f2 x732).f0) rfl KR KR KR KR hA762 (show ((rdL T_dev_held.z a0.f2 x732).f0 : Int) < ((x737).length : Int) from hA763) KR ?_; clear ha a; intro b779 a hb780 ha
                refine stepos encS (⟨#[]⟩ : ByteArray) ha HW 1 (sz := 1) (e := 9) (fun _ => rfl) (v := .slice A738 x737.length c739) (xs := x737) KR hb780 ((rdL T_dev_held.z a0.f2 x732).f0) hA762 (show ((rdL T_dev_held.z a0.f2 x732).f0 : Int) < ((x737).length : Int) from hA763) 9 0 (.tmp 43) (.const (.string (⟨#[]⟩ : ByteArray))) (.string (⟨#[]⟩ : ByteArray)) (⟨#[]⟩ : ByteArray) rfl KR KR KR KR KR KR KR (.slice A738 (x737.set ((rdL T_dev_held.z a0.f2 x732).f0 : Int).toNat (⟨#[]⟩ : ByteArray)).length c739) (by rw [List.length_set]) ?_; clear ha HW a; intro a W781 HW ha
                replace ha := ha.turn 40 (v := .slice A738 (x737.set ((rdL T_dev_held.z a0.f2 x732).f0 : Int).toNat (⟨#[]⟩ : ByteArray)).length c739) KR (by rw [List.length_set])
                replace HW : Wd w W781 ((b757, .cells #[.int .i64 ((rdL T_dev_held.z a0.f2 x732).f0), .string ((rdL T_dev_held.z a0.f2 x732).f1)] 62 (0, 0)) :: (p0, .cells #[.slice A734 (x733.set ((rdL T_dev_held.z a0.f2 x732).f0 : Int).toNat (rdL (⟨#[]⟩ : ByteArray) x737 ((rdL T_dev_held.z a0.f2 x732).f0))).length c735, .slice A738 (x737.set ((rdL T_dev_held.z a0.f2 x732).f0 : Int).toNat (⟨#[]⟩ : ByteArray)).length c739, .slice A641 a0.f2.length c642, .int .i64 a0.f3.f2, .bool a0.f4, .int .i64 a0.f5, .bool a0.f6] 53 (0, 0)) :: F ++ bs) (⟨9, 1, .slice A734 (x733.set ((rdL T_dev_held.z a0.f2 x732).f0 : Int).toNat (rdL (⟨#[]⟩ : ByteArray) x737 ((rdL T_dev_held.z a0.f2 x732).f0))).length c735, (x733.set ((rdL T_dev_held.z a0.f2 x732).f0 : Int).toNat (rdL (⟨#[]⟩ : ByteArray) x737 ((rdL T_dev_held.z a0.f2 x732).f0))).length, encs encS (x733.set ((rdL T_dev_held.z a0.f2 x732).f0 : Int).toNat (rdL (⟨#[]⟩ : ByteArray) x737 ((rdL T_dev_held.z a0.f2 x732).f0)))⟩ :: ⟨9, 1, .slice A738 (x737.set ((rdL T_dev_held.z a0.f2 x732).f0 : Int).toNat (⟨#[]⟩ : ByteArray)).length c739, (x737.set ((rdL T_dev_held.z a0.f2 x732).f0 : Int).toNat (⟨#[]⟩ : ByteArray)).length, encs encS (x737.set ((rdL T_dev_held.z a0.f2 x732).f0 : Int).toNat (⟨#[]⟩ : ByteArray))⟩ :: ⟨62, 2, .slice A641 a0.f2.length c642, a0.f2.length, encs T_dev_held.enc a0.f2⟩ :: os) := by simp only [List.length_set] at HW ⊢; exact HW
                refine endl ?_
                refine blkN ?_
                refine thenN (hK750 _ _ ?_); clear hK750
                refine wp_region_lit ?_
                refine stepp ha 44 (.int .i64 (IntKind.wrap .i64 (x732 + 1))) KR KR ?_; clear ha a; intro a ha
                refine stepp ha 9 (.int .i64 (IntKind.wrap .i64 (x732 + 1))) KR KR ?_; clear ha a; intro a ha
                refine endl ?_
                exact thenN ⟨k742, Nat.lt_succ_self k742, IntKind.wrap .i64 (x732 + 1), x733.set ((rdL T_dev_held.z a0.f2 x732).f0 : Int).toNat (rdL (⟨#[]⟩ : ByteArray) x737 ((rdL T_dev_held.z a0.f2 x732).f0)), A734, c735, x737.set ((rdL T_dev_held.z a0.f2 x732).f0 : Int).toNat (⟨#[]⟩ : ByteArray), A738, c739, (by rw [← hag743]; exact h), ha.sub (subs_cons KR (subs_cons KR (subs_cons KR (subs_cons KR (subs_nil _))))), (Wd.segs (ss := [[(b757, .cells #[.int .i64 ((rdL T_dev_held.z a0.f2 x732).f0), .string ((rdL T_dev_held.z a0.f2 x732).f1)] 62 (0, 0))], [(p0, .cells #[.slice A734 (x733.set ((rdL T_dev_held.z a0.f2 x732).f0 : Int).toNat (rdL (⟨#[]⟩ : ByteArray) x737 ((rdL T_dev_held.z a0.f2 x732).f0))).length c735, .slice A738 (x737.set ((rdL T_dev_held.z a0.f2 x732).f0 : Int).toNat (⟨#[]⟩ : ByteArray)).length c739, .slice A641 a0.f2.length c642, .int .i64 a0.f3.f2, .bool a0.f4, .int .i64 a0.f5, .bool a0.f6] 53 (0, 0))], F]) (bt := bs) (m := [⟨9, 1, .slice A734 (x733.set ((rdL T_dev_held.z a0.f2 x732).f0 : Int).toNat (rdL (⟨#[]⟩ : ByteArray) x737 ((rdL T_dev_held.z a0.f2 x732).f0))).length c735, (x733.set ((rdL T_dev_held.z a0.f2 x732).f0 : Int).toNat (rdL (⟨#[]⟩ : ByteArray) x737 ((rdL T_dev_held.z a0.f2 x732).f0))).length, encs encS (x733.set ((rdL T_dev_held.z a0.f2 x732).f0 : Int).toNat (rdL (⟨#[]⟩ : ByteArray) x737 ((rdL T_dev_held.z a0.f2 x732).f0)))⟩, ⟨9, 1, .slice A738 (x737.set ((rdL T_dev_held.z a0.f2 x732).f0 : Int).toNat (⟨#[]⟩ : ByteArray)).length c739, (x737.set ((rdL T_dev_held.z a0.f2 x732).f0 : Int).toNat (⟨#[]⟩ : ByteArray)).length, encs encS (x737.set ((rdL T_dev_held.z a0.f2 x732).f0 : Int).toNat (⟨#[]⟩ : ByteArray))⟩, ⟨62, 2, .slice A641 a0.f2.length c642, a0.f2.length, encs T_dev_held.enc a0.f2⟩]) (ot := os) [[(p0, .cells #[.slice A734 (x733.set ((rdL T_dev_held.z a0.f2 x732).f0 : Int).toNat (rdL (⟨#[]⟩ : ByteArray) x737 ((rdL T_dev_held.z a0.f2 x732).f0))).length c735, .slice A738 (x737.set ((rdL T_dev_held.z a0.f2 x732).f0 : Int).toNat (⟨#[]⟩ : ByteArray)).length c739, .slice A641 a0.f2.length c642, .int .i64 a0.f3.f2, .bool a0.f4, .int .i64 a0.f5, .bool a0.f6] 53 (0, 0))], F] [⟨9, 1, .slice A734 (x733.set ((rdL T_dev_held.z a0.f2 x732).f0 : Int).toNat (rdL (⟨#[]⟩ : ByteArray) x737 ((rdL T_dev_held.z a0.f2 x732).f0))).length c735, (x733.set ((rdL T_dev_held.z a0.f2 x732).f0 : Int).toNat (rdL (⟨#[]⟩ : ByteArray) x737 ((rdL T_dev_held.z a0.f2 x732).f0))).length, encs encS (x733.set ((rdL T_dev_held.z a0.f2 x732).f0 : Int).toNat (rdL (⟨#[]⟩ : ByteArray) x737 ((rdL T_dev_held.z a0.f2 x732).f0)))⟩, ⟨9, 1, .slice A738 (x737.set ((rdL T_dev_held.z a0.f2 x732).f0 : Int).toNat (⟨#[]⟩ : ByteArray)).length c739, (x737.set ((rdL T_dev_held.z a0.f2 x732).f0 : Int).toNat (⟨#[]⟩ : ByteArray)).length, encs encS (x737.set ((rdL T_dev_held.z a0.f2 x732).f0 : Int).toNat (⟨#[]⟩ : ByteArray))⟩, ⟨62, 2, .slice A641 a0.f2.length c642, a0.f2.length, encs T_dev_held.enc a0.f2⟩] HW [1, 2] [0] [0, 1, 2] KR KR (by decide) KR)⟩
      · skip
        replace h := ite_neg' h hp748
        refine condF ha KR KR (t := decide (x732 < (a0.f2.length : Int))) (decide_eq_false hp748) ?_
        refine wp_exit ?_
        refine thenE ?_
        refine thenE ?_
        refine inBlk ?_
        refine thenN (hK632 _ _ ?_); clear hK632
        refine wp_region_lit ?_
        refine stepp ha 45 (.pointer (some ⟨p0, 0, none⟩)) KR KR ?_; clear ha a; intro a ha
        refine stepp ha 46 (.pointer (some ⟨p0, 0, none⟩)) KR KR ?_; clear ha a; intro a ha
        refine stepp ha 47 (.pointer (some ⟨p0, 2, none⟩)) KR KR ?_; clear ha a; intro a ha
        refine stepst ha HW 0 (b := p0) (C := #[.slice A734 x733.length c735, .slice A738 x737.length c739, .slice A641 a0.f2.length c642, .int .i64 a0.f3.f2, .bool a0.f4, .int .i64 a0.f5, .bool a0.f6]) (T := 53) KR 46 2 (.tmp 47) (.const (.slice none 0 0)) (.slice none 0 0) #[.slice A734 x733.length c735, .slice A738 x737.length c739, .slice none 0 0, .int .i64 a0.f3.f2, .bool a0.f4, .int .i64 a0.f5, .bool a0.f6] rfl KR KR KR KR KR KR KR ?_; clear ha HW a; intro a W782 HW ha
        refine endl ?_
        replace HW := HW.nilo 62 2
        replace HW : Wd w W782 ((p0, .cells #[.slice A734 x733.length c735, .slice A738 x737.length c739, .slice none 0 0, .int .i64 a0.f3.f2, .bool a0.f4, .int .i64 a0.f5, .bool a0.f6] 53 (0, 0)) :: F ++ bs) (⟨62, 2, .slice none 0 0, ([] : List T_dev_held).length, encs T_dev_held.enc ([] : List T_dev_held)⟩ :: ⟨9, 1, .slice A734 x733.length c735, x733.length, encs encS x733⟩ :: ⟨9, 1, .slice A738 x737.length c739, x737.length, encs encS x737⟩ :: ⟨62, 2, .slice A641 a0.f2.length c642, a0.f2.length, encs T_dev_held.enc a0.f2⟩ :: os) := HW
        obtain ⟨U783, hU784, HW⟩ := T_dev_Dev.fold (x := (⟨x733, x737, ([] : List T_dev_held), (⟨(), (), a0.f3.f2⟩ : T_atomic_Int64), a0.f4, a0.f5, a0.f6⟩ : T_dev_Dev)) (Wd.segs (ss := [[(p0, .cells #[.slice A734 x733.length c735, .slice A738 x737.length c739, .slice none 0 0, .int .i64 a0.f3.f2, .bool a0.f4, .int .i64 a0.f5, .bool a0.f6] 53 (0, 0))], F]) (bt := bs) (m := [⟨62, 2, .slice none 0 0, ([] : List T_dev_held).length, encs T_dev_held.enc ([] : List T_dev_held)⟩, ⟨9, 1, .slice A734 x733.length c735, x733.length, encs encS x733⟩, ⟨9, 1, .slice A738 x737.length c739, x737.length, encs encS x737⟩, ⟨62, 2, .slice A641 a0.f2.length c642, a0.f2.length, encs T_dev_held.enc a0.f2⟩]) (ot := os) [[(p0, .cells #[.slice A734 x733.length c735, .slice A738 x737.length c739, .slice none 0 0, .int .i64 a0.f3.f2, .bool a0.f4, .int .i64 a0.f5, .bool a0.f6] 53 (0, 0))], F] [⟨9, 1, .slice A734 x733.length c735, x733.length, encs encS x733⟩, ⟨9, 1, .slice A738 x737.length c739, x737.length, encs encS x737⟩, ⟨62, 2, .slice none 0 0, ([] : List T_dev_held).length, encs T_dev_held.enc ([] : List T_dev_held)⟩, ⟨62, 2, .slice A641 a0.f2.length c642, a0.f2.length, encs T_dev_held.enc a0.f2⟩] HW [0, 1] [] [1, 2, 0, 3] KR KR (by decide) KR)
        replace HW := Wd.segs (ss := [U783, F]) (bt := bs) (m := [⟨62, 2, .slice A641 a0.f2.length c642, a0.f2.length, encs T_dev_held.enc a0.f2⟩]) (ot := os) [U783, F] [⟨62, 2, .slice A641 a0.f2.length c642, a0.f2.length, encs T_dev_held.enc a0.f2⟩] HW [0, 1] [] [0] KR KR (by decide) KR
        replace HW : Wd w W782 (U783 ++ (F ++ bs)) (⟨62, 2, .slice A641 a0.f2.length c642, a0.f2.length, encs T_dev_held.enc a0.f2⟩ :: os) := HW
        obtain rfl := Option.some.inj h
        exact finn ha [] [] rfl .nil (.tuple #[]) rfl ⟨U783, rfl, hU784, (Wd.segs (ss := [U783, F]) (bt := bs) (m := [⟨62, 2, .slice A641 a0.f2.length c642, a0.f2.length, encs T_dev_held.enc a0.f2⟩]) (ot := os) [U783, F] [] HW [0, 1] [] [] KR KR (by decide) KR)⟩
def dev_Dev_Flush.f (K : Nat) (a0 : T_dev_Dev) : Option (Int × T_dev_Dev) :=
  (dev_Dev_operation.f K a0).bind fun t806 => (if t806.1 = true then ((dev_Dev_settle.f K t806.2).bind fun t818 => (some (0, t818))) else (some (41, t806.2)))
set_option maxRecDepth 100000 in
set_option maxHeartbeats 4000000 in
theorem dev_Dev_Flush.calls (K : Nat) (a0 : T_dev_Dev) (p0 : Nat) (U0 : Blks)  (r : Int × T_dev_Dev) (w w1 : World) (F bs : Blks) (os : List OwnA) (hU0 : T_dev_Dev.At p0  a0 U0) (HW : Wd w w1 (U0 ++ (F ++ bs)) os) (h : dev_Dev_Flush.f K a0 = some r) :
    Calls Tryd.prog 44 #[.pointer (some ⟨p0, 0, none⟩)] w1 (fun e W' => ∃ U0' : Blks, e = .returned (.int .i64 r.1) ∧ T_dev_Dev.At p0  r.2 U0' ∧ Wd w W' (U0' ++ (F ++ bs)) (os)) := by
  refine sxstart (n := 10) (l := [(0, .pointer (some ⟨p0, 0, none⟩))]) Tryd.func44 rfl rfl (Nat.le_of_ble_eq_true KR) (subsA_cons rfl (subsA_nil _)) ?_
  intro a ha
  replace HW : Wd w w1 (U0 ++ (F ++ bs)) (os) := HW
  unfold dev_Dev_Flush.f at h
  refine wp_seq_k (fun K796 hK797 => ?_)
  refine wp_region_lit ?_
  refine stepp ha 2 (.int .i64 0) KR KR ?_; clear ha a; intro a ha
  refine endl ?_
  refine thenN (hK797 _ _ ?_); clear hK797
  refine wp_seq_k (fun K798 hK799 => ?_)
  refine wp_seq_k (fun K800 hK801 => ?_)
  refine wp_region_lit ?_
  refine stepp ha 3 (.pointer (some ⟨p0, 0, none⟩)) KR KR ?_; clear ha a; intro a ha
  refine stepp ha 4 (.bool false) KR KR ?_; clear ha a; intro a ha
  refine endl ?_
  refine thenN (hK801 _ _ ?_); clear hK801
  refine condF ha KR KR (t := false) (rfl) ?_
  refine wp_skip ?_
  refine thenN (hK799 _ _ ?_); clear hK799
  refine wp_seq_k (fun K802 hK803 => ?_)
  refine wp_seq_k (fun K804 hK805 => ?_)
  refine wp_region_lit ?_
  refine stepp ha 5 (.pointer (some ⟨p0, 0, none⟩)) KR KR ?_; clear ha a; intro a ha
  obtain ⟨t806, ht807, h_⟩ := bind_some' h; clear h; have h := h_; clear h_
  refine stepc ha 6 KR KR (dev_Dev_operation.calls K a0 p0 U0 t806 _ _ F bs (os) hU0 (Wd.segs (ss := [U0, F]) (bt := bs) (m := []) (ot := os) [U0, F] [] HW [0, 1] [] [] KR KR (by decide) KR) ht807) ?_; clear ha a; rintro e W809 ⟨U808, rfl, hU0n, HX810⟩
  refine ⟨_, rfl, ?_⟩; intro a ha; clear HW
  clear hU0; have hU0 := hU0n; clear hU0n
  have HW : Wd w W809 (U808 ++ (F ++ bs)) (os) := Wd.segs (ss := [U808, F]) (bt := bs) (m := []) (ot := os) [U808, F] [] HX810 [0, 1] [] [] KR KR (by decide) KR; clear HX810
  refine stepp ha 7 (.bool (!t806.1)) KR KR ?_; clear ha a; intro a ha
  refine endl ?_
  refine thenN (hK805 _ _ ?_); clear hK805
  by_cases hp813 : t806.1 = true
  · skip
    replace h := ite_pos' h hp813
    refine condF ha KR KR (t := (!t806.1)) (not_f (hp813)) ?_
    refine wp_skip ?_
    refine thenN (hK803 _ _ ?_); clear hK803
    refine wp_seq_k (fun K816 hK817 => ?_)
    refine wp_region_lit ?_
    refine stepp ha 8 (.pointer (some ⟨p0, 0, none⟩)) KR KR ?_; clear ha a; intro a ha
    obtain ⟨t818, ht819, h_⟩ := bind_some' h; clear h; have h := h_; clear h_
    refine stepc ha 9 KR KR (dev_Dev_settle.calls K t806.2 p0 U808 t818 _ _ F bs (os) hU0 (Wd.segs (ss := [U808, F]) (bt := bs) (m := []) (ot := os) [U808, F] [] HW [0, 1] [] [] KR KR (by decide) KR) ht819) ?_; clear ha a; rintro e W821 ⟨U820, rfl, hU0n, HX822⟩
    refine ⟨_, rfl, ?_⟩; intro a ha; clear HW
    clear hU0; have hU0 := hU0n; clear hU0n
    have HW : Wd w W821 (U820 ++ (F ++ bs)) (os) := Wd.segs (ss := [U820, F]) (bt := bs) (m := []) (ot := os) [U820, F] [] HX822 [0, 1] [] [] KR KR (by decide) KR; clear HX822
    refine endl ?_
    refine thenN (hK817 _ _ ?_); clear hK817
    refine wp_seq_k (fun K825 hK826 => ?_)
    refine wp_region_lit ?_
    refine stepp ha 2 (.int .i64 0) KR KR ?_; clear ha a; intro a ha
    refine endl ?_
    refine thenN (hK826 _ _ ?_); clear hK826
    refine wp_ret ?_
    obtain rfl := Option.some.inj h
    exact finv ha _ _ rfl (.tmp (v := .int .i64 0) KR .nil) (.int .i64 0) rfl ⟨U820, rfl, hU0, (Wd.segs (ss := [U820, F]) (bt := bs) (m := []) (ot := os) [U820, F] [] HW [0, 1] [] [] KR KR (by decide) KR)⟩
  · skip
    replace h := ite_neg' h hp813
    refine condT ha KR KR (t := (!t806.1)) (not_t (bool_f hp813)) ?_
    refine wp_seq_k (fun K814 hK815 => ?_)
    refine wp_region_lit ?_
    refine stepp ha 2 (.int .i64 41) KR KR ?_; clear ha a; intro a ha
    refine endl ?_
    refine thenN (hK815 _ _ ?_); clear hK815
    refine wp_ret ?_
    refine thenR ?_
    obtain rfl := Option.some.inj h
    exact finv ha _ _ rfl (.tmp (v := .int .i64 41) KR .nil) (.int .i64 41) rfl ⟨U808, rfl, hU0, (Wd.segs (ss := [U808, F]) (bt := bs) (m := []) (ot := os) [U808, F] [] HW [0, 1] [] [] KR KR (by decide) KR)⟩
end Go.Proofs.YtokdiacjcbolfaaDoor.F
namespace Go.Proofs.YtokdiacjcbolfaaDoor.F
open Go Go.RowKit Go.Proofs.YtokdiacjcbolfaaDoor.X
set_option linter.unusedVariables false
set_option linter.unusedSimpArgs false
def journal_Journal_flush.f (K : Nat) (a0 : T_journal_Journal) (a0_0 : T_dev_Dev) : Option (Int × T_journal_Journal × T_dev_Dev) :=
  (dev_Dev_Flush.f K a0_0).bind fun t838 => ((journal_Journal_failed.f (⟨(), a0.f1, a0.f2, a0.f3, (⟨(), (), a0.f4.f2⟩ : T_atomic_Int64), a0.f5, a0.f6, a0.f7, a0.f8, a0.f9⟩ : T_journal_Journal) t838.2 t838.1).bind fun t847 => (if t847.1 = 0 then (some (t847.1, (⟨(), t847.2.1.f1, t847.2.1.f2, t847.2.1.f3, (⟨(), (), t847.2.1.f4.f2⟩ : T_atomic_Int64), t847.2.1.f5, t847.2.1.f6, t847.2.1.f7, false, t847.2.1.f9⟩ : T_journal_Journal), t847.2.2)) else (some (t847.1, t847.2.1, t847.2.2))))
set_option maxRecDepth 100000 in
set_option maxHeartbeats 4000000 in
theorem journal_Journal_flush.calls (K : Nat) (a0 : T_journal_Journal) (a0_0 : T_dev_Dev) (p0 : Nat) (U0 : Blks) (p0_0 : Nat) (U0_0 : Blks)  (r : Int × T_journal_Journal × T_dev_Dev) (w w1 : World) (F bs : Blks) (os : List OwnA) (hU0 : T_journal_Journal.At p0 p0_0 a0 U0) (hU0_0 : T_dev_Dev.At p0_0  a0_0 U0_0) (HW : Wd w w1 (U0 ++ (U0_0 ++ (F ++ bs))) os) (h : journal_Journal_flush.f K a0 a0_0 = some r) :
    Calls Tryd.prog 26 #[.pointer (some ⟨p0, 0, none⟩)] w1 (fun e W' => ∃ U0' : Blks, ∃ U0_0' : Blks, e = .returned (.int .i64 r.1) ∧ T_journal_Journal.At p0 p0_0 r.2.1 U0' ∧ T_dev_Dev.At p0_0  r.2.2 U0_0' ∧ Wd w W' (U0' ++ (U0_0' ++ (F ++ bs))) (os)) := by
  refine sxstart (n := 17) (l := [(0, .pointer (some ⟨p0, 0, none⟩))]) Tryd.func26 rfl rfl (Nat.le_of_ble_eq_true KR) (subsA_cons rfl (subsA_nil _)) ?_
  intro a ha
  replace HW : Wd w w1 (U0 ++ (U0_0 ++ (F ++ bs))) (os) := HW
  unfold journal_Journal_flush.f at h
  refine wp_seq_k (fun K831 hK832 => ?_)
  refine wp_region_lit ?_
  refine stepp ha 2 (.int .i64 0) KR KR ?_; clear ha a; intro a ha
  refine endl ?_
  refine thenN (hK832 _ _ ?_); clear hK832
  refine wp_seq_k (fun K833 hK834 => ?_)
  refine wp_region_lit ?_
  refine stepp ha 4 (.pointer (some ⟨p0, 0, none⟩)) KR KR ?_; clear ha a; intro a ha
  refine stepp ha 5 (.pointer (some ⟨p0, 0, none⟩)) KR KR ?_; clear ha a; intro a ha
  refine stepp ha 6 (.pointer (some ⟨p0, 0, none⟩)) KR KR ?_; clear ha a; intro a ha
  refine stepp ha 7 (.pointer (some ⟨p0, 0, none⟩)) KR KR ?_; clear ha a; intro a ha
  obtain ⟨A835, c836, HW⟩ := T_journal_Journal.unfold hU0 (Wd.segs (ss := [U0, U0_0, F]) (bt := bs) (m := []) (ot := os) [U0, U0_0, F] [] HW [0, 1, 2] [] [] KR KR (by decide) KR)
  replace HW : Wd w w1 ((p0, .cells #[.pointer (some ⟨p0_0, 0, none⟩), .int .i64 a0.f1, .int .i64 a0.f2, .int .i64 a0.f3, .int .i64 a0.f4.f2, .string a0.f5, .slice A835 a0.f6.length c836, .int .i64 a0.f7, .bool a0.f8, .bool a0.f9] 57 (0, 0)) :: U0_0 ++ (F ++ bs)) (⟨9, 1, .slice A835 a0.f6.length c836, a0.f6.length, encs encS a0.f6⟩ :: os) := HW; clear hU0
  refine stepl ha 8 (HW.ca (i := 0) (b := p0) (C := #[.pointer (some ⟨p0_0, 0, none⟩), .int .i64 a0.f1, .int .i64 a0.f2, .int .i64 a0.f3, .int .i64 a0.f4.f2, .string a0.f5, .slice A835 a0.f6.length c836, .int .i64 a0.f7, .bool a0.f8, .bool a0.f9]) (T := 57) (fr := (0, 0)) KR) 25 0 (.tmp 7) (.pointer (some ⟨p0_0, 0, none⟩)) rfl KR KR KR ?_; clear ha a; intro a ha
  obtain ⟨t838, ht839, h_⟩ := bind_some' h; clear h; have h := h_; clear h_
  refine stepc ha 9 KR KR (dev_Dev_Flush.calls K a0_0 p0_0 U0_0 t838 _ _ F ([(p0, .cells #[.pointer (some ⟨p0_0, 0, none⟩), .int .i64 a0.f1, .int .i64 a0.f2, .int .i64 a0.f3, .int .i64 a0.f4.f2, .string a0.f5, .slice A835 a0.f6.length c836, .int .i64 a0.f7, .bool a0.f8, .bool a0.f9] 57 (0, 0))] ++ (bs)) (⟨9, 1, .slice A835 a0.f6.length c836, a0.f6.length, encs encS a0.f6⟩ :: os) hU0_0 (Wd.segs (ss := [[(p0, .cells #[.pointer (some ⟨p0_0, 0, none⟩), .int .i64 a0.f1, .int .i64 a0.f2, .int .i64 a0.f3, .int .i64 a0.f4.f2, .string a0.f5, .slice A835 a0.f6.length c836, .int .i64 a0.f7, .bool a0.f8, .bool a0.f9] 57 (0, 0))], U0_0, F]) (bt := bs) (m := [⟨9, 1, .slice A835 a0.f6.length c836, a0.f6.length, encs encS a0.f6⟩]) (ot := os) [U0_0, F, [(p0, .cells #[.pointer (some ⟨p0_0, 0, none⟩), .int .i64 a0.f1, .int .i64 a0.f2, .int .i64 a0.f3, .int .i64 a0.f4.f2, .string a0.f5, .slice A835 a0.f6.length c836, .int .i64 a0.f7, .bool a0.f8, .bool a0.f9] 57 (0, 0))]] [⟨9, 1, .slice A835 a0.f6.length c836, a0.f6.length, encs encS a0.f6⟩] HW [1, 2, 0] [] [0] KR KR (by decide) KR) ht839) ?_; clear ha a; rintro e W841 ⟨U840, rfl, hU0_0n, HX842⟩
  refine ⟨_, rfl, ?_⟩; intro a ha; clear HW
  clear hU0_0; have hU0_0 := hU0_0n; clear hU0_0n
  have HW : Wd w W841 ((p0, .cells #[.pointer (some ⟨p0_0, 0, none⟩), .int .i64 a0.f1, .int .i64 a0.f2, .int .i64 a0.f3, .int .i64 a0.f4.f2, .string a0.f5, .slice A835 a0.f6.length c836, .int .i64 a0.f7, .bool a0.f8, .bool a0.f9] 57 (0, 0)) :: U840 ++ (F ++ bs)) (⟨9, 1, .slice A835 a0.f6.length c836, a0.f6.length, encs encS a0.f6⟩ :: os) := Wd.segs (ss := [U840, F, [(p0, .cells #[.pointer (some ⟨p0_0, 0, none⟩), .int .i64 a0.f1, .int .i64 a0.f2, .int .i64 a0.f3, .int .i64 a0.f4.f2, .string a0.f5, .slice A835 a0.f6.length c836, .int .i64 a0.f7, .bool a0.f8, .bool a0.f9] 57 (0, 0))]]) (bt := bs) (m := [⟨9, 1, .slice A835 a0.f6.length c836, a0.f6.length, encs encS a0.f6⟩]) (ot := os) [[(p0, .cells #[.pointer (some ⟨p0_0, 0, none⟩), .int .i64 a0.f1, .int .i64 a0.f2, .int .i64 a0.f3, .int .i64 a0.f4.f2, .string a0.f5, .slice A835 a0.f6.length c836, .int .i64 a0.f7, .bool a0.f8, .bool a0.f9] 57 (0, 0))], U840, F] [⟨9, 1, .slice A835 a0.f6.length c836, a0.f6.length, encs encS a0.f6⟩] HX842 [2, 0, 1] [] [0] KR KR (by decide) KR; clear HX842
  obtain ⟨U845, hU846, HW⟩ := T_journal_Journal.fold (x := (⟨(), a0.f1, a0.f2, a0.f3, (⟨(), (), a0.f4.f2⟩ : T_atomic_Int64), a0.f5, a0.f6, a0.f7, a0.f8, a0.f9⟩ : T_journal_Journal)) (Wd.segs (ss := [[(p0, .cells #[.pointer (some ⟨p0_0, 0, none⟩), .int .i64 a0.f1, .int .i64 a0.f2, .int .i64 a0.f3, .int .i64 a0.f4.f2, .string a0.f5, .slice A835 a0.f6.length c836, .int .i64 a0.f7, .bool a0.f8, .bool a0.f9] 57 (0, 0))], U840, F]) (bt := bs) (m := [⟨9, 1, .slice A835 a0.f6.length c836, a0.f6.length, encs encS a0.f6⟩]) (ot := os) [[(p0, .cells #[.pointer (some ⟨p0_0, 0, none⟩), .int .i64 a0.f1, .int .i64 a0.f2, .int .i64 a0.f3, .int .i64 a0.f4.f2, .string a0.f5, .slice A835 a0.f6.length c836, .int .i64 a0.f7, .bool a0.f8, .bool a0.f9] 57 (0, 0))], U840, F] [⟨9, 1, .slice A835 a0.f6.length c836, a0.f6.length, encs encS a0.f6⟩] HW [0, 1, 2] [] [0] KR KR (by decide) KR)
  replace HW := Wd.segs (ss := [U845, U840, F]) (bt := bs) (m := []) (ot := os) [U845, U840, F] [] HW [0, 1, 2] [] [] KR KR (by decide) KR
  replace HW : Wd w W841 (U845 ++ (U840 ++ (F ++ bs))) (os) := HW
  obtain ⟨t847, ht848, h_⟩ := bind_some' h; clear h; have h := h_; clear h_
  refine stepc ha 10 KR KR (journal_Journal_failed.calls (⟨(), a0.f1, a0.f2, a0.f3, (⟨(), (), a0.f4.f2⟩ : T_atomic_Int64), a0.f5, a0.f6, a0.f7, a0.f8, a0.f9⟩ : T_journal_Journal) t838.2 t838.1 p0 U845 p0_0 U840 t847 _ _ F bs (os) hU846 hU0_0 (Wd.segs (ss := [U845, U840, F]) (bt := bs) (m := []) (ot := os) [U845, U840, F] [] HW [0, 1, 2] [] [] KR KR (by decide) KR) ht848) ?_; clear ha a; rintro e W851 ⟨U849, U850, rfl, hU846n, hU0_0n, HX852⟩
  refine ⟨_, rfl, ?_⟩; intro a ha; clear HW
  clear hU846; have hU846 := hU846n; clear hU846n
  clear hU0_0; have hU0_0 := hU0_0n; clear hU0_0n
  have HW : Wd w W851 (U849 ++ (U850 ++ (F ++ bs))) (os) := Wd.segs (ss := [U849, U850, F]) (bt := bs) (m := []) (ot := os) [U849, U850, F] [] HX852 [0, 1, 2] [] [] KR KR (by decide) KR; clear HX852
  refine stepp ha 3 (.int .i64 t847.1) KR KR ?_; clear ha a; intro a ha
  refine endl ?_
  refine thenN (hK834 _ _ ?_); clear hK834
  refine wp_seq_k (fun K855 hK856 => ?_)
  refine wp_seq_k (fun K857 hK858 => ?_)
  refine wp_region_lit ?_
  refine stepp ha 11 (.int .i64 t847.1) KR KR ?_; clear ha a; intro a ha
  refine stepp ha 12 (.bool (t847.1 == 0)) KR KR ?_; clear ha a; intro a ha
  refine endl ?_
  refine thenN (hK858 _ _ ?_); clear hK858
  by_cases hp859 : t847.1 = 0
  · skip
    replace h := ite_pos' h hp859
    refine condT ha KR KR (t := (t847.1 == 0)) (ieq_t hp859) ?_
    refine wp_region_lit ?_
    refine stepp ha 13 (.pointer (some ⟨p0, 0, none⟩)) KR KR ?_; clear ha a; intro a ha
    refine stepp ha 14 (.pointer (some ⟨p0, 0, none⟩)) KR KR ?_; clear ha a; intro a ha
    refine stepp ha 15 (.pointer (some ⟨p0, 8, none⟩)) KR KR ?_; clear ha a; intro a ha
    obtain ⟨A860, c861, HW⟩ := T_journal_Journal.unfold hU846 (Wd.segs (ss := [U849, U850, F]) (bt := bs) (m := []) (ot := os) [U849, U850, F] [] HW [0, 1, 2] [] [] KR KR (by decide) KR)
    replace HW : Wd w W851 ((p0, .cells #[.pointer (some ⟨p0_0, 0, none⟩), .int .i64 t847.2.1.f1, .int .i64 t847.2.1.f2, .int .i64 t847.2.1.f3, .int .i64 t847.2.1.f4.f2, .string t847.2.1.f5, .slice A860 t847.2.1.f6.length c861, .int .i64 t847.2.1.f7, .bool t847.2.1.f8, .bool t847.2.1.f9] 57 (0, 0)) :: U850 ++ (F ++ bs)) (⟨9, 1, .slice A860 t847.2.1.f6.length c861, t847.2.1.f6.length, encs encS t847.2.1.f6⟩ :: os) := HW; clear hU846
    refine stepst ha HW 0 (b := p0) (C := #[.pointer (some ⟨p0_0, 0, none⟩), .int .i64 t847.2.1.f1, .int .i64 t847.2.1.f2, .int .i64 t847.2.1.f3, .int .i64 t847.2.1.f4.f2, .string t847.2.1.f5, .slice A860 t847.2.1.f6.length c861, .int .i64 t847.2.1.f7, .bool t847.2.1.f8, .bool t847.2.1.f9]) (T := 57) KR 4 8 (.tmp 15) (.const (.bool false)) (.bool false) #[.pointer (some ⟨p0_0, 0, none⟩), .int .i64 t847.2.1.f1, .int .i64 t847.2.1.f2, .int .i64 t847.2.1.f3, .int .i64 t847.2.1.f4.f2, .string t847.2.1.f5, .slice A860 t847.2.1.f6.length c861, .int .i64 t847.2.1.f7, .bool false, .bool t847.2.1.f9] rfl KR KR KR KR KR KR KR ?_; clear ha HW a; intro a W863 HW ha
    refine endl ?_
    refine thenN (hK856 _ _ ?_); clear hK856
    refine wp_seq_k (fun K864 hK865 => ?_)
    refine wp_region_lit ?_
    refine stepp ha 16 (.int .i64 t847.1) KR KR ?_; clear ha a; intro a ha
    refine stepp ha 2 (.int .i64 t847.1) KR KR ?_; clear ha a; intro a ha
    refine endl ?_
    refine thenN (hK865 _ _ ?_); clear hK865
    refine wp_ret ?_
    obtain ⟨U866, hU867, HW⟩ := T_journal_Journal.fold (x := (⟨(), t847.2.1.f1, t847.2.1.f2, t847.2.1.f3, (⟨(), (), t847.2.1.f4.f2⟩ : T_atomic_Int64), t847.2.1.f5, t847.2.1.f6, t847.2.1.f7, false, t847.2.1.f9⟩ : T_journal_Journal)) (Wd.segs (ss := [[(p0, .cells #[.pointer (some ⟨p0_0, 0, none⟩), .int .i64 t847.2.1.f1, .int .i64 t847.2.1.f2, .int .i64 t847.2.1.f3, .int .i64 t847.2.1.f4.f2, .string t847.2.1.f5, .slice A860 t847.2.1.f6.length c861, .int .i64 t847.2.1.f7, .bool false, .bool t847.2.1.f9] 57 (0, 0))], U850, F]) (bt := bs) (m := [⟨9, 1, .slice A860 t847.2.1.f6.length c861, t847.2.1.f6.length, encs encS t847.2.1.f6⟩]) (ot := os) [[(p0, .cells #[.pointer (some ⟨p0_0, 0, none⟩), .int .i64 t847.2.1.f1, .int .i64 t847.2.1.f2, .int .i64 t847.2.1.f3, .int .i64 t847.2.1.f4.f2, .string t847.2.1.f5, .slice A860 t847.2.1.f6.length c861, .int .i64 t847.2.1.f7, .bool false, .bool t847.2.1.f9] 57 (0, 0))], U850, F] [⟨9, 1, .slice A860 t847.2.1.f6.length c861, t847.2.1.f6.length, encs encS t847.2.1.f6⟩] HW [0, 1, 2] [] [0] KR KR (by decide) KR)
    replace HW := Wd.segs (ss := [U866, U850, F]) (bt := bs) (m := []) (ot := os) [U866, U850, F] [] HW [0, 1, 2] [] [] KR KR (by decide) KR
    replace HW : Wd w W863 (U866 ++ (U850 ++ (F ++ bs))) (os) := HW
    obtain rfl := Option.some.inj h
    exact finv ha _ _ rfl (.tmp (v := .int .i64 t847.1) KR .nil) (.int .i64 t847.1) rfl ⟨U866, U850, rfl, hU867, hU0_0, (Wd.segs (ss := [U866, U850, F]) (bt := bs) (m := []) (ot := os) [U866, U850, F] [] HW [0, 1, 2] [] [] KR KR (by decide) KR)⟩
  · skip
    replace h := ite_neg' h hp859
    refine condF ha KR KR (t := (t847.1 == 0)) (ieq_f hp859) ?_
    refine wp_skip ?_
    refine thenN (hK856 _ _ ?_); clear hK856
    refine wp_seq_k (fun K868 hK869 => ?_)
    refine wp_region_lit ?_
    refine stepp ha 16 (.int .i64 t847.1) KR KR ?_; clear ha a; intro a ha
    refine stepp ha 2 (.int .i64 t847.1) KR KR ?_; clear ha a; intro a ha
    refine endl ?_
    refine thenN (hK869 _ _ ?_); clear hK869
    refine wp_ret ?_
    obtain rfl := Option.some.inj h
    exact finv ha _ _ rfl (.tmp (v := .int .i64 t847.1) KR .nil) (.int .i64 t847.1) rfl ⟨U849, U850, rfl, hU846, hU0_0, (Wd.segs (ss := [U849, U850, F]) (bt := bs) (m := []) (ot := os) [U849, U850, F] [] HW [0, 1, 2] [] [] KR KR (by decide) KR)⟩
def journal_Journal_place.f (a0 : T_journal_Journal) (a1 : Int) (a2 : Int) : Option Int :=
  some (IntKind.wrap .i64 ((IntKind.wrap .i64 ((IntKind.wrap .i64 (a0.f1 + 4)) + (IntKind.wrap .i64 (a1 * a0.f2)))) + a2))
set_option maxRecDepth 100000 in
set_option maxHeartbeats 4000000 in
theorem journal_Journal_place.calls (a0 : T_journal_Journal) (a1 : Int) (a2 : Int) (A0_0 : Option Addr) (c0_0 : Nat) (cb0 : Nat) (cb1 : Nat) (r : Int) (w : World) (hc0 : CA w cb0 0 #[.pointer (some ⟨cb1, 0, none⟩), .int .i64 a0.f1, .int .i64 a0.f2, .int .i64 a0.f3, .int .i64 a0.f4.f2, .string a0.f5, .slice A0_0 a0.f6.length c0_0, .int .i64 a0.f7, .bool a0.f8, .bool a0.f9]) (hr0_0 : Rd 1 w (.slice A0_0 a0.f6.length c0_0) a0.f6.length (encs encS a0.f6)) (h : journal_Journal_place.f a0 a1 a2 = some r) :
    Calls Tryd.prog 33 #[.pointer (some ⟨cb0, 0, none⟩), .int .i64 a1, .int .i64 a2] w (fun e W' => e = .returned (.int .i64 r) ∧ Wd w W' [] [] ) := by
  refine sxstart (n := 21) (l := [(0, .pointer (some ⟨cb0, 0, none⟩)), (1, .int .i64 a1), (2, .int .i64 a2)]) Tryd.func33 rfl rfl (Nat.le_of_ble_eq_true KR) (subsA_cons rfl (subsA_cons rfl (subsA_cons rfl (subsA_nil _)))) ?_
  intro a ha
  have HW := Wd.refl w
  unfold journal_Journal_place.f at h
  refine wp_seq_k (fun K875 hK876 => ?_)
  refine wp_region_lit ?_
  refine stepp ha 6 (.int .i64 0) KR KR ?_; clear ha a; intro a ha
  refine endl ?_
  refine thenN (hK876 _ _ ?_); clear hK876
  refine wp_seq_k (fun K877 hK878 => ?_)
  refine regionG 14 KR KR ha HW [.fix (.pointer (some ⟨cb0, 0, none⟩)), .fix (.pointer (some ⟨cb0, 0, none⟩)), .fix (.pointer (some ⟨cb0, 1, none⟩)), .fix (.int .i64 a0.f1), .fix (.int .i64 (IntKind.wrap .i64 (a0.f1 + 4))), .fix (.int .i64 a1), .fix (.pointer (some ⟨cb0, 0, none⟩)), .fix (.pointer (some ⟨cb0, 0, none⟩)), .fix (.pointer (some ⟨cb0, 2, none⟩)), .fix (.int .i64 a0.f2), .fix (.int .i64 (IntKind.wrap .i64 (a1 * a0.f2))), .fix (.int .i64 (IntKind.wrap .i64 ((IntKind.wrap .i64 (a0.f1 + 4)) + (IntKind.wrap .i64 (a1 * a0.f2))))), .fix (.int .i64 a2), .fix (.int .i64 (IntKind.wrap .i64 ((IntKind.wrap .i64 ((IntKind.wrap .i64 (a0.f1 + 4)) + (IntKind.wrap .i64 (a1 * a0.f2)))) + a2)))] ?_ ?_
  · skip
    refine ⟨?_, ?_, ?_, ?_, ?_, ?_, ?_, ?_, ?_, ?_, ?_, ?_, ?_, ?_, trivial⟩
    · skip
      intro a wr hn hd HW hs; have ha := hasNil hn hd
      have ha := ha.add (seeE hs 0 (.pointer (some ⟨cb0, 0, none⟩)) KR KR)
      refine yStep ha 7 KR ?_; intro l_ ha HK
      refine stepp ha 7 (.pointer (some ⟨cb0, 0, none⟩)) KR KR ?_; intro ax hax; exact HK _ _ _ hax rfl (Below.refl _ _)
    · skip
      intro a wr hn hd HW hs; have ha := hasNil hn hd
      have ha := ha.add (seeF hs 7 0 (.pointer (some ⟨cb0, 0, none⟩)) KR KR)
      refine yStep ha 8 KR ?_; intro l_ ha HK
      refine stepp ha 8 (.pointer (some ⟨cb0, 0, none⟩)) KR KR ?_; intro ax hax; exact HK _ _ _ hax rfl (Below.refl _ _)
    · skip
      intro a wr hn hd HW hs; have ha := hasNil hn hd
      have ha := ha.add (seeF hs 8 1 (.pointer (some ⟨cb0, 0, none⟩)) KR KR)
      refine yStep ha 9 KR ?_; intro l_ ha HK
      refine stepp ha 9 (.pointer (some ⟨cb0, 1, none⟩)) KR KR ?_; intro ax hax; exact HK _ _ _ hax rfl (Below.refl _ _)
    · skip
      intro a wr hn hd HW hs; have ha := hasNil hn hd
      have ha := ha.add (seeF hs 9 2 (.pointer (some ⟨cb0, 1, none⟩)) KR KR)
      refine yStep ha 10 KR ?_; intro l_ ha HK
      refine stepl ha 10 (HW.ca0 hc0) 3 1 (.tmp 9) (.int .i64 a0.f1) rfl KR KR KR ?_; intro ax hax; exact HK _ _ _ hax rfl (Below.refl _ _)
    · skip
      intro a wr hn hd HW hs; have ha := hasNil hn hd
      have ha := ha.add (seeF hs 10 3 (.int .i64 a0.f1) KR KR)
      refine yStep ha 11 KR ?_; intro l_ ha HK
      refine stepp ha 11 (.int .i64 (IntKind.wrap .i64 (a0.f1 + 4))) KR KR ?_; intro ax hax; exact HK _ _ _ hax rfl (Below.refl _ _)
    · skip
      intro a wr hn hd HW hs; have ha := hasNil hn hd
      have ha := ha.add (seeE hs 1 (.int .i64 a1) KR KR)
      refine yStep ha 12 KR ?_; intro l_ ha HK
      refine stepp ha 12 (.int .i64 a1) KR KR ?_; intro ax hax; exact HK _ _ _ hax rfl (Below.refl _ _)
    · skip
      intro a wr hn hd HW hs; have ha := hasNil hn hd
      have ha := ha.add (seeE hs 0 (.pointer (some ⟨cb0, 0, none⟩)) KR KR)
      refine yStep ha 13 KR ?_; intro l_ ha HK
      refine stepp ha 13 (.pointer (some ⟨cb0, 0, none⟩)) KR KR ?_; intro ax hax; exact HK _ _ _ hax rfl (Below.refl _ _)
    · skip
      intro a wr hn hd HW hs; have ha := hasNil hn hd
      have ha := ha.add (seeF hs 13 6 (.pointer (some ⟨cb0, 0, none⟩)) KR KR)
      refine yStep ha 14 KR ?_; intro l_ ha HK
      refine stepp ha 14 (.pointer (some ⟨cb0, 0, none⟩)) KR KR ?_; intro ax hax; exact HK _ _ _ hax rfl (Below.refl _ _)
    · skip
      intro a wr hn hd HW hs; have ha := hasNil hn hd
      have ha := ha.add (seeF hs 14 7 (.pointer (some ⟨cb0, 0, none⟩)) KR KR)
      refine yStep ha 15 KR ?_; intro l_ ha HK
      refine stepp ha 15 (.pointer (some ⟨cb0, 2, none⟩)) KR KR ?_; intro ax hax; exact HK _ _ _ hax rfl (Below.refl _ _)
    · skip
      intro a wr hn hd HW hs; have ha := hasNil hn hd
      have ha := ha.add (seeF hs 15 8 (.pointer (some ⟨cb0, 2, none⟩)) KR KR)
      refine yStep ha 16 KR ?_; intro l_ ha HK
      refine stepl ha 16 (HW.ca0 hc0) 3 2 (.tmp 15) (.int .i64 a0.f2) rfl KR KR KR ?_; intro ax hax; exact HK _ _ _ hax rfl (Below.refl _ _)
    · skip
      intro a wr hn hd HW hs; have ha := hasNil hn hd
      have ha := ha.add (seeF hs 12 5 (.int .i64 a1) KR KR)
      have ha := ha.add (seeF hs 16 9 (.int .i64 a0.f2) KR KR)
      refine yStep ha 17 KR ?_; intro l_ ha HK
      refine stepp ha 17 (.int .i64 (IntKind.wrap .i64 (a1 * a0.f2))) KR KR ?_; intro ax hax; exact HK _ _ _ hax rfl (Below.refl _ _)
    · skip
      intro a wr hn hd HW hs; have ha := hasNil hn hd
      have ha := ha.add (seeF hs 11 4 (.int .i64 (IntKind.wrap .i64 (a0.f1 + 4))) KR KR)
      have ha := ha.add (seeF hs 17 10 (.int .i64 (IntKind.wrap .i64 (a1 * a0.f2))) KR KR)
      refine yStep ha 18 KR ?_; intro l_ ha HK
      refine stepp ha 18 (.int .i64 (IntKind.wrap .i64 ((IntKind.wrap .i64 (a0.f1 + 4)) + (IntKind.wrap .i64 (a1 * a0.f2))))) KR KR ?_; intro ax hax; exact HK _ _ _ hax rfl (Below.refl _ _)
    · skip
      intro a wr hn hd HW hs; have ha := hasNil hn hd
      have ha := ha.add (seeE hs 2 (.int .i64 a2) KR KR)
      refine yStep ha 19 KR ?_; intro l_ ha HK
      refine stepp ha 19 (.int .i64 a2) KR KR ?_; intro ax hax; exact HK _ _ _ hax rfl (Below.refl _ _)
    · skip
      intro a wr hn hd HW hs; have ha := hasNil hn hd
      have ha := ha.add (seeF hs 18 11 (.int .i64 (IntKind.wrap .i64 ((IntKind.wrap .i64 (a0.f1 + 4)) + (IntKind.wrap .i64 (a1 * a0.f2))))) KR KR)
      have ha := ha.add (seeF hs 19 12 (.int .i64 a2) KR KR)
      refine yStep ha 20 KR ?_; intro l_ ha HK
      refine stepp ha 20 (.int .i64 (IntKind.wrap .i64 ((IntKind.wrap .i64 ((IntKind.wrap .i64 (a0.f1 + 4)) + (IntKind.wrap .i64 (a1 * a0.f2)))) + a2))) KR KR ?_; intro ax hax; exact HK _ _ _ hax rfl (Below.refl _ _)
  · skip
    intro a W879 ha HW he hf
    replace ha := ha.add (gotF (m := 14) (j := 13) (d := 20) (v := .int .i64 (IntKind.wrap .i64 ((IntKind.wrap .i64 ((IntKind.wrap .i64 (a0.f1 + 4)) + (IntKind.wrap .i64 (a1 * a0.f2)))) + a2))) hf KR KR KR)
    clear he hf
    refine stepp ha 6 (.int .i64 (IntKind.wrap .i64 ((IntKind.wrap .i64 ((IntKind.wrap .i64 (a0.f1 + 4)) + (IntKind.wrap .i64 (a1 * a0.f2)))) + a2))) KR KR ?_; clear ha a; intro a ha
    refine endl ?_
    refine thenN (hK878 _ _ ?_); clear hK878
    refine wp_ret ?_
    obtain rfl := Option.some.inj h
    exact finv ha _ _ rfl (.tmp (v := .int .i64 (IntKind.wrap .i64 ((IntKind.wrap .i64 ((IntKind.wrap .i64 (a0.f1 + 4)) + (IntKind.wrap .i64 (a1 * a0.f2)))) + a2))) KR .nil) (.int .i64 (IntKind.wrap .i64 ((IntKind.wrap .i64 ((IntKind.wrap .i64 (a0.f1 + 4)) + (IntKind.wrap .i64 (a1 * a0.f2)))) + a2))) rfl ⟨rfl, HW.pick [] [] (by decide) (by decide) rfl KR⟩
def fields_shifts.b0 (K : Nat) (a0 : Int) (a1 : Bool) (again961 : (List Int) → Int → Option (List Int)) (x962 : List Int) (x966 : Int) : Option (List Int) :=
  if x966 < a0 then (if a1 = true then (asrt (x962.length + ([IntKind.wrap .i64 (8 * (IntKind.wrap .i64 ((IntKind.wrap .i64 (a0 - 1)) - x966)))] : List Int).length ≤ 17592186044416) (again961 (x962 ++ ([IntKind.wrap .i64 (8 * (IntKind.wrap .i64 ((IntKind.wrap .i64 (a0 - 1)) - x966)))] : List Int)) (IntKind.wrap .i64 (x966 + 1)))) else (asrt (x962.length + ([IntKind.wrap .i64 (8 * x966)] : List Int).length ≤ 17592186044416) (again961 (x962 ++ ([IntKind.wrap .i64 (8 * x966)] : List Int)) (IntKind.wrap .i64 (x966 + 1))))) else (some x962)
def fields_shifts.l0 (K : Nat) (a0 : Int) (a1 : Bool) : Nat → (List Int) → Int → Option (List Int)
  | 0, _, _ => none
  | k_ + 1, x962, x966 => fields_shifts.b0 K a0 a1 (fields_shifts.l0 K a0 a1 k_) x962 x966
def fields_shifts.f (K : Nat) (a0 : Int) (a1 : Bool) : Option (List Int) :=
  fields_shifts.l0 K a0 a1 K ([] : List Int) 0
set_option maxRecDepth 100000 in
set_option maxHeartbeats 4000000 in
theorem fields_shifts.calls (K : Nat) (a0 : Int) (a1 : Bool)  (r : List Int) (w : World)  (h : fields_shifts.f K a0 a1 = some r) :
    Calls Tryd.prog 72 #[.int .i64 a0, .bool a1] w (fun e W' => ∃ A_0 c_0, e = .returned (.slice A_0 r.length c_0) ∧ Wd w W' [] [⟨3, 1, .slice A_0 r.length c_0, r.length, encs (encIK .i64) r⟩] ) := by
  refine sxstart (n := 27) (l := [(0, .int .i64 a0), (1, .bool a1)]) Tryd.func72 rfl rfl (Nat.le_of_ble_eq_true KR) (subsA_cons rfl (subsA_cons rfl (subsA_nil _))) ?_
  intro a ha
  have HW := Wd.refl w
  unfold fields_shifts.f at h
  refine wp_seq_k (fun K884 hK885 => ?_)
  refine wp_region_lit ?_
  refine stepp ha 4 (.slice none 0 0) KR KR ?_; clear ha a; intro a ha
  refine endl ?_
  refine thenN (hK885 _ _ ?_); clear hK885
  refine wp_seq_k (fun K886 hK887 => ?_)
  refine wp_region_lit ?_
  refine stepp ha 5 (.slice none 0 0) KR KR ?_; clear ha a; intro a ha
  refine endl ?_
  refine thenN (hK887 _ _ ?_); clear hK887
  refine wp_seq_k (fun K888 hK889 => ?_)
  refine wp_seq_k (fun K890 hK891 => ?_)
  refine wp_region_lit ?_
  refine stepp ha 7 (.int .i64 a0) KR KR ?_; clear ha a; intro a ha
  refine stepp ha 8 (.int .i64 0) KR KR ?_; clear ha a; intro a ha
  refine endl ?_
  refine thenN (hK891 _ _ ?_); clear hK891
  refine wp_block ?_
  refine loopk (fun k => fun a W967 => ∃ (x962 : List Int), ∃ A963, ∃ c964, ∃ (x966 : Int), fields_shifts.l0 K a0 a1 k x962 x966 = some r ∧ Has 27 [(0, .int .i64 a0), (1, .bool a1), (5, .slice A963 x962.length c964), (7, .int .i64 a0), (8, .int .i64 x966)] a ∧ Wd w W967 [] [⟨3, 1, .slice A963 x962.length c964, x962.length, encs (encIK .i64) x962⟩]) K ?_ ?_
  · skip
    replace HW := HW.nilo 3 1
    exact ⟨([] : List Int), none, 0, 0, h, ha.sub (subs_cons KR (subs_cons KR (subs_cons KR (subs_cons KR (subs_cons KR (subs_nil _)))))), HW.pick [] [0] (by decide) (by decide) KR KR⟩
  · skip
    intro k a W967 hI
    obtain ⟨x962, A963, c964, x966, h, ha, HW⟩ := hI
    cases k with
    | zero => exact (none_some (show none = some r from h)).elim
    | succ k968 =>
      replace h : fields_shifts.b0 K a0 a1 (fields_shifts.l0 K a0 a1 k968) x962 x966 = some r := h
      obtain ⟨again961, hag969⟩ : ∃ g_, g_ = fields_shifts.l0 K a0 a1 k968 := ⟨_, rfl⟩
      rw [← hag969] at h
      unfold fields_shifts.b0 at h
      refine wp_seq_k (fun K970 hK971 => ?_)
      refine wp_region_lit ?_
      refine stepp ha 9 (.bool (decide (x966 < a0))) KR KR ?_; clear ha a; intro a ha
      refine endl ?_
      refine thenN (hK971 _ _ ?_); clear hK971
      refine wp_seq_k (fun K972 hK973 => ?_)
      by_cases hp974 : x966 < a0
      · skip
        replace h := ite_pos' h hp974
        refine condT ha KR KR (t := decide (x966 < a0)) (decide_eq_true hp974) ?_
        refine wp_skip ?_
        refine thenN (hK973 _ _ ?_); clear hK973
        refine wp_seq_k (fun K975 hK976 => ?_)
        refine wp_block ?_
        refine wp_seq_k (fun K977 hK978 => ?_)
        refine wp_region_lit ?_
        refine stepp ha 10 (.int .i64 x966) KR KR ?_; clear ha a; intro a ha
        refine stepp ha 6 (.int .i64 x966) KR KR ?_; clear ha a; intro a ha
        refine endl ?_
        refine thenN (hK978 _ _ ?_); clear hK978
        refine wp_seq_k (fun K979 hK980 => ?_)
        refine wp_region_lit ?_
        refine stepp ha 11 (.bool a1) KR KR ?_; clear ha a; intro a ha
        refine endl ?_
        refine thenN (hK980 _ _ ?_); clear hK980
        by_cases hp981 : a1 = true
        · skip
          replace h := ite_pos' h hp981
          refine condT ha KR KR (t := a1) (hp981) ?_
          refine wp_region_lit ?_
          refine stepp ha 12 (.slice A963 x962.length c964) KR KR ?_; clear ha a; intro a ha
          refine stepp ha 13 (.int .i64 a0) KR KR ?_; clear ha a; intro a ha
          refine stepp ha 14 (.int .i64 (IntKind.wrap .i64 (a0 - 1))) KR KR ?_; clear ha a; intro a ha
          refine stepp ha 15 (.int .i64 x966) KR KR ?_; clear ha a; intro a ha
          refine stepp ha 16 (.int .i64 (IntKind.wrap .i64 ((IntKind.wrap .i64 (a0 - 1)) - x966))) KR KR ?_; clear ha a; intro a ha
          refine stepp ha 17 (.int .i64 (IntKind.wrap .i64 (8 * (IntKind.wrap .i64 ((IntKind.wrap .i64 (a0 - 1)) - x966))))) KR KR ?_; clear ha a; intro a ha
          refine stepbs ha HW 18 3 1 1 #[.int .i64 (IntKind.wrap .i64 (8 * (IntKind.wrap .i64 ((IntKind.wrap .i64 (a0 - 1)) - x966))))] [.int .i64 (IntKind.wrap .i64 (8 * (IntKind.wrap .i64 ((IntKind.wrap .i64 (a0 - 1)) - x966))))] (by decide) KR KR KR KR ?_; clear ha HW a; intro b982 a W983 HW ha
          replace HW : Wd w W983 [] [⟨3, 1, .slice (some ⟨b982, 0, none⟩) ([IntKind.wrap .i64 (8 * (IntKind.wrap .i64 ((IntKind.wrap .i64 (a0 - 1)) - x966)))] : List Int).length 1, ([IntKind.wrap .i64 (8 * (IntKind.wrap .i64 ((IntKind.wrap .i64 (a0 - 1)) - x966)))] : List Int).length, encs (encIK .i64) ([IntKind.wrap .i64 (8 * (IntKind.wrap .i64 ((IntKind.wrap .i64 (a0 - 1)) - x966)))] : List Int)⟩, ⟨3, 1, .slice A963 x962.length c964, x962.length, encs (encIK .i64) x962⟩] := HW
          replace ha := ha.turn 18 (v := .slice (some ⟨b982, 0, none⟩) ([IntKind.wrap .i64 (8 * (IntKind.wrap .i64 ((IntKind.wrap .i64 (a0 - 1)) - x966)))] : List Int).length 1) KR rfl
          obtain ⟨hA985, h_⟩ := asrt_some h; clear h; have h := h_; clear h_
          refine stepape (encIK .i64) ha HW 19 1 23 3 (.tmp 12) (.tmp 18) (.int .i64 0) 1 8 (.slice A963 x962.length c964) x962 (.slice (some ⟨b982, 0, none⟩) ([IntKind.wrap .i64 (8 * (IntKind.wrap .i64 ((IntKind.wrap .i64 (a0 - 1)) - x966)))] : List Int).length 1) ([IntKind.wrap .i64 (8 * (IntKind.wrap .i64 ((IntKind.wrap .i64 (a0 - 1)) - x966)))] : List Int) KR rfl KR KR (HW.rdo (i := 0) (q := ⟨3, 1, .slice (some ⟨b982, 0, none⟩) ([IntKind.wrap .i64 (8 * (IntKind.wrap .i64 ((IntKind.wrap .i64 (a0 - 1)) - x966)))] : List Int).length 1, ([IntKind.wrap .i64 (8 * (IntKind.wrap .i64 ((IntKind.wrap .i64 (a0 - 1)) - x966)))] : List Int).length, encs (encIK .i64) ([IntKind.wrap .i64 (8 * (IntKind.wrap .i64 ((IntKind.wrap .i64 (a0 - 1)) - x966)))] : List Int)⟩) KR) (fun _ => rfl) KR KR KR (by decide) (by have := hA985; unfold maxLen; omega) (by have := hA985; omega) KR ?_; clear ha HW a; intro A986 c987 a W988 HW ha
          refine stepp ha 5 (.slice A986 (x962 ++ ([IntKind.wrap .i64 (8 * (IntKind.wrap .i64 ((IntKind.wrap .i64 (a0 - 1)) - x966)))] : List Int)).length c987) KR KR ?_; clear ha a; intro a ha
          refine endl ?_
          refine blkN ?_
          refine thenN (hK976 _ _ ?_); clear hK976
          refine wp_region_lit ?_
          refine stepp ha 25 (.int .i64 (IntKind.wrap .i64 (x966 + 1))) KR KR ?_; clear ha a; intro a ha
          refine stepp ha 8 (.int .i64 (IntKind.wrap .i64 (x966 + 1))) KR KR ?_; clear ha a; intro a ha
          refine endl ?_
          exact thenN ⟨k968, Nat.lt_succ_self k968, x962 ++ ([IntKind.wrap .i64 (8 * (IntKind.wrap .i64 ((IntKind.wrap .i64 (a0 - 1)) - x966)))] : List Int), A986, c987, IntKind.wrap .i64 (x966 + 1), (by rw [← hag969]; exact h), ha.sub (subs_cons KR (subs_cons KR (subs_cons KR (subs_cons KR (subs_cons KR (subs_nil _)))))), HW.pick [] [1] (by decide) (by decide) KR KR⟩
        · skip
          replace h := ite_neg' h hp981
          refine condF ha KR KR (t := a1) (bool_f hp981) ?_
          refine wp_region_lit ?_
          refine stepp ha 20 (.slice A963 x962.length c964) KR KR ?_; clear ha a; intro a ha
          refine stepp ha 21 (.int .i64 x966) KR KR ?_; clear ha a; intro a ha
          refine stepp ha 22 (.int .i64 (IntKind.wrap .i64 (8 * x966))) KR KR ?_; clear ha a; intro a ha
          refine stepbs ha HW 23 3 1 1 #[.int .i64 (IntKind.wrap .i64 (8 * x966))] [.int .i64 (IntKind.wrap .i64 (8 * x966))] (by decide) KR KR KR KR ?_; clear ha HW a; intro b991 a W992 HW ha
          replace HW : Wd w W992 [] [⟨3, 1, .slice (some ⟨b991, 0, none⟩) ([IntKind.wrap .i64 (8 * x966)] : List Int).length 1, ([IntKind.wrap .i64 (8 * x966)] : List Int).length, encs (encIK .i64) ([IntKind.wrap .i64 (8 * x966)] : List Int)⟩, ⟨3, 1, .slice A963 x962.length c964, x962.length, encs (encIK .i64) x962⟩] := HW
          replace ha := ha.turn 23 (v := .slice (some ⟨b991, 0, none⟩) ([IntKind.wrap .i64 (8 * x966)] : List Int).length 1) KR rfl
          obtain ⟨hA994, h_⟩ := asrt_some h; clear h; have h := h_; clear h_
          refine stepape (encIK .i64) ha HW 24 1 23 3 (.tmp 20) (.tmp 23) (.int .i64 0) 1 8 (.slice A963 x962.length c964) x962 (.slice (some ⟨b991, 0, none⟩) ([IntKind.wrap .i64 (8 * x966)] : List Int).length 1) ([IntKind.wrap .i64 (8 * x966)] : List Int) KR rfl KR KR (HW.rdo (i := 0) (q := ⟨3, 1, .slice (some ⟨b991, 0, none⟩) ([IntKind.wrap .i64 (8 * x966)] : List Int).length 1, ([IntKind.wrap .i64 (8 * x966)] : List Int).length, encs (encIK .i64) ([IntKind.wrap .i64 (8 * x966)] : List Int)⟩) KR) (fun _ => rfl) KR KR KR (by decide) (by have := hA994; unfold maxLen; omega) (by have := hA994; omega) KR ?_; clear ha HW a; intro A995 c996 a W997 HW ha
          refine stepp ha 5 (.slice A995 (x962 ++ ([IntKind.wrap .i64 (8 * x966)] : List Int)).length c996) KR KR ?_; clear ha a; intro a ha
          refine endl ?_
          refine blkN ?_
          refine thenN (hK976 _ _ ?_); clear hK976
          refine wp_region_lit ?_
          refine stepp ha 25 (.int .i64 (IntKind.wrap .i64 (x966 + 1))) KR KR ?_; clear ha a; intro a ha
          refine stepp ha 8 (.int .i64 (IntKind.wrap .i64 (x966 + 1))) KR KR ?_; clear ha a; intro a ha
          refine endl ?_
          exact thenN ⟨k968, Nat.lt_succ_self k968, x962 ++ ([IntKind.wrap .i64 (8 * x966)] : List Int), A995, c996, IntKind.wrap .i64 (x966 + 1), (by rw [← hag969]; exact h), ha.sub (subs_cons KR (subs_cons KR (subs_cons KR (subs_cons KR (subs_cons KR (subs_nil _)))))), HW.pick [] [1] (by decide) (by decide) KR KR⟩
      · skip
        replace h := ite_neg' h hp974
        refine condF ha KR KR (t := decide (x966 < a0)) (decide_eq_false hp974) ?_
        refine wp_exit ?_
        refine thenE ?_
        refine thenE ?_
        refine inBlk ?_
        refine thenN (hK889 _ _ ?_); clear hK889
        refine wp_seq_k (fun K1000 hK1001 => ?_)
        refine wp_region_lit ?_
        refine stepp ha 26 (.slice A963 x962.length c964) KR KR ?_; clear ha a; intro a ha
        refine stepp ha 4 (.slice A963 x962.length c964) KR KR ?_; clear ha a; intro a ha
        refine endl ?_
        refine thenN (hK1001 _ _ ?_); clear hK1001
        refine wp_ret ?_
        obtain rfl := Option.some.inj h
        exact finv ha _ _ rfl (.tmp (v := .slice A963 x962.length c964) KR .nil) (.slice A963 x962.length c964) rfl ⟨A963, c964, rfl, HW.pick [] [0] (by decide) (by decide) rfl KR⟩
def fields_put_uint64.b0 (K : Nat) (a0 : Int) (t1020 : List Int) (again1081 : (List Int) → Int → Option ByteArray) (x1082 : List Int) (x1086 : Int) : Option ByteArray :=
  if x1086 < (t1020.length : Int) then (asrt (0 ≤ x1086) (asrt (0 ≤ (rdL (0 : Int) t1020 x1086)) (asrt (x1082.length + ([IntKind.wrap .u8 (sshr .u64 a0 (rdL (0 : Int) t1020 x1086))] : List Int).length ≤ 140737488355328) (again1081 (x1082 ++ ([IntKind.wrap .u8 (sshr .u64 a0 (rdL (0 : Int) t1020 x1086))] : List Int)) (IntKind.wrap .i64 (x1086 + 1)))))) else (some (strOfNums x1082))
def fields_put_uint64.l0 (K : Nat) (a0 : Int) (t1020 : List Int) : Nat → (List Int) → Int → Option ByteArray
  | 0, _, _ => none
  | k_ + 1, x1082, x1086 => fields_put_uint64.b0 K a0 t1020 (fields_put_uint64.l0 K a0 t1020 k_) x1082 x1086
def fields_put_uint64.f (K : Nat) (a0 : Int) (a1 : Int) (a2 : Bool) : Option ByteArray :=
  if a1 < 1 then (some (⟨#[]⟩ : ByteArray)) else (if a1 > 8 then (some (⟨#[]⟩ : ByteArray)) else ((fields_shifts.f K a1 a2).bind fun t1020 => (fields_put_uint64.l0 K a0 t1020 K ([] : List Int) 0)))
set_option maxRecDepth 100000 in
set_option maxHeartbeats 4000000 in
theorem fields_put_uint64.calls (K : Nat) (a0 : Int) (a1 : Int) (a2 : Bool)  (r : ByteArray) (w : World)  (h : fields_put_uint64.f K a0 a1 a2 = some r) :
    Calls Tryd.prog 62 #[.int .u64 a0, .int .i64 a1, .bool a2] w (fun e W' => e = .returned (.string r) ∧ Wd w W' [] [] ) := by
  refine sxstart (n := 34) (l := [(0, .int .u64 a0), (1, .int .i64 a1), (2, .bool a2)]) Tryd.func62 rfl rfl (Nat.le_of_ble_eq_true KR) (subsA_cons rfl (subsA_cons rfl (subsA_cons rfl (subsA_nil _)))) ?_
  intro a ha
  have HW := Wd.refl w
  unfold fields_put_uint64.f at h
  refine wp_seq_k (fun K1002 hK1003 => ?_)
  refine wp_region_lit ?_
  refine stepp ha 6 (.string (⟨#[]⟩ : ByteArray)) KR KR ?_; clear ha a; intro a ha
  refine endl ?_
  refine thenN (hK1003 _ _ ?_); clear hK1003
  refine wp_seq_k (fun K1004 hK1005 => ?_)
  refine wp_seq_k (fun K1006 hK1007 => ?_)
  refine wp_region_lit ?_
  refine stepp ha 10 (.int .i64 a1) KR KR ?_; clear ha a; intro a ha
  refine stepp ha 11 (.bool (decide (a1 < 1))) KR KR ?_; clear ha a; intro a ha
  refine stepp ha 12 (.bool (decide (a1 < 1))) KR KR ?_; clear ha a; intro a ha
  by_cases hp1008 : a1 < 1
  · skip
    replace h := ite_pos' h hp1008
    replace ha := ha.bool 12 KR (decide_eq_true hp1008)
    refine stepo ha 13 KR ?_; clear ha a; intro a ha
    refine stepo ha 14 KR ?_; clear ha a; intro a ha
    refine stepp ha 15 (.bool true) KR KR ?_; clear ha a; intro a ha
    refine endl ?_
    refine thenN (hK1007 _ _ ?_); clear hK1007
    refine condT ha KR KR (t := true) (rfl) ?_
    refine wp_seq_k (fun K1009 hK1010 => ?_)
    refine wp_region_lit ?_
    refine stepp ha 6 (.string (⟨#[]⟩ : ByteArray)) KR KR ?_; clear ha a; intro a ha
    refine endl ?_
    refine thenN (hK1010 _ _ ?_); clear hK1010
    refine wp_ret ?_
    refine thenR ?_
    obtain rfl := Option.some.inj h
    exact finv ha _ _ rfl (.tmp (v := .string (⟨#[]⟩ : ByteArray)) KR .nil) (.string (⟨#[]⟩ : ByteArray)) rfl ⟨rfl, HW.pick [] [] (by decide) (by decide) rfl KR⟩
  · skip
    replace h := ite_neg' h hp1008
    replace ha := ha.bool 12 KR (decide_eq_false hp1008)
    refine stepp ha 13 (.int .i64 a1) KR KR ?_; clear ha a; intro a ha
    refine stepp ha 14 (.bool (decide (a1 > 8))) KR KR ?_; clear ha a; intro a ha
    refine stepp ha 15 (.bool (decide (a1 > 8))) KR KR ?_; clear ha a; intro a ha
    refine endl ?_
    refine thenN (hK1007 _ _ ?_); clear hK1007
    by_cases hp1011 : a1 > 8
    · skip
      replace h := ite_pos' h hp1011
      refine condT ha KR KR (t := decide (a1 > 8)) (decide_eq_true hp1011) ?_
      refine wp_seq_k (fun K1012 hK1013 => ?_)
      refine wp_region_lit ?_
      refine stepp ha 6 (.string (⟨#[]⟩ : ByteArray)) KR KR ?_; clear ha a; intro a ha
      refine endl ?_
      refine thenN (hK1013 _ _ ?_); clear hK1013
      refine wp_ret ?_
      refine thenR ?_
      obtain rfl := Option.some.inj h
      exact finv ha _ _ rfl (.tmp (v := .string (⟨#[]⟩ : ByteArray)) KR .nil) (.string (⟨#[]⟩ : ByteArray)) rfl ⟨rfl, HW.pick [] [] (by decide) (by decide) rfl KR⟩
    · skip
      replace h := ite_neg' h hp1011
      refine condF ha KR KR (t := decide (a1 > 8)) (decide_eq_false hp1011) ?_
      refine wp_skip ?_
      refine thenN (hK1005 _ _ ?_); clear hK1005
      refine wp_seq_k (fun K1014 hK1015 => ?_)
      refine wp_region_lit ?_
      refine stepp ha 7 (.slice none 0 0) KR KR ?_; clear ha a; intro a ha
      refine endl ?_
      refine thenN (hK1015 _ _ ?_); clear hK1015
      refine wp_seq_k (fun K1016 hK1017 => ?_)
      refine wp_seq_k (fun K1018 hK1019 => ?_)
      refine wp_region_lit ?_
      refine stepp ha 16 (.int .i64 a1) KR KR ?_; clear ha a; intro a ha
      refine stepp ha 17 (.bool a2) KR KR ?_; clear ha a; intro a ha
      obtain ⟨t1020, ht1021, h_⟩ := bind_some' h; clear h; have h := h_; clear h_
      refine stepc ha 18 KR KR (fields_shifts.calls K a1 a2 t1020 _ ht1021) ?_; clear ha a; rintro e W1025 ⟨A1022, c1023, rfl, HX1026⟩
      refine ⟨_, rfl, ?_⟩; intro a ha; replace HW := HW.callw HX1026; clear HX1026
      refine stepp ha 19 (.int .i64 (t1020.length : Int)) KR KR ?_; clear ha a; intro a ha
      refine stepp ha 20 (.int .i64 0) KR KR ?_; clear ha a; intro a ha
      refine endl ?_
      refine thenN (hK1019 _ _ ?_); clear hK1019
      refine wp_block ?_
      refine loopk (fun k => fun a W1087 => ∃ (x1082 : List Int), ∃ A1083, ∃ c1084, ∃ (x1086 : Int), fields_put_uint64.l0 K a0 t1020 k x1082 x1086 = some r ∧ Has 34 [(0, .int .u64 a0), (7, .slice A1083 x1082.length c1084), (18, .slice A1022 t1020.length c1023), (19, .int .i64 (t1020.length : Int)), (20, .int .i64 x1086)] a ∧ Wd w W1087 [] [⟨5, 1, .slice A1083 x1082.length c1084, x1082.length, encs (encIK .u8) x1082⟩, ⟨3, 1, .slice A1022 t1020.length c1023, t1020.length, encs (encIK .i64) t1020⟩]) K ?_ ?_
      · skip
        replace HW := HW.nilo 5 1
        exact ⟨([] : List Int), none, 0, 0, h, ha.sub (subs_cons KR (subs_cons KR (subs_cons KR (subs_cons KR (subs_cons KR (subs_nil _)))))), HW.pick [] [0, 1] (by decide) (by decide) KR KR⟩
      · skip
        intro k a W1087 hI
        obtain ⟨x1082, A1083, c1084, x1086, h, ha, HW⟩ := hI
        cases k with
        | zero => exact (none_some (show none = some r from h)).elim
        | succ k1088 =>
          replace h : fields_put_uint64.b0 K a0 t1020 (fields_put_uint64.l0 K a0 t1020 k1088) x1082 x1086 = some r := h
          obtain ⟨again1081, hag1089⟩ : ∃ g_, g_ = fields_put_uint64.l0 K a0 t1020 k1088 := ⟨_, rfl⟩
          rw [← hag1089] at h
          unfold fields_put_uint64.b0 at h
          refine wp_seq_k (fun K1090 hK1091 => ?_)
          refine wp_region_lit ?_
          refine stepp ha 21 (.bool (decide (x1086 < (t1020.length : Int)))) KR KR ?_; clear ha a; intro a ha
          refine endl ?_
          refine thenN (hK1091 _ _ ?_); clear hK1091
          refine wp_seq_k (fun K1092 hK1093 => ?_)
          by_cases hp1094 : x1086 < (t1020.length : Int)
          · skip
            replace h := ite_pos' h hp1094
            refine condT ha KR KR (t := decide (x1086 < (t1020.length : Int))) (decide_eq_true hp1094) ?_
            refine wp_skip ?_
            refine thenN (hK1093 _ _ ?_); clear hK1093
            refine wp_seq_k (fun K1095 hK1096 => ?_)
            refine wp_block ?_
            refine wp_seq_k (fun K1097 hK1098 => ?_)
            refine wp_region_lit ?_
            obtain ⟨hA1099, h_⟩ := asrt_some h; clear h; have h := h_; clear h_
            refine stepie (encIK .i64) (0 : Int) ha 22 (fun _ => rfl) (v := .slice A1022 t1020.length c1023) (xs := t1020) (HW.rdo (i := 1) (q := ⟨3, 1, .slice A1022 t1020.length c1023, t1020.length, encs (encIK .i64) t1020⟩) KR) 23 3 (.tmp 18) (.tmp 20) .i64 x1086 rfl KR KR KR KR hA1099 (show (x1086 : Int) < ((t1020).length : Int) from hp1094) KR ?_; clear ha a; intro b1100 off1101 a hC1102 ha
            refine stepl ha 23 hC1102 3 0 (.tmp 22) (.int .i64 (rdL (0 : Int) t1020 x1086)) rfl KR KR KR ?_; clear ha a; intro a ha
            refine stepp ha 9 (.int .i64 (rdL (0 : Int) t1020 x1086)) KR KR ?_; clear ha a; intro a ha
            refine endl ?_
            refine thenN (hK1098 _ _ ?_); clear hK1098
            refine wp_region_lit ?_
            refine stepp ha 24 (.slice A1083 x1082.length c1084) KR KR ?_; clear ha a; intro a ha
            refine stepp ha 25 (.int .u64 a0) KR KR ?_; clear ha a; intro a ha
            refine stepp ha 26 (.int .i64 (rdL (0 : Int) t1020 x1086)) KR KR ?_; clear ha a; intro a ha
            obtain ⟨hA1103, h_⟩ := asrt_some h; clear h; have h := h_; clear h_
            refine stepshr ha 27 68 3 (.tmp 25) (.tmp 26) .u64 .i64 a0 (rdL (0 : Int) t1020 x1086) rfl KR KR hA1103 KR ?_; clear ha a; intro a ha
            refine stepp ha 28 (.int .u8 (IntKind.wrap .u8 (sshr .u64 a0 (rdL (0 : Int) t1020 x1086)))) KR KR ?_; clear ha a; intro a ha
            refine stepbs ha HW 29 5 1 1 #[.int .u8 (IntKind.wrap .u8 (sshr .u64 a0 (rdL (0 : Int) t1020 x1086)))] [.int .u8 (IntKind.wrap .u8 (sshr .u64 a0 (rdL (0 : Int) t1020 x1086)))] (by decide) KR KR KR KR ?_; clear ha HW a; intro b1104 a W1105 HW ha
            replace HW : Wd w W1105 [] [⟨5, 1, .slice (some ⟨b1104, 0, none⟩) ([IntKind.wrap .u8 (sshr .u64 a0 (rdL (0 : Int) t1020 x1086))] : List Int).length 1, ([IntKind.wrap .u8 (sshr .u64 a0 (rdL (0 : Int) t1020 x1086))] : List Int).length, encs (encIK .u8) ([IntKind.wrap .u8 (sshr .u64 a0 (rdL (0 : Int) t1020 x1086))] : List Int)⟩, ⟨5, 1, .slice A1083 x1082.length c1084, x1082.length, encs (encIK .u8) x1082⟩, ⟨3, 1, .slice A1022 t1020.length c1023, t1020.length, encs (encIK .i64) t1020⟩] := HW
            replace ha := ha.turn 29 (v := .slice (some ⟨b1104, 0, none⟩) ([IntKind.wrap .u8 (sshr .u64 a0 (rdL (0 : Int) t1020 x1086))] : List Int).length 1) KR rfl
            obtain ⟨hA1107, h_⟩ := asrt_some h; clear h; have h := h_; clear h_
            refine stepape (encIK .u8) ha HW 30 1 71 5 (.tmp 24) (.tmp 29) (.int .u8 0) 1 1 (.slice A1083 x1082.length c1084) x1082 (.slice (some ⟨b1104, 0, none⟩) ([IntKind.wrap .u8 (sshr .u64 a0 (rdL (0 : Int) t1020 x1086))] : List Int).length 1) ([IntKind.wrap .u8 (sshr .u64 a0 (rdL (0 : Int) t1020 x1086))] : List Int) KR rfl KR KR (HW.rdo (i := 0) (q := ⟨5, 1, .slice (some ⟨b1104, 0, none⟩) ([IntKind.wrap .u8 (sshr .u64 a0 (rdL (0 : Int) t1020 x1086))] : List Int).length 1, ([IntKind.wrap .u8 (sshr .u64 a0 (rdL (0 : Int) t1020 x1086))] : List Int).length, encs (encIK .u8) ([IntKind.wrap .u8 (sshr .u64 a0 (rdL (0 : Int) t1020 x1086))] : List Int)⟩) KR) (fun _ => rfl) KR KR KR (by decide) (by have := hA1107; unfold maxLen; omega) (by have := hA1107; omega) KR ?_; clear ha HW a; intro A1108 c1109 a W1110 HW ha
            refine stepp ha 7 (.slice A1108 (x1082 ++ ([IntKind.wrap .u8 (sshr .u64 a0 (rdL (0 : Int) t1020 x1086))] : List Int)).length c1109) KR KR ?_; clear ha a; intro a ha
            refine endl ?_
            refine blkN ?_
            refine thenN (hK1096 _ _ ?_); clear hK1096
            refine wp_region_lit ?_
            refine stepp ha 31 (.int .i64 (IntKind.wrap .i64 (x1086 + 1))) KR KR ?_; clear ha a; intro a ha
            refine stepp ha 20 (.int .i64 (IntKind.wrap .i64 (x1086 + 1))) KR KR ?_; clear ha a; intro a ha
            refine endl ?_
            exact thenN ⟨k1088, Nat.lt_succ_self k1088, x1082 ++ ([IntKind.wrap .u8 (sshr .u64 a0 (rdL (0 : Int) t1020 x1086))] : List Int), A1108, c1109, IntKind.wrap .i64 (x1086 + 1), (by rw [← hag1089]; exact h), ha.sub (subs_cons KR (subs_cons KR (subs_cons KR (subs_cons KR (subs_cons KR (subs_nil _)))))), HW.pick [] [1, 2] (by decide) (by decide) KR KR⟩
          · skip
            replace h := ite_neg' h hp1094
            refine condF ha KR KR (t := decide (x1086 < (t1020.length : Int))) (decide_eq_false hp1094) ?_
            refine wp_exit ?_
            refine thenE ?_
            refine thenE ?_
            refine inBlk ?_
            refine thenN (hK1017 _ _ ?_); clear hK1017
            refine wp_seq_k (fun K1113 hK1114 => ?_)
            refine wp_region_lit ?_
            refine stepp ha 32 (.slice A1083 x1082.length c1084) KR KR ?_; clear ha a; intro a ha
            refine stepbt ha 33 71 9 5 (.tmp 32) (v := .slice A1083 x1082.length c1084) (xs := x1082) (HW.rdo (i := 0) (q := ⟨5, 1, .slice A1083 x1082.length c1084, x1082.length, encs (encIK .u8) x1082⟩) KR) rfl KR KR KR KR KR ?_; clear ha a; intro a ha
            refine stepp ha 6 (.string (strOfNums x1082)) KR KR ?_; clear ha a; intro a ha
            refine endl ?_
            refine thenN (hK1114 _ _ ?_); clear hK1114
            refine wp_ret ?_
            obtain rfl := Option.some.inj h
            exact finv ha _ _ rfl (.tmp (v := .string (strOfNums x1082)) KR .nil) (.string (strOfNums x1082)) rfl ⟨rfl, HW.pick [] [] (by decide) (by decide) rfl KR⟩
def fields_PutLittle.f (K : Nat) (a0 : Int) (a1 : Int) : Option ByteArray :=
  (fields_put_uint64.f K a0 a1 false).bind fun t1151 => (some t1151)
set_option maxRecDepth 100000 in
set_option maxHeartbeats 4000000 in
theorem fields_PutLittle.calls (K : Nat) (a0 : Int) (a1 : Int)  (r : ByteArray) (w : World)  (h : fields_PutLittle.f K a0 a1 = some r) :
    Calls Tryd.prog 70 #[.int .u64 a0, .int .i64 a1] w (fun e W' => e = .returned (.string r) ∧ Wd w W' [] [] ) := by
  refine sxstart (n := 8) (l := [(0, .int .u64 a0), (1, .int .i64 a1)]) Tryd.func70 rfl rfl (Nat.le_of_ble_eq_true KR) (subsA_cons rfl (subsA_cons rfl (subsA_nil _))) ?_
  intro a ha
  have HW := Wd.refl w
  unfold fields_PutLittle.f at h
  refine wp_seq_k (fun K1147 hK1148 => ?_)
  refine wp_region_lit ?_
  refine stepp ha 4 (.string (⟨#[]⟩ : ByteArray)) KR KR ?_; clear ha a; intro a ha
  refine endl ?_
  refine thenN (hK1148 _ _ ?_); clear hK1148
  refine wp_seq_k (fun K1149 hK1150 => ?_)
  refine wp_region_lit ?_
  refine stepp ha 5 (.int .u64 a0) KR KR ?_; clear ha a; intro a ha
  refine stepp ha 6 (.int .i64 a1) KR KR ?_; clear ha a; intro a ha
  obtain ⟨t1151, ht1152, h_⟩ := bind_some' h; clear h; have h := h_; clear h_
  refine stepc ha 7 KR KR (fields_put_uint64.calls K a0 a1 false t1151 _ ht1152) ?_; clear ha a; rintro e W1153 ⟨rfl, HX1154⟩
  refine ⟨_, rfl, ?_⟩; intro a ha; replace HW := HW.callw HX1154; clear HX1154
  refine stepp ha 4 (.string t1151) KR KR ?_; clear ha a; intro a ha
  refine endl ?_
  refine thenN (hK1150 _ _ ?_); clear hK1150
  refine wp_ret ?_
  obtain rfl := Option.some.inj h
  exact finv ha _ _ rfl (.tmp (v := .string t1151) KR .nil) (.string t1151) rfl ⟨rfl, HW.pick [] [] (by decide) (by decide) rfl KR⟩
def crc_More.b0 (K : Nat) (a1 : ByteArray) (again1203 : Int → Int → Option Int) (x1204 : Int) (x1205 : Int) : Option Int :=
  if x1205 < (a1.size : Int) then (asrt (0 ≤ x1205) (asrt (0 ≤ (band .u32 (bxor .u32 x1204 (IntKind.wrap .u32 (bt a1 x1205))) 15)) (asrt ((band .u32 (bxor .u32 x1204 (IntKind.wrap .u32 (bt a1 x1205))) 15) < 16) (asrt (0 ≤ (band .u32 (bxor .u32 ((bxor .u32 x1204 (IntKind.wrap .u32 (bt a1 x1205))).fdiv 16) (rdL (0 : Int) G_crc_steps (band .u32 (bxor .u32 x1204 (IntKind.wrap .u32 (bt a1 x1205))) 15))) 15)) (asrt ((band .u32 (bxor .u32 ((bxor .u32 x1204 (IntKind.wrap .u32 (bt a1 x1205))).fdiv 16) (rdL (0 : Int) G_crc_steps (band .u32 (bxor .u32 x1204 (IntKind.wrap .u32 (bt a1 x1205))) 15))) 15) < 16) (again1203 (bxor .u32 ((bxor .u32 ((bxor .u32 x1204 (IntKind.wrap .u32 (bt a1 x1205))).fdiv 16) (rdL (0 : Int) G_crc_steps (band .u32 (bxor .u32 x1204 (IntKind.wrap .u32 (bt a1 x1205))) 15))).fdiv 16) (rdL (0 : Int) G_crc_steps (band .u32 (bxor .u32 ((bxor .u32 x1204 (IntKind.wrap .u32 (bt a1 x1205))).fdiv 16) (rdL (0 : Int) G_crc_steps (band .u32 (bxor .u32 x1204 (IntKind.wrap .u32 (bt a1 x1205))) 15))) 15))) (IntKind.wrap .i64 (x1205 + 1)))))))) else (some (bxor .u32 4294967295 x1204))
def crc_More.l0 (K : Nat) (a1 : ByteArray) : Nat → Int → Int → Option Int
  | 0, _, _ => none
  | k_ + 1, x1204, x1205 => crc_More.b0 K a1 (crc_More.l0 K a1 k_) x1204 x1205
def crc_More.f (K : Nat) (a0 : Int) (a1 : ByteArray) : Option Int :=
  crc_More.l0 K a1 K (bxor .u32 4294967295 a0) 0
set_option maxRecDepth 100000 in
set_option maxHeartbeats 4000000 in
theorem crc_More.calls (K : Nat) (a0 : Int) (a1 : ByteArray)  (r : Int) (w : World) (hG1 : CA w 1 0 (encs (encIK .u32) G_crc_steps).toArray) (h : crc_More.f K a0 a1 = some r) :
    Calls Tryd.prog 80 #[.int .u32 a0, .string a1] w (fun e W' => e = .returned (.int .u32 r) ∧ Wd w W' [] [] ) := by
  refine sxstart (n := 36) (l := [(0, .int .u32 a0), (1, .string a1)]) Tryd.func80 rfl rfl (Nat.le_of_ble_eq_true KR) (subsA_cons rfl (subsA_cons rfl (subsA_nil _))) ?_
  intro a ha
  have HW := Wd.refl w
  unfold crc_More.f at h
  refine wp_seq_k (fun K1155 hK1156 => ?_)
  refine wp_region_lit ?_
  refine stepp ha 4 (.int .u32 0) KR KR ?_; clear ha a; intro a ha
  refine endl ?_
  refine thenN (hK1156 _ _ ?_); clear hK1156
  refine wp_seq_k (fun K1157 hK1158 => ?_)
  refine wp_region_lit ?_
  refine stepp ha 6 (.int .u32 a0) KR KR ?_; clear ha a; intro a ha
  refine stepp ha 7 (.int .u32 (bxor .u32 4294967295 a0)) KR KR ?_; clear ha a; intro a ha
  refine stepp ha 0 (.int .u32 (bxor .u32 4294967295 a0)) KR KR ?_; clear ha a; intro a ha
  refine endl ?_
  refine thenN (hK1158 _ _ ?_); clear hK1158
  refine wp_seq_k (fun K1159 hK1160 => ?_)
  refine wp_seq_k (fun K1161 hK1162 => ?_)
  refine wp_region_lit ?_
  refine stepp ha 8 (.string a1) KR KR ?_; clear ha a; intro a ha
  refine stepp ha 9 (.int .i64 (a1.size : Int)) KR KR ?_; clear ha a; intro a ha
  refine stepp ha 10 (.int .i64 0) KR KR ?_; clear ha a; intro a ha
  refine endl ?_
  refine thenN (hK1162 _ _ ?_); clear hK1162
  refine wp_block ?_
  refine loopk (fun k => fun a W1206 => ∃ (x1204 : Int), ∃ (x1205 : Int), crc_More.l0 K a1 k x1204 x1205 = some r ∧ Has 36 [(0, .int .u32 x1204), (1, .string a1), (9, .int .i64 (a1.size : Int)), (10, .int .i64 x1205)] a ∧ Wd w W1206 [] []) K ?_ ?_
  · skip
    exact ⟨bxor .u32 4294967295 a0, 0, h, ha.sub (subs_cons KR (subs_cons KR (subs_cons KR (subs_cons KR (subs_nil _))))), HW.pick [] [] (by decide) (by decide) KR KR⟩
  · skip
    intro k a W1206 hI
    obtain ⟨x1204, x1205, h, ha, HW⟩ := hI
    cases k with
    | zero => exact (none_some (show none = some r from h)).elim
    | succ k1207 =>
      replace h : crc_More.b0 K a1 (crc_More.l0 K a1 k1207) x1204 x1205 = some r := h
      obtain ⟨again1203, hag1208⟩ : ∃ g_, g_ = crc_More.l0 K a1 k1207 := ⟨_, rfl⟩
      rw [← hag1208] at h
      unfold crc_More.b0 at h
      refine wp_seq_k (fun K1209 hK1210 => ?_)
      refine wp_region_lit ?_
      refine stepp ha 11 (.bool (decide (x1205 < (a1.size : Int)))) KR KR ?_; clear ha a; intro a ha
      refine endl ?_
      refine thenN (hK1210 _ _ ?_); clear hK1210
      refine wp_seq_k (fun K1211 hK1212 => ?_)
      by_cases hp1213 : x1205 < (a1.size : Int)
      · skip
        replace h := ite_pos' h hp1213
        refine condT ha KR KR (t := decide (x1205 < (a1.size : Int))) (decide_eq_true hp1213) ?_
        refine wp_skip ?_
        refine thenN (hK1212 _ _ ?_); clear hK1212
        refine wp_seq_k (fun K1214 hK1215 => ?_)
        refine wp_block ?_
        refine wp_seq_k (fun K1216 hK1217 => ?_)
        refine wp_region_lit ?_
        refine stepp ha 12 (.int .i64 x1205) KR KR ?_; clear ha a; intro a ha
        refine stepp ha 5 (.int .i64 x1205) KR KR ?_; clear ha a; intro a ha
        refine endl ?_
        refine thenN (hK1217 _ _ ?_); clear hK1217
        refine wp_seq_k (fun K1218 hK1219 => ?_)
        refine wp_region_lit ?_
        refine stepp ha 13 (.int .u32 x1204) KR KR ?_; clear ha a; intro a ha
        refine stepp ha 14 (.string a1) KR KR ?_; clear ha a; intro a ha
        refine stepp ha 15 (.int .i64 x1205) KR KR ?_; clear ha a; intro a ha
        obtain ⟨hA1220, h_⟩ := asrt_some h; clear h; have h := h_; clear h_
        refine stepsi ha 16 9 (.tmp 14) (.tmp 15) a1 .i64 x1205 rfl KR KR KR hA1220 (show (x1205 : Int) < ((a1).size : Int) from hp1213) KR ?_; clear ha a; intro a ha
        refine stepp ha 17 (.int .u32 (IntKind.wrap .u32 (bt a1 x1205))) KR KR ?_; clear ha a; intro a ha
        refine stepp ha 18 (.int .u32 (bxor .u32 x1204 (IntKind.wrap .u32 (bt a1 x1205)))) KR KR ?_; clear ha a; intro a ha
        refine stepp ha 0 (.int .u32 (bxor .u32 x1204 (IntKind.wrap .u32 (bt a1 x1205)))) KR KR ?_; clear ha a; intro a ha
        refine endl ?_
        refine thenN (hK1219 _ _ ?_); clear hK1219
        refine wp_seq_k (fun K1221 hK1222 => ?_)
        refine wp_region_lit ?_
        refine stepp ha 19 (.int .u32 (bxor .u32 x1204 (IntKind.wrap .u32 (bt a1 x1205)))) KR KR ?_; clear ha a; intro a ha
        refine stepp ha 20 (.int .u32 ((bxor .u32 x1204 (IntKind.wrap .u32 (bt a1 x1205))).fdiv 16)) KR KR ?_; clear ha a; intro a ha
        refine stepp ha 21 (.int .u32 (bxor .u32 x1204 (IntKind.wrap .u32 (bt a1 x1205)))) KR KR ?_; clear ha a; intro a ha
        refine stepp ha 22 (.int .u32 (band .u32 (bxor .u32 x1204 (IntKind.wrap .u32 (bt a1 x1205))) 15)) KR KR ?_; clear ha a; intro a ha
        obtain ⟨hA1223, h_⟩ := asrt_some h; clear h; have h := h_; clear h_
        obtain ⟨hA1224, h_⟩ := asrt_some h; clear h; have h := h_; clear h_
        refine stepiw ha 23 (sz := 1) 1 0 127 16 97 (.global 1) (.tmp 22) .u32 (band .u32 (bxor .u32 x1204 (IntKind.wrap .u32 (bt a1 x1205))) 15) rfl KR KR KR KR hA1223 hA1224 KR ?_; clear ha a; intro a ha
        refine stepl ha 24 (CA.el (sz := 1) (encIK .u32) (0 : Int) (fun _ => rfl) (HW.ca0 hG1) G_crc_steps rfl (len := 16) rfl hA1223 hA1224) 97 0 (.tmp 23) (.int .u32 (rdL (0 : Int) G_crc_steps (band .u32 (bxor .u32 x1204 (IntKind.wrap .u32 (bt a1 x1205))) 15))) rfl KR KR KR ?_; clear ha a; intro a ha
        refine stepp ha 25 (.int .u32 (bxor .u32 ((bxor .u32 x1204 (IntKind.wrap .u32 (bt a1 x1205))).fdiv 16) (rdL (0 : Int) G_crc_steps (band .u32 (bxor .u32 x1204 (IntKind.wrap .u32 (bt a1 x1205))) 15)))) KR KR ?_; clear ha a; intro a ha
        refine stepp ha 0 (.int .u32 (bxor .u32 ((bxor .u32 x1204 (IntKind.wrap .u32 (bt a1 x1205))).fdiv 16) (rdL (0 : Int) G_crc_steps (band .u32 (bxor .u32 x1204 (IntKind.wrap .u32 (bt a1 x1205))) 15)))) KR KR ?_; clear ha a; intro a ha
        refine endl ?_
        refine thenN (hK1222 _ _ ?_); clear hK1222
        refine wp_region_lit ?_
        refine stepp ha 26 (.int .u32 (bxor .u32 ((bxor .u32 x1204 (IntKind.wrap .u32 (bt a1 x1205))).fdiv 16) (rdL (0 : Int) G_crc_steps (band .u32 (bxor .u32 x1204 (IntKind.wrap .u32 (bt a1 x1205))) 15)))) KR KR ?_; clear ha a; intro a ha
        refine stepp ha 27 (.int .u32 ((bxor .u32 ((bxor .u32 x1204 (IntKind.wrap .u32 (bt a1 x1205))).fdiv 16) (rdL (0 : Int) G_crc_steps (band .u32 (bxor .u32 x1204 (IntKind.wrap .u32 (bt a1 x1205))) 15))).fdiv 16)) KR KR ?_; clear ha a; intro a ha
        refine stepp ha 28 (.int .u32 (bxor .u32 ((bxor .u32 x1204 (IntKind.wrap .u32 (bt a1 x1205))).fdiv 16) (rdL (0 : Int) G_crc_steps (band .u32 (bxor .u32 x1204 (IntKind.wrap .u32 (bt a1 x1205))) 15)))) KR KR ?_; clear ha a; intro a ha
        refine stepp ha 29 (.int .u32 (band .u32 (bxor .u32 ((bxor .u32 x1204 (IntKind.wrap .u32 (bt a1 x1205))).fdiv 16) (rdL (0 : Int) G_crc_steps (band .u32 (bxor .u32 x1204 (IntKind.wrap .u32 (bt a1 x1205))) 15))) 15)) KR KR ?_; clear ha a; intro a ha
        obtain ⟨hA1225, h_⟩ := asrt_some h; clear h; have h := h_; clear h_
        obtain ⟨hA1226, h_⟩ := asrt_some h; clear h; have h := h_; clear h_
        refine stepiw ha 30 (sz := 1) 1 0 127 16 97 (.global 1) (.tmp 29) .u32 (band .u32 (bxor .u32 ((bxor .u32 x1204 (IntKind.wrap .u32 (bt a1 x1205))).fdiv 16) (rdL (0 : Int) G_crc_steps (band .u32 (bxor .u32 x1204 (IntKind.wrap .u32 (bt a1 x1205))) 15))) 15) rfl KR KR KR KR hA1225 hA1226 KR ?_; clear ha a; intro a ha
        refine stepl ha 31 (CA.el (sz := 1) (encIK .u32) (0 : Int) (fun _ => rfl) (HW.ca0 hG1) G_crc_steps rfl (len := 16) rfl hA1225 hA1226) 97 0 (.tmp 30) (.int .u32 (rdL (0 : Int) G_crc_steps (band .u32 (bxor .u32 ((bxor .u32 x1204 (IntKind.wrap .u32 (bt a1 x1205))).fdiv 16) (rdL (0 : Int) G_crc_steps (band .u32 (bxor .u32 x1204 (IntKind.wrap .u32 (bt a1 x1205))) 15))) 15))) rfl KR KR KR ?_; clear ha a; intro a ha
        refine stepp ha 32 (.int .u32 (bxor .u32 ((bxor .u32 ((bxor .u32 x1204 (IntKind.wrap .u32 (bt a1 x1205))).fdiv 16) (rdL (0 : Int) G_crc_steps (band .u32 (bxor .u32 x1204 (IntKind.wrap .u32 (bt a1 x1205))) 15))).fdiv 16) (rdL (0 : Int) G_crc_steps (band .u32 (bxor .u32 ((bxor .u32 x1204 (IntKind.wrap .u32 (bt a1 x1205))).fdiv 16) (rdL (0 : Int) G_crc_steps (band .u32 (bxor .u32 x1204 (IntKind.wrap .u32 (bt a1 x1205))) 15))) 15)))) KR KR ?_; clear ha a; intro a ha
        refine stepp ha 0 (.int .u32 (bxor .u32 ((bxor .u32 ((bxor .u32 x1204 (IntKind.wrap .u32 (bt a1 x1205))).fdiv 16) (rdL (0 : Int) G_crc_steps (band .u32 (bxor .u32 x1204 (IntKind.wrap .u32 (bt a1 x1205))) 15))).fdiv 16) (rdL (0 : Int) G_crc_steps (band .u32 (bxor .u32 ((bxor .u32 x1204 (IntKind.wrap .u32 (bt a1 x1205))).fdiv 16) (rdL (0 : Int) G_crc_steps (band .u32 (bxor .u32 x1204 (IntKind.wrap .u32 (bt a1 x1205))) 15))) 15)))) KR KR ?_; clear ha a; intro a ha
        refine endl ?_
        refine blkN ?_
        refine thenN (hK1215 _ _ ?_); clear hK1215
        refine wp_region_lit ?_
        refine stepp ha 33 (.int .i64 (IntKind.wrap .i64 (x1205 + 1))) KR KR ?_; clear ha a; intro a ha
        refine stepp ha 10 (.int .i64 (IntKind.wrap .i64 (x1205 + 1))) KR KR ?_; clear ha a; intro a ha
        refine endl ?_
        exact thenN ⟨k1207, Nat.lt_succ_self k1207, bxor .u32 ((bxor .u32 ((bxor .u32 x1204 (IntKind.wrap .u32 (bt a1 x1205))).fdiv 16) (rdL (0 : Int) G_crc_steps (band .u32 (bxor .u32 x1204 (IntKind.wrap .u32 (bt a1 x1205))) 15))).fdiv 16) (rdL (0 : Int) G_crc_steps (band .u32 (bxor .u32 ((bxor .u32 x1204 (IntKind.wrap .u32 (bt a1 x1205))).fdiv 16) (rdL (0 : Int) G_crc_steps (band .u32 (bxor .u32 x1204 (IntKind.wrap .u32 (bt a1 x1205))) 15))) 15)), IntKind.wrap .i64 (x1205 + 1), (by rw [← hag1208]; exact h), ha.sub (subs_cons KR (subs_cons KR (subs_cons KR (subs_cons KR (subs_nil _))))), HW.pick [] [] (by decide) (by decide) KR KR⟩
      · skip
        replace h := ite_neg' h hp1213
        refine condF ha KR KR (t := decide (x1205 < (a1.size : Int))) (decide_eq_false hp1213) ?_
        refine wp_exit ?_
        refine thenE ?_
        refine thenE ?_
        refine inBlk ?_
        refine thenN (hK1160 _ _ ?_); clear hK1160
        refine wp_seq_k (fun K1227 hK1228 => ?_)
        refine wp_region_lit ?_
        refine stepp ha 34 (.int .u32 x1204) KR KR ?_; clear ha a; intro a ha
        refine stepp ha 35 (.int .u32 (bxor .u32 4294967295 x1204)) KR KR ?_; clear ha a; intro a ha
        refine stepp ha 4 (.int .u32 (bxor .u32 4294967295 x1204)) KR KR ?_; clear ha a; intro a ha
        refine endl ?_
        refine thenN (hK1228 _ _ ?_); clear hK1228
        refine wp_ret ?_
        obtain rfl := Option.some.inj h
        exact finv ha _ _ rfl (.tmp (v := .int .u32 (bxor .u32 4294967295 x1204)) KR .nil) (.int .u32 (bxor .u32 4294967295 x1204)) rfl ⟨rfl, HW.pick [] [] (by decide) (by decide) rfl KR⟩
def crc_Sum.f (K : Nat) (a0 : ByteArray) : Option Int :=
  (crc_More.f K 0 a0).bind fun t1233 => (some t1233)
set_option maxRecDepth 100000 in
set_option maxHeartbeats 4000000 in
theorem crc_Sum.calls (K : Nat) (a0 : ByteArray)  (r : Int) (w : World) (hG1 : CA w 1 0 (encs (encIK .u32) G_crc_steps).toArray) (h : crc_Sum.f K a0 = some r) :
    Calls Tryd.prog 71 #[.string a0] w (fun e W' => e = .returned (.int .u32 r) ∧ Wd w W' [] [] ) := by
  refine sxstart (n := 5) (l := [(0, .string a0)]) Tryd.func71 rfl rfl (Nat.le_of_ble_eq_true KR) (subsA_cons rfl (subsA_nil _)) ?_
  intro a ha
  have HW := Wd.refl w
  unfold crc_Sum.f at h
  refine wp_seq_k (fun K1229 hK1230 => ?_)
  refine wp_region_lit ?_
  refine stepp ha 2 (.int .u32 0) KR KR ?_; clear ha a; intro a ha
  refine endl ?_
  refine thenN (hK1230 _ _ ?_); clear hK1230
  refine wp_seq_k (fun K1231 hK1232 => ?_)
  refine wp_region_lit ?_
  refine stepp ha 3 (.string a0) KR KR ?_; clear ha a; intro a ha
  obtain ⟨t1233, ht1234, h_⟩ := bind_some' h; clear h; have h := h_; clear h_
  refine stepc ha 4 KR KR (crc_More.calls K 0 a0 t1233 _ (HW.ca0 hG1) ht1234) ?_; clear ha a; rintro e W1235 ⟨rfl, HX1236⟩
  refine ⟨_, rfl, ?_⟩; intro a ha; replace HW := HW.callw HX1236; clear HX1236
  refine stepp ha 2 (.int .u32 t1233) KR KR ?_; clear ha a; intro a ha
  refine endl ?_
  refine thenN (hK1232 _ _ ?_); clear hK1232
  refine wp_ret ?_
  obtain rfl := Option.some.inj h
  exact finv ha _ _ rfl (.tmp (v := .int .u32 t1233) KR .nil) (.int .u32 t1233) rfl ⟨rfl, HW.pick [] [] (by decide) (by decide) rfl KR⟩
def crc_Digest.f (K : Nat) (a0 : ByteArray) : Option ByteArray :=
  (crc_Sum.f K a0).bind fun t1241 => ((fields_PutLittle.f K (IntKind.wrap .u64 t1241) 4).bind fun t1245 => (some t1245))
set_option maxRecDepth 100000 in
set_option maxHeartbeats 4000000 in
theorem crc_Digest.calls (K : Nat) (a0 : ByteArray)  (r : ByteArray) (w : World) (hG1 : CA w 1 0 (encs (encIK .u32) G_crc_steps).toArray) (h : crc_Digest.f K a0 = some r) :
    Calls Tryd.prog 61 #[.string a0] w (fun e W' => e = .returned (.string r) ∧ Wd w W' [] [] ) := by
  refine sxstart (n := 7) (l := [(0, .string a0)]) Tryd.func61 rfl rfl (Nat.le_of_ble_eq_true KR) (subsA_cons rfl (subsA_nil _)) ?_
  intro a ha
  have HW := Wd.refl w
  unfold crc_Digest.f at h
  refine wp_seq_k (fun K1237 hK1238 => ?_)
  refine wp_region_lit ?_
  refine stepp ha 2 (.string (⟨#[]⟩ : ByteArray)) KR KR ?_; clear ha a; intro a ha
  refine endl ?_
  refine thenN (hK1238 _ _ ?_); clear hK1238
  refine wp_seq_k (fun K1239 hK1240 => ?_)
  refine wp_region_lit ?_
  refine stepp ha 3 (.string a0) KR KR ?_; clear ha a; intro a ha
  obtain ⟨t1241, ht1242, h_⟩ := bind_some' h; clear h; have h := h_; clear h_
  refine stepc ha 4 KR KR (crc_Sum.calls K a0 t1241 _ (HW.ca0 hG1) ht1242) ?_; clear ha a; rintro e W1243 ⟨rfl, HX1244⟩
  refine ⟨_, rfl, ?_⟩; intro a ha; replace HW := HW.callw HX1244; clear HX1244
  refine stepp ha 5 (.int .u64 (IntKind.wrap .u64 t1241)) KR KR ?_; clear ha a; intro a ha
  obtain ⟨t1245, ht1246, h_⟩ := bind_some' h; clear h; have h := h_; clear h_
  refine stepc ha 6 KR KR (fields_PutLittle.calls K (IntKind.wrap .u64 t1241) 4 t1245 _ ht1246) ?_; clear ha a; rintro e W1247 ⟨rfl, HX1248⟩
  refine ⟨_, rfl, ?_⟩; intro a ha; replace HW := HW.callw HX1248; clear HX1248
  refine stepp ha 2 (.string t1245) KR KR ?_; clear ha a; intro a ha
  refine endl ?_
  refine thenN (hK1240 _ _ ?_); clear hK1240
  refine wp_ret ?_
  obtain rfl := Option.some.inj h
  exact finv ha _ _ rfl (.tmp (v := .string t1245) KR .nil) (.string t1245) rfl ⟨rfl, HW.pick [] [] (by decide) (by decide) rfl KR⟩
def headgatekeep_Mod.f (a0 : Int) (a1 : Int) : Option Int :=
  if a1 < 1 then (some 0) else (asrt (¬ a1 = 0) (some (Int.tmod (IntKind.wrap .i64 ((Int.tmod a0 a1) + a1)) a1)))
set_option maxRecDepth 100000 in
set_option maxHeartbeats 4000000 in
theorem headgatekeep_Mod.calls (a0 : Int) (a1 : Int)  (r : Int) (w : World)  (h : headgatekeep_Mod.f a0 a1 = some r) :
    Calls Tryd.prog 10 #[.int .i64 a0, .int .i64 a1] w (fun e W' => e = .returned (.int .i64 r) ∧ Wd w W' [] [] ) := by
  refine sxstart (n := 14) (l := [(0, .int .i64 a0), (1, .int .i64 a1)]) Tryd.func10 rfl rfl (Nat.le_of_ble_eq_true KR) (subsA_cons rfl (subsA_cons rfl (subsA_nil _))) ?_
  intro a ha
  have HW := Wd.refl w
  unfold headgatekeep_Mod.f at h
  refine wp_seq_k (fun K3732 hK3733 => ?_)
  refine wp_region_lit ?_
  refine stepp ha 4 (.int .i64 0) KR KR ?_; clear ha a; intro a ha
  refine endl ?_
  refine thenN (hK3733 _ _ ?_); clear hK3733
  refine wp_seq_k (fun K3734 hK3735 => ?_)
  refine wp_seq_k (fun K3736 hK3737 => ?_)
  refine wp_region_lit ?_
  refine stepp ha 5 (.int .i64 a1) KR KR ?_; clear ha a; intro a ha
  refine stepp ha 6 (.bool (decide (a1 < 1))) KR KR ?_; clear ha a; intro a ha
  refine endl ?_
  refine thenN (hK3737 _ _ ?_); clear hK3737
  by_cases hp3738 : a1 < 1
  · skip
    replace h := ite_pos' h hp3738
    refine condT ha KR KR (t := decide (a1 < 1)) (decide_eq_true hp3738) ?_
    refine wp_seq_k (fun K3739 hK3740 => ?_)
    refine wp_region_lit ?_
    refine stepp ha 4 (.int .i64 0) KR KR ?_; clear ha a; intro a ha
    refine endl ?_
    refine thenN (hK3740 _ _ ?_); clear hK3740
    refine wp_ret ?_
    refine thenR ?_
    obtain rfl := Option.some.inj h
    exact finv ha _ _ rfl (.tmp (v := .int .i64 0) KR .nil) (.int .i64 0) rfl ⟨rfl, HW.pick [] [] (by decide) (by decide) rfl KR⟩
  · skip
    replace h := ite_neg' h hp3738
    refine condF ha KR KR (t := decide (a1 < 1)) (decide_eq_false hp3738) ?_
    refine wp_skip ?_
    refine thenN (hK3735 _ _ ?_); clear hK3735
    refine wp_seq_k (fun K3741 hK3742 => ?_)
    refine wp_region_lit ?_
    refine stepp ha 7 (.int .i64 a0) KR KR ?_; clear ha a; intro a ha
    refine stepp ha 8 (.int .i64 a1) KR KR ?_; clear ha a; intro a ha
    obtain ⟨hA3743, h_⟩ := asrt_some h; clear h; have h := h_; clear h_
    refine steprem ha 9 3 3 (.tmp 7) (.tmp 8) .i64 a0 a1 rfl KR KR hA3743 KR ?_; clear ha a; intro a ha
    refine stepp ha 10 (.int .i64 a1) KR KR ?_; clear ha a; intro a ha
    refine stepp ha 11 (.int .i64 (IntKind.wrap .i64 ((Int.tmod a0 a1) + a1))) KR KR ?_; clear ha a; intro a ha
    refine stepp ha 12 (.int .i64 a1) KR KR ?_; clear ha a; intro a ha
    refine steprem ha 13 3 3 (.tmp 11) (.tmp 12) .i64 (IntKind.wrap .i64 ((Int.tmod a0 a1) + a1)) a1 rfl KR KR hA3743 KR ?_; clear ha a; intro a ha
    refine stepp ha 4 (.int .i64 (Int.tmod (IntKind.wrap .i64 ((Int.tmod a0 a1) + a1)) a1)) KR KR ?_; clear ha a; intro a ha
    refine endl ?_
    refine thenN (hK3742 _ _ ?_); clear hK3742
    refine wp_ret ?_
    obtain rfl := Option.some.inj h
    exact finv ha _ _ rfl (.tmp (v := .int .i64 (Int.tmod (IntKind.wrap .i64 ((Int.tmod a0 a1) + a1)) a1)) KR .nil) (.int .i64 (Int.tmod (IntKind.wrap .i64 ((Int.tmod a0 a1) + a1)) a1)) rfl ⟨rfl, HW.pick [] [] (by decide) (by decide) rfl KR⟩
end Go.Proofs.YtokdiacjcbolfaaDoor.F
