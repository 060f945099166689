/- strings.Builder: written to, and read. No condition. -/
import Derived.Test.YtdcojinnjpihaaaDoorXSB
import Derived.Test.YtdcojinnjpihaaaDoorXPan2
import Derived.Test.YtdcojinnjpihaaaDoorXShelf
import Derived.Laws.Externs
import Derived.Test.YtdcojinnjpihaaaDoorXAbsOp4
namespace Go.Proofs.YtdcojinnjpihaaaDoor.X
open Go Go.RowKit
set_option linter.unusedVariables false
set_option linter.unusedSimpArgs false

/-- A pointer is not unlike itself. -/
theorem ptr_ne_self {P : Program} {t te : Nat} (ht : P.underlying t = some (.pointer te)) (hi : (P.info? te).isSome = true) (b o : Nat) (X Y : Operand) (W : World) :
    (do eqGuard .neq t X Y (.pointer (some ⟨b, o, none⟩)) (.pointer (some ⟨b, o, none⟩)); binOp .neq t (.pointer (some ⟨b, o, none⟩)) (.pointer (some ⟨b, o, none⟩)) : Sem Value).run P W = .ok (.bool false) W := by
  obtain ⟨j, hj⟩ := Option.isSome_iff_exists.mp hi
  have h : asame P .neq t (.pointer (some ⟨b, o, none⟩)) (.pointer (some ⟨b, o, none⟩)) = some (.bool false) := by
    simp [asame, ht, hj]
  have hv : VR (fun k => some ⟨k, 0, 0, 0⟩) (.pointer (some ⟨b, o, none⟩)) (.pointer (some ⟨b, o, none⟩)) := by
    have := VR.ptr (μ := fun k => some ⟨k, 0, 0, 0⟩) (k := b) (o := o) (l := ⟨b, 0, 0, 0⟩) rfl
    simpa using this
  exact (asame_ok (P := P) (X := X) (Y := Y) h hv hv).1

theorem toUnsafe (P : Program) (W : World) (b src dst t e cells : Nat) (hsh : W.shape? b = some (e, cells)) (hs : P.underlying src = some (.pointer t)) (hd : P.underlying dst = some .unsafePointer) (ht : (P.info? t).map (fun j => Nat.blt 0 j.size) = some true) (hc : Nat.blt 0 cells = true) :
    (convert src dst (.pointer (some ⟨b, 0, none⟩))).run P W = .ok (.pointer (some ⟨b, 0, none⟩)) W := by
  cases hi : P.info? t with
  | none => simp [hi] at ht
  | some j =>
    have hj : 0 < j.size := by simpa [hi] using ht
    exact Lib.run_to_unsafe W ⟨b, 0, none⟩ hs hd hi (by omega) hsh (Nat.le_of_ble_eq_true hc)

theorem fromUnsafe (P : Program) (W : World) (b src dst u e cells : Nat) (hsh : W.shape? b = some (e, cells)) (hs : P.underlying src = some .unsafePointer) (hd : P.underlying dst = some (.pointer u)) (hu : (P.info? u).isSome = true) (hl : liesAt P P.depth e (cells / P.cellsOf e) 0 u 1 = true) :
    (convert src dst (.pointer (some ⟨b, 0, none⟩))).run P W = .ok (.pointer (some ⟨b, 0, none⟩)) W := by
  obtain ⟨j, hj⟩ := Option.isSome_iff_exists.mp hu
  exact Lib.run_from_unsafe W ⟨b, 0, none⟩ hs hd hj hsh hl

theorem stepcv {P : Program} {n : Nat} {l : List (Nat × Value)} {a : Act} {ops : Array Oper} {o : Oper} {rest : List Oper} {Q : Exit → Act → World → Prop} {W : World}
    (ha : Has n l a) (d t t' : Nat) (X : Operand) {u : Value} (v : Value) (ho : o.op = .convert t t' X) (hx : ev l X = u) (hr : (convert t t' u).run P W = .ok v W) (hok : okB n l ops o d = true) (h : ∀ a', Has n ((d, v) :: l) a' → wpList P ops Q rest a' W) : wpList P ops Q (o :: rest) a W := by
  refine stepv (W' := W) ha d _ hok ?_ h
  unfold execOp
  simp only [ho, hx]
  exact runv hr

theorem stepbi {P : Program} {n : Nat} {l : List (Nat × Value)} {a : Act} {ops : Array Oper} {o : Oper} {rest : List Oper} {Q : Exit → Act → World → Prop} {W W' : World}
    (ha : Has n l a) (d : Nat) (b : Builtin) (ts : Array TypeId) (xs : Array Operand) {vs : Array Value} {v : Value} (ho : o.op = .call { callee := .builtin b, args := xs, argTypes := ts }) (hx : xs.map (ev l) = vs) (hr : ∀ cs : Array Bool, (builtin b ts o.type cs vs).run P W = .ok (.value v) W') (hok : okB n l ops o d = true)
    (h : ∀ a', Has n ((d, v) :: l) a' → wpList P ops Q rest a' W') : wpList P ops Q (o :: rest) a W := by
  refine stepv (W' := W') ha d _ hok ?_ h
  unfold execOp
  simp only [ho, resolve, invoke, Sem.run_bind, Sem.run_pure, Result.andThen_ok, hx, hr]

theorem stepnp {P : Program} {n : Nat} {l : List (Nat × Value)} {a : Act} {ops : Array Oper} {o : Oper} {rest : List Oper} {Q : Exit → Act → World → Prop} {W : World}
    (ha : Has n l a) (d t te t' : Nat) (X Y : Operand) (b of : Nat) (ho : o.op = .binOp .neq t X Y t') (hx : ev l X = .pointer (some ⟨b, of, none⟩)) (hy : ev l Y = .pointer (some ⟨b, of, none⟩))
    (ht : P.underlying t = some (.pointer te)) (hi : (P.info? te).isSome = true) (hok : okB n l ops o d = true) (h : ∀ a', Has n ((d, .bool false) :: l) a' → wpList P ops Q rest a' W) : wpList P ops Q (o :: rest) a W := by
  refine stepv (W' := W) ha d _ hok ?_ h
  have h_ := ptr_ne_self (P := P) ht hi b of X Y W
  unfold execOp
  simp only [ho, hx, hy]
  exact runv h_

section
variable {w0 W : World} {bs : List (Nat × Obj)} {os : List OwnA}

/-- What every writing method calls first. -/
theorem wb_check (HW : Wd w0 W bs os) {i b : Nat} {p v : Value} (hi : bs[i]? = some (b, .cells #[p, v] 68 (0, 0))) (hp : p = .pointer none ∨ p = .pointer (some ⟨b, 0, none⟩)) :
    Calls Tryd.prog 43 #[.pointer (some ⟨b, 0, none⟩)] W fun e W' => e = .returned (.tuple #[]) ∧ Wd w0 W' (bs.set i (b, .cells #[.pointer (some ⟨b, 0, none⟩), v] 68 (0, 0))) os := by
  refine sxstart (n := 20) (l := [(0, .pointer (some ⟨b, 0, none⟩))]) Tryd.func43 rfl rfl (Nat.le_of_ble_eq_true KR) (subsA_cons rfl (subsA_nil _)) ?_
  intro a ha
  have hsh : W.shape? b = some (68, 2) := by simp [World.shape?, (HW.blk i _ hi).2]
  refine wp_seq_k (fun K hK => ?_)
  refine wp_region_lit ?_
  refine stepp ha 2 (.pointer (some ⟨b, 0, none⟩)) KR KR ?_; clear ha a; intro a ha
  refine stepp ha 3 (.pointer (some ⟨b, 0, none⟩)) KR KR ?_; clear ha a; intro a ha
  refine stepp ha 4 (.pointer (some ⟨b, 0, none⟩)) KR KR ?_; clear ha a; intro a ha
  refine stepl ha 5 (HW.ca hi) 66 0 (.tmp 4) p rfl KR KR KR ?_; clear ha a; intro a ha
  rcases hp with rfl | rfl
  · refine stepp ha 6 (.bool true) KR KR ?_; clear ha a; intro a ha
    refine endl ?_
    refine thenN (hK _ _ ?_); clear hK
    refine condT ha KR KR (t := true) rfl ?_
    refine wp_region_lit ?_
    refine stepp ha 7 (.pointer (some ⟨b, 0, none⟩)) KR KR ?_; clear ha a; intro a ha
    refine stepp ha 8 (.pointer (some ⟨b, 0, none⟩)) KR KR ?_; clear ha a; intro a ha
    refine stepcv ha 9 66 93 (.tmp 8) (.pointer (some ⟨b, 0, none⟩)) rfl KR (toUnsafe Tryd.prog W b 66 93 68 68 2 hsh KR KR KR rfl) KR ?_; clear ha a; intro a ha
    refine stepp ha 10 (.pointer (some ⟨b, 0, none⟩)) KR ((run_callFunc_extern (e := Extern.AbiNoEscape.same) Tryd.func56 KR KR KR KR _ _).trans KR) ?_; clear ha a; intro a ha
    refine stepcv ha 11 93 66 (.tmp 10) (.pointer (some ⟨b, 0, none⟩)) rfl KR (fromUnsafe Tryd.prog W b 93 66 68 68 2 hsh KR KR KR KR) KR ?_; clear ha a; intro a ha
    refine stepp ha 12 (.pointer (some ⟨b, 0, none⟩)) KR KR ?_; clear ha a; intro a ha
    refine stepp ha 13 (.pointer (some ⟨b, 0, none⟩)) KR KR ?_; clear ha a; intro a ha
    refine stepst ha HW i hi 66 0 (.tmp 13) (.tmp 11) (.pointer (some ⟨b, 0, none⟩)) #[.pointer (some ⟨b, 0, none⟩), v] rfl KR KR KR KR KR KR KR ?_; clear ha HW a; intro a W' HW ha
    refine endl ?_
    exact finv (fn := Tryd.f43) (R := fun e W' => e = .returned (.tuple #[]) ∧ Wd w0 W' _ _) ha [] [] rfl .nil (.tuple #[]) rfl ⟨rfl, HW⟩
  · refine stepp ha 6 (.bool false) KR KR ?_; clear ha a; intro a ha
    refine endl ?_
    refine thenN (hK _ _ ?_); clear hK
    refine condF ha KR KR (t := false) rfl ?_
    refine wp_seq_k (fun K hK => ?_)
    refine wp_region_lit ?_
    refine stepp ha 14 (.pointer (some ⟨b, 0, none⟩)) KR KR ?_; clear ha a; intro a ha
    refine stepp ha 15 (.pointer (some ⟨b, 0, none⟩)) KR KR ?_; clear ha a; intro a ha
    refine stepp ha 16 (.pointer (some ⟨b, 0, none⟩)) KR KR ?_; clear ha a; intro a ha
    refine stepl ha 17 (HW.ca hi) 66 0 (.tmp 16) (.pointer (some ⟨b, 0, none⟩)) rfl KR KR KR ?_; clear ha a; intro a ha
    refine stepp ha 18 (.pointer (some ⟨b, 0, none⟩)) KR KR ?_; clear ha a; intro a ha
    refine stepnp ha 19 66 68 66 (.tmp 17) (.tmp 18) b 0 rfl KR KR KR KR KR ?_; clear ha a; intro a ha
    refine endl ?_
    refine thenN (hK _ _ ?_); clear hK
    refine condF ha KR KR (t := false) rfl ?_
    refine wp_skip ?_
    have hset : bs.set i (b, .cells #[.pointer (some ⟨b, 0, none⟩), v] 68 (0, 0)) = bs := by
      apply List.ext_getElem?
      intro k
      rw [List.getElem?_set]
      split
      · rename_i hk; subst hk; split
        · exact hi.symm
        · rename_i hk; exact (List.getElem?_eq_none (by omega)).symm
      · rfl
    exact finv (fn := Tryd.f43) (R := fun e W' => e = .returned (.tuple #[]) ∧ Wd w0 W' _ _) ha [] [] rfl .nil (.tuple #[]) rfl ⟨rfl, by rw [hset]; exact HW⟩

theorem wb_set {i b : Nat} {o o' : Obj} (hi : bs[i]? = some (b, o)) : (bs.set i (b, o'))[i]? = some (b, o') := by
  have := (List.getElem?_eq_some_iff.1 hi).1
  rw [List.getElem?_set_self this]

/-- A text is written to a builder. -/
theorem wb_write (HW : Wd w0 W bs os) {i j b : Nat} {p v : Value} {s0 : ByteArray} (hi : bs[i]? = some (b, .cells #[p, v] 68 (0, 0))) (hp : p = .pointer none ∨ p = .pointer (some ⟨b, 0, none⟩)) (hj : os[j]? = some ⟨5, 1, v, s0.size, byteCells s0⟩)
    (s : ByteArray) (hb : s0.size + s.size ≤ 140737488355328) :
    Calls Tryd.prog 30 #[.pointer (some ⟨b, 0, none⟩), .string s] W fun e W' => ∃ A c, e = .returned (.tuple #[.int .i64 s.size, .nilIface]) ∧
      Wd w0 W' (bs.set i (b, .cells #[.pointer (some ⟨b, 0, none⟩), .slice A (s0 ++ s).size c] 68 (0, 0))) (os.set j ⟨5, 1, .slice A (s0 ++ s).size c, (s0 ++ s).size, byteCells (s0 ++ s)⟩) := by
  refine sxstart (n := 19) (l := [(0, .pointer (some ⟨b, 0, none⟩)), (1, .string s)]) Tryd.func30 rfl rfl (Nat.le_of_ble_eq_true KR) (subsA_cons rfl (subsA_cons rfl (subsA_nil _))) ?_
  intro a ha
  refine wp_seq_k (fun K hK => ?_)
  refine wp_region_lit ?_
  refine stepp ha 4 (.int .i64 0) KR KR ?_; clear ha a; intro a ha
  refine stepp ha 5 .nilIface KR KR ?_; clear ha a; intro a ha
  refine endl ?_
  refine thenN (hK _ _ ?_); clear hK
  refine wp_seq_k (fun K hK => ?_)
  refine wp_region_lit ?_
  refine stepp ha 6 (.pointer (some ⟨b, 0, none⟩)) KR KR ?_; clear ha a; intro a ha
  refine stepc ha 7 KR KR (wb_check HW hi hp) ?_; clear ha a; rintro e W1 ⟨rfl, HW1⟩
  refine ⟨_, rfl, ?_⟩; intro a ha
  have hi1 := wb_set (o' := .cells #[.pointer (some ⟨b, 0, none⟩), v] 68 (0, 0)) hi
  refine endl ?_
  refine thenN (hK _ _ ?_); clear hK
  refine wp_seq_k (fun K hK => ?_)
  refine wp_region_lit ?_
  refine stepp ha 8 (.pointer (some ⟨b, 0, none⟩)) KR KR ?_; clear ha a; intro a ha
  refine stepp ha 9 (.pointer (some ⟨b, 0, none⟩)) KR KR ?_; clear ha a; intro a ha
  refine stepp ha 10 (.pointer (some ⟨b, 0, none⟩)) KR KR ?_; clear ha a; intro a ha
  refine stepp ha 11 (.pointer (some ⟨b, 1, none⟩)) KR KR ?_; clear ha a; intro a ha
  refine stepl ha 12 (HW1.ca hi1) 40 1 (.tmp 11) v rfl KR KR KR ?_; clear ha a; intro a ha
  refine stepp ha 13 (.string s) KR KR ?_; clear ha a; intro a ha
  refine stepapt ha HW1 14 j 40 9 5 (.tmp 12) (.tmp 13) v s0 s hj rfl KR KR KR KR KR hb KR ?_; clear ha a; intro A c a W2 HW2 ha
  refine stepp ha 15 (.pointer (some ⟨b, 0, none⟩)) KR KR ?_; clear ha a; intro a ha
  refine stepp ha 16 (.pointer (some ⟨b, 1, none⟩)) KR KR ?_; clear ha a; intro a ha
  refine stepst ha HW2 i hi1 40 1 (.tmp 16) (.tmp 14) (.slice A (s0 ++ s).size c) #[.pointer (some ⟨b, 0, none⟩), .slice A (s0 ++ s).size c] rfl KR KR KR KR KR KR KR ?_; clear ha a; intro a W3 HW3 ha
  refine endl ?_
  refine thenN (hK _ _ ?_); clear hK
  refine wp_seq_k (fun K hK => ?_)
  refine wp_region_lit ?_
  refine stepp ha 17 (.string s) KR KR ?_; clear ha a; intro a ha
  refine stepp ha 18 (.int .i64 s.size) KR KR ?_; clear ha a; intro a ha
  refine stepp ha 4 (.int .i64 s.size) KR KR ?_; clear ha a; intro a ha
  refine stepp ha 5 .nilIface KR KR ?_; clear ha a; intro a ha
  refine endl ?_
  refine thenN (hK _ _ ?_); clear hK
  refine wp_ret ?_
  rw [List.set_set] at HW3
  exact finv ha _ _ rfl (.tmp (v := .int .i64 s.size) KR (.tmp (v := .nilIface) KR .nil)) (.tuple #[.int .i64 s.size, .nilIface]) rfl ⟨A, c, rfl, HW3⟩

/-- What a builder has is told: nothing that was made is told any more. -/
theorem wb_string (HW : Wd w0 W bs os) {i j b : Nat} {p v : Value} {s0 : ByteArray} (hi : bs[i]? = some (b, .cells #[p, v] 68 (0, 0))) (hj : os[j]? = some ⟨5, 1, v, s0.size, byteCells s0⟩) :
    Calls Tryd.prog 31 #[.pointer (some ⟨b, 0, none⟩)] W fun e W' => e = .returned (.string s0) ∧ Wd w0 W' [] [] := by
  obtain ⟨A, c, hv⟩ := (HW.rdo hj).shape
  have hv : v = .slice A s0.size c := hv
  subst hv
  -- what unsafe.SliceData may tell
  have hown := HW.own j _ hj
  have key : ∃ f4 : Fact, (∀ W1 : World, Wd w0 W1 bs os → ∃ u W2, (Builtin.unsafeSliceData_ #[40] 81 #[.slice A s0.size c]).run Tryd.prog W1 = .ok u W2 ∧ f4.holds u W2 ∧ Below W1.heap.size W1 W2) ∧
      (∀ (W1 : World) (u : Value), Wd w0 W1 bs os → f4.holds u W1 → ∃ W2, (Builtin.unsafeString_ #[81, 3] 9 #[u, .int .i64 s0.size]).run Tryd.prog W1 = .ok (.string s0) W2 ∧ Below w0.heap.size W1 W2) := by
    have hPU : (Tryd.prog).underlying 81 = some (.pointer 5) := KR
    have hc1 : (Tryd.prog).cellsOf 5 = 1 := KR
    have hemp : s0.size = 0 → s0 = .empty := fun h => by
      apply ByteArray.ext
      apply Array.ext'
      have : s0.data.toList.length = 0 := by rw [Array.length_toList]; exact h
      rw [List.eq_nil_of_length_eq_zero this]
      rfl
    have none_ : ∀ (W1 : World) (p : Option Addr), s0.size = 0 → (Builtin.unsafeString_ #[81, 3] 9 #[.pointer p, .int .i64 s0.size]).run Tryd.prog W1 = .ok (.string s0) W1 := fun W1 p h => by
      have := Lib.run_unsafeString_none (P := Tryd.prog) W1 81 3 9 p
      rw [h, hemp h]
      exact this
    rcases hown.2 with ⟨hv, hn⟩ | ⟨g, cap, cur, fz, hv, hg0, hg, _, hnc, hcm, _, _⟩
    · simp only [Value.slice.injEq] at hv
      obtain ⟨rfl, hz, rfl⟩ := hv
      refine ⟨.fix (.pointer none), fun W1 _ => ⟨_, W1, Lib.run_unsafeSliceData_nil W1 _ _ _ _, rfl, Below.refl _ _⟩, fun W1 u _ hu => ?_⟩
      obtain rfl : u = .pointer none := hu
      exact ⟨W1, none_ W1 none hz, Below.refl _ _⟩
    · simp only [Value.slice.injEq] at hv
      obtain ⟨rfl, _, rfl⟩ := hv
      have at_ : ∀ W1 : World, Wd w0 W1 bs os → ∃ cur1 fz1, W1.heap[g]? = some (.cells cur1 5 fz1) ∧ s0.size ≤ cur1.size ∧ (∀ (j : Nat) (u : Value), (byteCells s0)[j]? = some u → W1.cell? ⟨g, j, none⟩ = some u) := fun W1 h1 => by
        have ho1 := h1.own j _ hj
        have hr1 := h1.rdo hj
        rcases ho1.2 with ⟨hv, _⟩ | ⟨g', cap', cur', fz', hv', _, hg', _, hnc', _, hcs', htk'⟩
        · cases hv
        · simp only [Value.slice.injEq, Option.some.injEq, Addr.mk.injEq, and_true] at hv'
          obtain ⟨rfl, _, rfl⟩ := hv'
          refine ⟨cur', fz', hg', by simp only at hcs' hnc'; omega, fun j u hu => ?_⟩
          rw [cell_of_row W1 g j cur' 5 fz' hg']
          simp only at htk'
          rw [← htk', List.getElem?_take] at hu
          split at hu
          · simpa using hu
          · cases hu
      by_cases hc : c = 0
      · subst hc
        have hz : s0.size = 0 := by simp only at hnc; omega
        refine ⟨.ptr, fun W1 h1 => ?_, fun W1 u _ hu => ?_⟩
        · obtain ⟨cur1, fz1, q1, _⟩ := at_ W1 h1
          exact ⟨_, _, Lib.run_unsafeSliceData_zero W1 _ 81 5 hPU ⟨g, 0, none⟩ s0.size (5, cur1.size) (by simp [World.shape?, q1]), ⟨_, rfl⟩, (Below.refl _ W1).alloc (Nat.le_refl _) _⟩
        · obtain ⟨p, rfl⟩ : ∃ a, u = .pointer a := hu
          exact ⟨W1, none_ W1 p hz, Below.refl _ _⟩
      · refine ⟨.fix (.pointer (some ⟨g, 0, none⟩)), fun W1 _ => ⟨_, W1, Lib.run_unsafeSliceData_row W1 _ _ ⟨g, 0, none⟩ _ c hc, rfl, Below.refl _ _⟩, fun W1 u h1 hu => ?_⟩
        obtain rfl : u = .pointer (some ⟨g, 0, none⟩) := hu
        by_cases hz : s0.size = 0
        · exact ⟨W1, none_ W1 _ hz, Below.refl _ _⟩
        · obtain ⟨cur1, fz1, q1, q2, q3⟩ := at_ W1 h1
          have hl : s0.data.toList.length = s0.size := Array.length_toList
          have hrun := Lib.run_unsafeString_row (P := Tryd.prog) W1 81 3 9 5 hPU hc1 g cur1.size (by simp [World.shape?, q1]) s0.data.toList (fun e => hz (by rw [← hl, e]; rfl)) (by omega) (by simp only [maxLen] at hcm hnc; omega) (fun j x hx => by
            rw [Addr.add_lit, Nat.zero_add]
            exact q3 j _ (by unfold byteCells; rw [List.getElem?_map, hx]; rfl))
          rw [hl] at hrun
          have e0 : (⟨s0.data.toList.toArray⟩ : ByteArray) = s0 := by rw [Array.toArray_toList]
          rw [e0] at hrun
          exact ⟨_, hrun, Lib.below_freeze (Below.refl _ W1) hg0 _⟩
  obtain ⟨f4, h4, h10⟩ := key
  refine sxstart (n := 14) (l := [(0, .pointer (some ⟨b, 0, none⟩))]) Tryd.func31 rfl rfl (Nat.le_of_ble_eq_true KR) (subsA_cons rfl (subsA_nil _)) ?_
  intro a ha
  refine wp_seq_k (fun K hK => ?_)
  refine wp_region_lit ?_
  refine stepp ha 2 (.string ⟨#[]⟩) KR KR ?_; clear ha a; intro a ha
  refine endl ?_
  refine thenN (hK _ _ ?_); clear hK
  refine wp_seq_k (fun K hK => ?_)
  refine regionGT 10 KR KR ha HW [.fix (.pointer (some ⟨b, 0, none⟩)), .fix (.pointer (some ⟨b, 0, none⟩)), .fix (.pointer (some ⟨b, 1, none⟩)), .fix (.slice A s0.size c), f4, .fix (.pointer (some ⟨b, 0, none⟩)), .fix (.pointer (some ⟨b, 0, none⟩)), .fix (.pointer (some ⟨b, 1, none⟩)), .fix (.slice A s0.size c), .fix (.int .i64 s0.size)] ?_ ?_
  · refine ⟨?_, ?_, ?_, ?_, ?_, ?_, ?_, ?_, ?_, ?_, trivial⟩
    · intro a wr hn hd HW hs; have ha := hasNil hn hd
      have ha := ha.add (seeE hs 0 (.pointer (some ⟨b, 0, none⟩)) KR KR)
      refine yStep ha 3 KR ?_; intro l_ ha HK
      refine stepp ha 3 (.pointer (some ⟨b, 0, none⟩)) KR KR ?_; intro ax hax; exact HK _ _ _ hax rfl (Below.refl _ _)
    · intro a wr hn hd HW hs; have ha := hasNil hn hd
      have ha := ha.add (seeF hs 3 0 (.pointer (some ⟨b, 0, none⟩)) KR KR)
      refine yStep ha 4 KR ?_; intro l_ ha HK
      refine stepp ha 4 (.pointer (some ⟨b, 0, none⟩)) KR KR ?_; intro ax hax; exact HK _ _ _ hax rfl (Below.refl _ _)
    · intro a wr hn hd HW hs; have ha := hasNil hn hd
      have ha := ha.add (seeF hs 4 1 (.pointer (some ⟨b, 0, none⟩)) KR KR)
      refine yStep ha 5 KR ?_; intro l_ ha HK
      refine stepp ha 5 (.pointer (some ⟨b, 1, none⟩)) KR KR ?_; intro ax hax; exact HK _ _ _ hax rfl (Below.refl _ _)
    · intro a wr hn hd HW hs; have ha := hasNil hn hd
      have ha := ha.add (seeF hs 5 2 (.pointer (some ⟨b, 1, none⟩)) KR KR)
      refine yStep ha 6 KR ?_; intro l_ ha HK
      refine stepl ha 6 (HW.ca hi) 40 1 (.tmp 5) (.slice A s0.size c) rfl KR KR KR ?_; intro ax hax; exact HK _ _ _ hax rfl (Below.refl _ _)
    · intro a wr hn hd HW hs; have ha := hasNil hn hd
      have ha := ha.add (seeF hs 6 3 (.slice A s0.size c) KR KR)
      refine yStep ha 7 KR ?_; intro l_ ha HK
      obtain ⟨u, W2, q1, q2, q3⟩ := h4 _ HW
      exact stepbi ha 7 .unsafeSliceData #[40] #[.tmp 6] (vs := #[.slice A s0.size c]) rfl KR (fun _ => runv q1) KR (fun ax hax => HK _ _ _ hax q2 q3)
    · intro a wr hn hd HW hs; have ha := hasNil hn hd
      have ha := ha.add (seeE hs 0 (.pointer (some ⟨b, 0, none⟩)) KR KR)
      refine yStep ha 8 KR ?_; intro l_ ha HK
      refine stepp ha 8 (.pointer (some ⟨b, 0, none⟩)) KR KR ?_; intro ax hax; exact HK _ _ _ hax rfl (Below.refl _ _)
    · intro a wr hn hd HW hs; have ha := hasNil hn hd
      have ha := ha.add (seeF hs 8 5 (.pointer (some ⟨b, 0, none⟩)) KR KR)
      refine yStep ha 9 KR ?_; intro l_ ha HK
      refine stepp ha 9 (.pointer (some ⟨b, 0, none⟩)) KR KR ?_; intro ax hax; exact HK _ _ _ hax rfl (Below.refl _ _)
    · intro a wr hn hd HW hs; have ha := hasNil hn hd
      have ha := ha.add (seeF hs 9 6 (.pointer (some ⟨b, 0, none⟩)) KR KR)
      refine yStep ha 10 KR ?_; intro l_ ha HK
      refine stepp ha 10 (.pointer (some ⟨b, 1, none⟩)) KR KR ?_; intro ax hax; exact HK _ _ _ hax rfl (Below.refl _ _)
    · intro a wr hn hd HW hs; have ha := hasNil hn hd
      have ha := ha.add (seeF hs 10 7 (.pointer (some ⟨b, 1, none⟩)) KR KR)
      refine yStep ha 11 KR ?_; intro l_ ha HK
      refine stepl ha 11 (HW.ca hi) 40 1 (.tmp 10) (.slice A s0.size c) rfl KR KR KR ?_; intro ax hax; exact HK _ _ _ hax rfl (Below.refl _ _)
    · intro a wr hn hd HW hs; have ha := hasNil hn hd
      have ha := ha.add (seeF hs 11 8 (.slice A s0.size c) KR KR)
      refine yStep ha 12 KR ?_; intro l_ ha HK
      refine stepp ha 12 (.int .i64 s0.size) KR KR ?_; intro ax hax; exact HK _ _ _ hax rfl (Below.refl _ _)
  · intro a W3 ha HW he hf
    obtain ⟨u, hu, hf4⟩ := gotK (m := 10) (j := 4) (d := 7) (f := f4) hf KR KR KR
    replace ha := ha.add hu
    replace ha := ha.add (gotF (m := 10) (j := 9) (d := 12) (v := .int .i64 s0.size) hf KR KR KR)
    clear he hf
    obtain ⟨W4, q1, q2⟩ := h10 _ _ HW hf4
    refine stepbi ha 13 .unsafeString #[81, 3] #[.tmp 7, .tmp 12] (vs := #[u, .int .i64 s0.size]) rfl KR (fun _ => runv q1) KR ?_; clear ha hu a; intro a ha
    refine stepp ha 2 (.string s0) KR KR ?_; clear ha a; intro a ha
    refine endl ?_
    refine thenN (hK _ _ ?_); clear hK
    refine wp_ret ?_
    exact finv ha _ _ rfl (.tmp (v := .string s0) KR .nil) (.string s0) rfl ⟨rfl, HW.below.trans q2, fun _ _ h => by simp at h, fun _ _ h => by simp at h, fun _ _ _ _ h => by simp at h, fun _ _ _ _ h => by simp at h, fun _ _ _ _ h => by simp at h⟩
end
end Go.Proofs.YtdcojinnjpihaaaDoor.X
