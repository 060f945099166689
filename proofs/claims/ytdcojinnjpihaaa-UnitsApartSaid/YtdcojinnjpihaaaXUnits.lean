/- What waits for hosts (package units), as a segment of the told world. No condition. -/
import Derived.Test.YtdcojinnjpihaaaXObj
import Derived.Test.YtdcojinnjpihaaaXMapW
import Derived.Test.YtdcojinnjpihaaaXEq
import Derived.Test.YtdcojinnjpihaaaProg
namespace Go.Proofs.Ytdcojinnjpihaaa.X
open Go Go.RowKit
set_option linter.unusedVariables false
set_option linter.unusedSimpArgs false

abbrev UKey := Int × ByteArray
abbrev UMap := Option (List (UKey × List Int))
def encK (k : UKey) : Value := .agg #[.int .i64 k.1, .string k.2]

theorem heqK (a b : UKey) (W : World) : (Op.equal 51 (encK a) (encK b)).run Try.prog W = .ok (decide (a = b)) W := by
  have h := run_equal_flat (P := Try.prog) W 51 #[.int .i64 a.1, .string a.2] #[.int .i64 b.1, .string b.2] (a.1 == b.1 && (a.2.toList == b.2.toList && true)) (by kernel_rfl) (by kernel_rfl) KR
  have e : (a.1 == b.1 && (a.2.toList == b.2.toList && true)) = decide (a = b) := by
    obtain ⟨a1, a2⟩ := a
    obtain ⟨b1, b2⟩ := b
    simp only [Prod.mk.injEq, Bool.and_true]
    by_cases h1 : a1 = b1
    · by_cases h2 : a2 = b2
      · have := str_eq_t h2
        simp [h1, h2]
      · have := str_eq_f h2
        simp only [h1, h2, this]
        simp
    · simp [h1]
  rw [← e]
  exact h

theorem hckK (em : Bool) (k : UKey) (W : World) : (Instr.checkKey em 10000 51 (encK k)).run Try.prog W = .ok () W := by kernel_rfl
theorem hsbK (k : UKey) : Instr.sameBits 10000 (encK k) (encK k) = true := by
  obtain ⟨l, h⟩ := k
  simp [encK, Instr.sameBits]
  cases h
  exact beq_self_eq_true (α := Array UInt8) _
theorem hzK (W : World) : (zeroValue 34).run Try.prog W = .ok (.slice none 0 0) W := by kernel_rfl

/-- A value of the map: a list that stands in the pool. -/
def UVal (w0 : World) (F : Blks) (v : Value) (x : List Int) : Prop := ∃ A c, v = .slice A x.length c ∧ RdF w0 F 1 v x.length (encs (encIK .i64) x)
def UEnt (w0 : World) (F : Blks) (p : UKey × Value) (q : UKey × List Int) : Prop := p.1 = q.1 ∧ UVal w0 F p.2 q.2

def UAt (w0 : World) (F : Blks) (u : Nat) (m : UMap) (U : Blks) : Prop := match m with
  | none => U = [(u, .cells #[.map none] 49 (0, 0))]
  | some m => ∃ mb es cl vs, U = [(u, .cells #[.map (some mb)] 49 (0, 0)), (mb, .map es cl)] ∧ EntE encK es.toList vs ∧ F2 (UEnt w0 F) vs m

theorem UVal.mono {w0 : World} {F F' : Blks} {v : Value} {x : List Int} (h : UVal w0 F v x) (hs : ∀ p ∈ F, p ∈ F') : UVal w0 F' v x := by
  obtain ⟨A, c, h1, h2⟩ := h
  exact ⟨A, c, h1, h2.mono hs⟩

theorem UAt.mono {w0 : World} {F F' : Blks} {u : Nat} {m : UMap} {U : Blks} (h : UAt w0 F u m U) (hs : ∀ p ∈ F, p ∈ F') : UAt w0 F' u m U := by
  cases m with
  | none => exact h
  | some m =>
    obtain ⟨mb, es, cl, vs, h1, h2, h3⟩ := h
    exact ⟨mb, es, cl, vs, h1, h2, F2.mono (fun a b h => ⟨h.1, h.2.mono hs⟩) h3⟩

def uget (m : UMap) (k : UKey) : List Int := match m with
  | none => []
  | some m => ((findE k m 0).map (·.2)).getD []

theorem find_rel {w0 : World} {F : Blks} (k : UKey) : ∀ (vs : List (UKey × Value)) (m : List (UKey × List Int)) (i : Nat), F2 (UEnt w0 F) vs m →
    (findE k vs i = none ∧ findE k m i = none) ∨ ∃ j v x, findE k vs i = some (j, v) ∧ findE k m i = some (j, x) ∧ UVal w0 F v x
  | _, _, i, .nil => .inl ⟨rfl, rfl⟩
  | p :: vs, q :: m, i, .cons h1 h2 => by
    unfold findE
    rw [h1.1]
    by_cases hk : k = q.1
    · rw [if_pos hk, if_pos hk]
      exact .inr ⟨i, p.2, q.2, rfl, rfl, h1.2⟩
    · rw [if_neg hk, if_neg hk]
      exact find_rel k vs m (i + 1) h2

theorem put_rel {w0 : World} {F : Blks} {v : Value} {x : List Int} (k : UKey) (hv : UVal w0 F v x) {vs : List (UKey × Value)} {m : List (UKey × List Int)} (h : F2 (UEnt w0 F) vs m) : F2 (UEnt w0 F) (putE k v vs) (putE k x m) := by
  unfold putE
  rcases find_rel k vs m 0 h with ⟨h1, h2⟩ | ⟨j, v', x', h1, h2, _⟩
  · rw [h1, h2]
    exact F2.append (F2.one ⟨rfl, hv⟩) h
  · rw [h1, h2]
    exact F2.set ⟨rfl, hv⟩ j h

theorem del_rel {w0 : World} {F : Blks} (k : UKey) {vs : List (UKey × Value)} {m : List (UKey × List Int)} (h : F2 (UEnt w0 F) vs m) : F2 (UEnt w0 F) (delE k vs) (delE k m) := by
  unfold delE
  rcases find_rel k vs m 0 h with ⟨h1, h2⟩ | ⟨j, v', x', h1, h2, _⟩
  · rw [h1, h2]
    exact h
  · rw [h1, h2]
    exact F2.eraseIdx j h

theorem uval_nil (w0 : World) (F : Blks) : UVal w0 F (.slice none 0 0) [] := ⟨none, 0, rfl, RdF.nil⟩

/-- The value of the field. -/
def umv (U : Blks) : Value := match U with
  | (_, .cells C _ _) :: _ => C.getD 0 undef
  | _ => undef

theorem UAt.head {w0 : World} {F : Blks} {u : Nat} {m : UMap} {U : Blks} (h : UAt w0 F u m U) : ∃ r, U = (u, .cells #[umv U] 49 (0, 0)) :: r := by
  cases m with
  | none => exact ⟨[], by rw [show U = _ from h]; rfl⟩
  | some m =>
    obtain ⟨mb, es, cl, vs, rfl, _, _⟩ := h
    exact ⟨_, rfl⟩

/-- What is found. -/
theorem ulookup {w0 W : World} {F bs : Blks} {os : List OwnA} {u : Nat} {m : UMap} {U : Blks} (h : UAt w0 F u m U) (HW : Wd w0 W (U ++ bs) os) (k : UKey) :
    ∃ v, (Instr.lookup 47 (umv U) (encK k) false).run Try.prog W = .ok v W ∧ UVal w0 F v (uget m k) := by
  cases m with
  | none =>
    rw [show U = _ from h]
    refine ⟨_, lookup_run (P := Try.prog) (W := W) (t := 47) (x := .map none) (m := []) (by kernel_rfl) Try.underlying51 trivial heqK k (fun em => hckK em k W) (hzK W) (.inl ⟨rfl, rfl⟩), uval_nil _ _⟩
  | some m =>
    obtain ⟨mb, es, cl, vs, rfl, h1, h2⟩ := h
    have hb := (HW.blk 1 (mb, .map es cl) rfl).2
    refine ⟨_, lookup_run (P := Try.prog) (W := W) (t := 47) (x := .map (some mb)) (m := vs) (by kernel_rfl) Try.underlying51 trivial heqK k (fun em => hckK em k W) (hzK W) (.inr ⟨mb, es, cl, rfl, hb, h1⟩), ?_⟩
    show UVal w0 F _ (((findE k m 0).map (·.2)).getD [])
    rcases find_rel k vs m 0 h2 with ⟨e1, e2⟩ | ⟨j, v', x', e1, e2, e3⟩
    · rw [e1, e2]
      exact uval_nil _ _
    · rw [e1, e2]
      exact e3

theorem uat_new {w0 W : World} {F bs : Blks} {os : List OwnA} {u : Nat} (h : Wd w0 W ([(u, .cells #[.map none] 49 (0, 0))] ++ bs) os) : ∃ U, UAt w0 F u none U ∧ Wd w0 W (U ++ bs) os := ⟨_, rfl, h⟩

def udel (m : UMap) (k : UKey) : UMap := m.map (delE k)
def uput (m : UMap) (k : UKey) (x : List Int) : UMap := m.map (putE k x)

section
variable {n : Nat} {l : List (Nat × Value)} {a : Act} {ops : Array Oper} {o : Oper} {rest : List Oper} {Q : Exit → Act → World → Prop} {w0 W : World} {F bs : Blks} {os : List OwnA} {u : Nat} {m : UMap} {U : Blks}
/-- The field is read. -/
theorem stepul (ha : Has n l a) (hU : UAt w0 F u m U) (HW : Wd w0 W (U ++ bs) os) (d : Nat) (x : Operand) (ho : o.op = .load 47 x) (hp : ev l x = .pointer (some ⟨u, 0, none⟩)) (hok : okB n l ops o d = true)
    (h : ∀ a', Has n ((d, umv U) :: l) a' → wpList Try.prog ops Q rest a' W) : wpList Try.prog ops Q (o :: rest) a W := by
  obtain ⟨r, hr⟩ := hU.head
  have HW' : Wd w0 W ((u, .cells #[umv U] 49 (0, 0)) :: (r ++ bs)) os := by rw [hr] at HW; exact HW
  exact stepl ha d (HW'.ca (i := 0) (b := u) (C := #[umv U]) (T := 49) (fr := (0, 0)) rfl) 47 0 x (umv U) ho hp KR hok h

/-- A key is looked up. -/
theorem stepuk (ha : Has n l a) (hU : UAt w0 F u m U) (HW : Wd w0 W (U ++ bs) os) (d : Nat) (x y : Operand) (k : UKey) (ho : o.op = .lookup 47 x y false) (hx : ev l x = umv U) (hy : ev l y = encK k) (hok : okB n l ops o d = true)
    (h : ∀ A c a', RdF w0 F 1 (.slice A (uget m k).length c) (uget m k).length (encs (encIK .i64) (uget m k)) → Has n ((d, .slice A (uget m k).length c) :: l) a' → wpList Try.prog ops Q rest a' W) : wpList Try.prog ops Q (o :: rest) a W := by
  obtain ⟨v, hv, A, c, rfl, hr⟩ := ulookup hU HW k
  refine stepv (W' := W) ha d _ hok ?_ fun a' ha' => h A c a' hr ha'
  unfold execOp
  simp only [ho, hx, hy, Sem.run_bind, hv, Result.andThen_ok, Sem.run_pure]

theorem umv_none (hU : UAt w0 F u m U) : umv U = .map none ∧ m.isNone = true ∨ (∃ mb, umv U = .map (some mb)) ∧ m.isNone = false := by
  cases m with
  | none =>
    rw [show U = _ from hU]
    exact .inl ⟨rfl, rfl⟩
  | some m =>
    obtain ⟨mb, es, cl, vs, rfl, _, _⟩ := hU
    exact .inr ⟨⟨mb, rfl⟩, rfl⟩

/-- Is there a map? -/
theorem stepun (ha : Has n l a) (hU : UAt w0 F u m U) (d t : Nat) (x : Operand) (ho : o.op = .binOp .eql 47 x (.const (.map none)) t) (hx : ev l x = umv U) (hok : okB n l ops o d = true)
    (h : ∀ a', Has n ((d, .bool m.isNone) :: l) a' → wpList Try.prog ops Q rest a' W) : wpList Try.prog ops Q (o :: rest) a W := by
  rcases umv_none hU with ⟨h1, h2⟩ | ⟨⟨mb, h1⟩, h2⟩
  · rw [h2] at h
    refine stepv (W' := W) ha d _ hok ?_ h
    unfold execOp
    simp only [ho, hx, h1]
    kernel_rfl
  · rw [h2] at h
    refine stepv (W' := W) ha d _ hok ?_ h
    unfold execOp
    simp only [ho, hx, h1]
    kernel_rfl

/-- A new map. -/
theorem stepum (ha : Has n l a) (HW : Wd w0 W bs os) (d : Nat) (ho : o.op = .makeMap 47 none) (hok : okB n l ops o d = true)
    (h : ∀ b a' W', Wd w0 W' ((b, .map #[] 0) :: bs) os → Has n ((d, .map (some b)) :: l) a' → wpList Try.prog ops Q rest a' W') : wpList Try.prog ops Q (o :: rest) a W := by
  refine stepv (W' := W.alloc (.map #[] 0)) ha d (.map (some W.heap.size)) hok ?_ fun a' ha' => h _ a' _ (HW.alloc _) ha'
  unfold execOp
  simp only [ho]
  kernel_rfl

/-- It becomes the field's. -/
theorem stepus (ha : Has n l a) {b : Nat} (hU : UAt w0 F u m U) (hm : m.isNone = true) (HW : Wd w0 W ((b, .map #[] 0) :: (U ++ bs)) os) (x y : Operand) (ho : o.op = .store 47 x y) (hp : ev l x = .pointer (some ⟨u, 0, none⟩)) (hy : ev l y = .map (some b)) (hok : okS l ops o = true)
    (h : ∀ U' a' W', UAt w0 F u (some []) U' → Wd w0 W' (U' ++ bs) os → Has n l a' → wpList Try.prog ops Q rest a' W') : wpList Try.prog ops Q (o :: rest) a W := by
  cases m with
  | some m => cases hm
  | none =>
    rw [show U = _ from hU] at HW
    have HW' : Wd w0 W [(b, .map #[] 0), (u, .cells #[.map none] 49 (0, 0))] [] := HW.less (show List.Sublist _ ([(b, .map #[] 0), (u, .cells #[.map none] 49 (0, 0))] ++ bs) from List.sublist_append_left _ _) (List.nil_sublist _)
    refine stepst ha HW 1 (b := u) (C := #[.map none]) (T := 49) KR 47 0 x y (.map (some b)) #[.map (some b)] ho hp hy KR KR KR KR hok fun a' W' HW ha' => ?_
    refine h [(u, .cells #[.map (some b)] 49 (0, 0)), (b, .map #[] 0)] a' W' ⟨b, #[], 0, [], rfl, rfl, .nil⟩ ?_ ha'
    have HW2 : Wd w0 W' ((b, .map #[] 0) :: (u, .cells #[.map (some b)] 49 (0, 0)) :: bs) os := HW
    exact HW2.perm (List.Perm.swap _ _ _) (List.Perm.refl _)

/-- A key's value is put. -/
theorem stepuu (ha : Has n l a) (hU : UAt w0 F u m U) (hm : m.isSome = true) (HW : Wd w0 W (U ++ bs) os) (x y z : Operand) (k : UKey) (A : Option Addr) (c : Nat) (xs : List Int) (ho : o.op = .mapUpdate 47 x y z) (hx : ev l x = umv U) (hy : ev l y = encK k) (hz : ev l z = .slice A xs.length c)
    (hr : RdF w0 F 1 (.slice A xs.length c) xs.length (encs (encIK .i64) xs)) (hok : okS l ops o = true)
    (h : ∀ U' a' W', UAt w0 F u (uput m k xs) U' → Wd w0 W' (U' ++ bs) os → Has n l a' → wpList Try.prog ops Q rest a' W') : wpList Try.prog ops Q (o :: rest) a W := by
  cases m with
  | none => cases hm
  | some m =>
    obtain ⟨mb, es, cl, vs, rfl, h1, h2⟩ := hU
    refine stepmu (kt := 51) ha HW 1 (b := mb) (es := es) (cl := cl) rfl 47 34 x y z k (.slice A xs.length c) ho hx hy hz (by kernel_rfl) Try.underlying51 trivial heqK (hckK false k W) (hsbK k) h1 hok fun es' cl' a' W' he HW' ha' => ?_
    exact h [(u, .cells #[.map (some mb)] 49 (0, 0)), (mb, .map es' cl')] a' W' ⟨mb, es', cl', putE k (.slice A xs.length c) vs, rfl, he, put_rel k ⟨A, c, rfl, hr⟩ h2⟩ HW' ha'

/-- A key is let go. -/
theorem udelete (hU : UAt w0 F u m U) (HW : Wd w0 W (U ++ bs) os) (k : UKey) (ty : Nat) :
    ∃ U' W', (Builtin.delete_ #[47, 51] ty #[umv U, encK k]).run Try.prog W = .ok (.tuple #[]) W' ∧ UAt w0 F u (udel m k) U' ∧ Wd w0 W' (U' ++ bs) os := by
  cases m with
  | none =>
    rw [show U = _ from hU] at HW ⊢
    exact ⟨_, W, delete_nil (kt := 51) (et := 34) (by kernel_rfl) k (hckK true k W), rfl, HW⟩
  | some m =>
    obtain ⟨mb, es, cl, vs, rfl, h1, h2⟩ := hU
    have hb := (HW.blk 1 (mb, .map es cl) rfl).2
    obtain ⟨es', cl', hr, he⟩ := delete_run (P := Try.prog) (W := W) (t := 47) (kt2 := 51) (ty := ty) (kt := 51) (et := 34) (by kernel_rfl) Try.underlying51 trivial heqK k (fun em => hckK em k W) hb h1
    exact ⟨[(u, .cells #[.map (some mb)] 49 (0, 0)), (mb, .map es' cl')], _, hr, ⟨mb, es', cl', delE k vs, rfl, he, del_rel k h2⟩, HW.putMap (i := 1) rfl _⟩

theorem stepud (ha : Has n l a) (hU : UAt w0 F u m U) (HW : Wd w0 W (U ++ bs) os) (x y : Operand) (k : UKey) (ho : o.op = .call { callee := .builtin .delete, args := #[x, y], argTypes := #[47, 51] }) (hx : ev l x = umv U) (hy : ev l y = encK k) (hok : okS l ops o = true)
    (h : ∀ U' a' W', UAt w0 F u (udel m k) U' → Wd w0 W' (U' ++ bs) os → Has n l a' → wpList Try.prog ops Q rest a' W') : wpList Try.prog ops Q (o :: rest) a W := by
  obtain ⟨U', W', hr, h1, h2⟩ := udelete hU HW k o.type
  simp only [okS, Bool.and_eq_true, Option.isNone_iff_eq_none] at hok
  obtain ⟨⟨k1, k2⟩, k3⟩ := hok
  unfold wpList
  rw [if_pos (ha.on ops o k2)]
  refine .inl ?_
  unfold Oper.wp
  have hx' : (execOp (ev l) o).run Try.prog W = .ok (.value (.tuple #[])) W' := by
    unfold execOp
    simp only [ho, resolve, invoke, builtin, Sem.run_bind, Sem.run_pure, Result.andThen_ok, List.map_toArray, List.map_cons, List.map_nil, hx, hy, hr]
  rw [exec_eq ha o k1, hx', Oper.upon_value, k3]
  exact h U' _ W' h1 h2 ha
end
end Go.Proofs.Ytdcojinnjpihaaa.X
