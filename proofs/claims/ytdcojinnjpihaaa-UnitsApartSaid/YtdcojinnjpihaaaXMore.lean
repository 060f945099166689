/- The walker's small words: ends, results, arrays, shifts. No condition. -/
import Derived.Test.YtdcojinnjpihaaaXOps
namespace Go.Proofs.Ytdcojinnjpihaaa.X
open Go Go.RowKit
set_option linter.unusedVariables false
set_option linter.unusedSimpArgs false

theorem none_some {α : Type} {r : α} (h : (none : Option α) = some r) : False := by cases h
theorem Rd.nil (sz : Nat) (W : World) : Rd sz W (.slice none 0 0) 0 [] := ⟨by simp, .inl ⟨rfl, rfl⟩⟩

theorem subsA_nil (A : Array Value) : ∀ p, p ∈ ([] : List (Nat × Value)) → A[p.1]? = some p.2 := fun p h => by cases h
theorem subsA_cons {A : Array Value} {r : List (Nat × Value)} {i : Nat} {v : Value} (h : A[i]? = some v) (hr : ∀ p, p ∈ r → A[p.1]? = some p.2) : ∀ p, p ∈ (i, v) :: r → A[p.1]? = some p.2 := by
  intro p hp
  rcases List.mem_cons.mp hp with e | e
  · subst e; exact h
  · exact hr p e

def band (k : IntKind) (x y : Int) : Int := k.wrap ((BitVec.ofInt k.bits x &&& BitVec.ofInt k.bits y).toNat)
def bor (k : IntKind) (x y : Int) : Int := k.wrap ((BitVec.ofInt k.bits x ||| BitVec.ofInt k.bits y).toNat)
def bxor (k : IntKind) (x y : Int) : Int := k.wrap ((BitVec.ofInt k.bits x ^^^ BitVec.ofInt k.bits y).toNat)
def bandNot (k : IntKind) (x y : Int) : Int := k.wrap ((BitVec.ofInt k.bits x &&& ~~~ BitVec.ofInt k.bits y).toNat)
def sshl (k : IntKind) (x y : Int) : Int := k.wrap (x * 2 ^ (min y.toNat k.bits))
def sshr (k : IntKind) (x y : Int) : Int := x.fdiv (2 ^ (min y.toNat k.bits))
def mn (x y : Int) : Int := if y < x then y else x
def mx (x y : Int) : Int := if x < y then y else x

/-- A pointer that is handed back: nil, or to a new block. -/
def pv {α : Type} : Option α → Nat → Value
  | none, _ => .pointer none
  | some _, b => .pointer (some ⟨b, 0, none⟩)
def pb {α : Type} (enc : α → List Value) (t : Nat) : Option α → Nat → List (Nat × Obj)
  | none, _ => []
  | some x, b => [(b, .cells (enc x).toArray t (0, 0))]
def optc {α β : Type} (t : Option α) (x : Option β) (y : α → Option β) : Option β :=
  match t with
  | none => x
  | some z => y z
theorem optc_n {α β : Type} {x : Option β} {y : α → Option β} {r : β} (h : optc none x y = some r) : x = some r := h
theorem optc_s {α β : Type} {x : Option β} {y : α → Option β} {z : α} {r : β} (h : optc (some z) x y = some r) : y z = some r := h
theorem roundk {P : Program} {c : Code} {Q : Exit → Act → World → Prop} {n : Nat} {a : Act} {w : World} (h : c.wp P (Exit.then (Code.rounds P c Q n) Q) a w) : Code.rounds P c Q (n + 1) a w := h
theorem stepbk {P : Program} {n : Nat} {l : List (Nat × Value)} {o : Oper} {ops : Array Oper} {rest : List Oper} {Q : Exit → Act → World → Prop} {a : Act} {w0 W : World} {bs : List (Nat × Obj)} {os : List OwnA}
    (ha : Has n l a) (HW : Wd w0 W bs os) (d e len : Nat) (C : Array Value) (hok : okB n l ops o d = true)
    (hx : (execOp (ev l) o).run P W = .ok (.value (.slice (some ⟨W.heap.size, 0, none⟩) len len)) (W.alloc (.cells C e)))
    (h : ∀ b a' W', Wd w0 W' ((b, .cells C e (0, 0)) :: bs) os → Has n ((d, .slice (some ⟨b, 0, none⟩) len len) :: l) a' → wpList P ops Q rest a' W') : wpList P ops Q (o :: rest) a W :=
  stepv ha d _ hok hx fun a' ha' => h _ a' _ (HW.alloc _) ha'

section
variable {Q : Exit → Act → World → Prop} {K : Act → World → Prop} {a : Act} {W : World}
theorem thenN (h : K a W) : Exit.then K Q .normal a W := h
theorem thenE {i : Nat} (h : Q (.exit i) a W) : Exit.then K Q (.exit i) a W := h
theorem thenR (h : Q .ret a W) : Exit.then K Q .ret a W := h
theorem blkN {id : Nat} (h : Q .normal a W) : Exit.inBlock id Q .normal a W := h
theorem blkR {id : Nat} (h : Q .ret a W) : Exit.inBlock id Q .ret a W := h
end

section
variable {P : Program} {n : Nat} {l : List (Nat × Value)} {a : Act} {ops : Array Oper} {o : Oper} {rest : List Oper} {Q : Exit → Act → World → Prop} {w0 W : World} {bs : List (Nat × Obj)} {os : List OwnA}

/-- An operation that yields a value and leaves the world alone. -/
theorem stepp (ha : Has n l a) (d : Nat) (v : Value) (hok : okB n l ops o d = true) (hx : (execOp (ev l) o).run P W = .ok (.value v) W)
    (h : ∀ a', Has n ((d, v) :: l) a' → wpList P ops Q rest a' W) : wpList P ops Q (o :: rest) a W := stepv ha d v hok hx h

/-- An element of an array, elements of one cell. -/
theorem stepai {α : Type} (f : α → Value) (dfl : α) (ha : Has n l a) (d t len e : Nat) (x i : Operand) (k : IntKind) (j : Int) (xs : List α) (ho : o.op = .index t x i) (hx : ev l x = .agg (xs.map f).toArray) (hi : ev l i = .int k j)
    (ht : P.underlying t = some (.array len e)) (hn : ((P.underlying e).map aggD, (P.info? e).map (·.size), xs.length) = (some false, some 1, len)) (h0 : 0 ≤ j) (h1 : j < len) (hok : okB n l ops o d = true)
    (h : ∀ a', Has n ((d, f (rdL dfl xs j)) :: l) a' → wpList P ops Q rest a' W) : wpList P ops Q (o :: rest) a W := by
  refine stepv (W' := W) ha d _ hok ?_ h
  simp only [Prod.mk.injEq] at hn
  obtain ⟨he, hs, hl⟩ := hn
  cases hu : P.underlying e with
  | none => simp [hu] at he
  | some de =>
    have he' : aggD de = false := by simpa [hu] using he
    cases hie : P.info? e with
    | none => simp [hie] at hs
    | some ie =>
      have hs' : ie.size = 1 := by simpa [hie] using hs
      have hj : j.toNat < xs.length := by omega
      have hget : ((xs.map f).toArray)[j.toNat * 1]? = some (f (rdL dfl xs j)) := by
        rw [Nat.mul_one, List.getElem?_toArray, List.getElem?_map, List.getElem?_eq_getElem hj]
        simp only [Option.map_some, rdL, List.getD_eq_getElem?_getD, List.getElem?_eq_getElem hj, Option.getD_some]
      have hcond : 0 ≤ j ∧ j < (len : Int) := ⟨h0, h1⟩
      unfold execOp
      simp only [ho, hx, hi, Instr.index, asIntOf, Sem.run_bind, Sem.run_pure, Result.andThen_ok, run_underlying ht, if_pos hcond, sizeOf, typeInfo, run_program, hie, hs', part, run_isAgg hu, he', hget, Bool.false_eq_true, if_false]

/-- An element of an array, elements of several cells. -/
theorem stepag {α : Type} (enc : α → List Value) (dfl : α) (ha : Has n l a) (d t len e : Nat) (x i : Operand) (k : IntKind) (j : Int) (xs : List α) (v : Value) (ho : o.op = .index t x i) (hx : ev l x = .agg (encs enc xs).toArray) (hi : ev l i = .int k j)
    (ht : P.underlying t = some (.array len e)) (hn : ((P.underlying e).map aggD, (P.info? e).map (·.size), xs.length) = (some true, some (enc dfl).length, len)) (hsz : ∀ x, (enc x).length = (enc dfl).length) (h0 : 0 ≤ j) (h1 : j < len) (hok : okB n l ops o d = true)
    (hv : .agg (enc (rdL dfl xs j)).toArray = v)
    (h : ∀ a', Has n ((d, v) :: l) a' → wpList P ops Q rest a' W) : wpList P ops Q (o :: rest) a W := by
  refine stepv (W' := W) ha d _ hok ?_ h
  simp only [Prod.mk.injEq] at hn
  obtain ⟨he, hs, hl⟩ := hn
  cases hu : P.underlying e with
  | none => simp [hu] at he
  | some de =>
    have he' : aggD de = true := by simpa [hu] using he
    cases hie : P.info? e with
    | none => simp [hie] at hs
    | some ie =>
      have hs' : ie.size = (enc dfl).length := by simpa [hie] using hs
      have hj : j.toNat < xs.length := by omega
      have hA : (encs enc (xs.take j.toNat)).length = j.toNat * (enc dfl).length := by rw [encs_length hsz, List.length_take]; congr 1; omega
      have hget : (encs enc xs).toArray.extract (j.toNat * (enc dfl).length) (j.toNat * (enc dfl).length + (enc dfl).length) = (enc (rdL dfl xs j)).toArray := by
        rw [List.extract_toArray, List.extract_eq_take_drop, encs_split dfl xs j.toNat hj]
        congr 1
        rw [← hA, List.drop_left, Nat.add_sub_cancel_left]
        have h3 : (enc (rdL dfl xs j)).length = (enc dfl).length := hsz _
        exact List.take_left' h3
      have hcond : 0 ≤ j ∧ j < (len : Int) := ⟨h0, h1⟩
      unfold execOp
      simp only [ho, hx, hi, Instr.index, asIntOf, Sem.run_bind, Sem.run_pure, Result.andThen_ok, run_underlying ht, if_pos hcond, sizeOf, typeInfo, run_program, hie, hs', part, run_isAgg hu, he', if_true, hget, hv]

theorem stepshl (ha : Has n l a) (d t t' : Nat) (x y : Operand) (k k' : IntKind) (i j : Int) (ho : o.op = .binOp .shl t x y t') (hx : ev l x = .int k i) (hy : ev l y = .int k' j) (h0 : 0 ≤ j) (hok : okB n l ops o d = true)
    (h : ∀ a', Has n ((d, .int k (sshl k i j)) :: l) a' → wpList P ops Q rest a' W) : wpList P ops Q (o :: rest) a W := by
  refine stepv (W' := W) ha d _ hok ?_ h
  unfold execOp
  simp only [ho, hx, hy, Sem.run_bind, eqGuard, binOp, Op.shift, if_neg (show ¬ j < 0 by omega)]
  rfl

theorem stepquo (ha : Has n l a) (d t t' : Nat) (x y : Operand) (k : IntKind) (i j : Int) (ho : o.op = .binOp .quo t x y t') (hx : ev l x = .int k i) (hy : ev l y = .int k j) (h0 : ¬ j = 0) (hok : okB n l ops o d = true)
    (h : ∀ a', Has n ((d, .int k (k.wrap (Int.tdiv i j))) :: l) a' → wpList P ops Q rest a' W) : wpList P ops Q (o :: rest) a W := by
  refine stepv (W' := W) ha d _ hok ?_ h
  unfold execOp
  simp only [ho, hx, hy, Sem.run_bind, eqGuard, binOp, Op.intDiv, if_neg h0, ne_eq, not_true_eq_false, if_false]
  rfl

theorem steprem (ha : Has n l a) (d t t' : Nat) (x y : Operand) (k : IntKind) (i j : Int) (ho : o.op = .binOp .rem t x y t') (hx : ev l x = .int k i) (hy : ev l y = .int k j) (h0 : ¬ j = 0) (hok : okB n l ops o d = true)
    (h : ∀ a', Has n ((d, .int k (Int.tmod i j)) :: l) a' → wpList P ops Q rest a' W) : wpList P ops Q (o :: rest) a W := by
  refine stepv (W' := W) ha d _ hok ?_ h
  unfold execOp
  simp only [ho, hx, hy, Sem.run_bind, eqGuard, binOp, Op.intDiv, if_neg h0, ne_eq, not_true_eq_false, if_false]
  rfl

theorem stepshr (ha : Has n l a) (d t t' : Nat) (x y : Operand) (k k' : IntKind) (i j : Int) (ho : o.op = .binOp .shr t x y t') (hx : ev l x = .int k i) (hy : ev l y = .int k' j) (h0 : 0 ≤ j) (hok : okB n l ops o d = true)
    (h : ∀ a', Has n ((d, .int k (sshr k i j)) :: l) a' → wpList P ops Q rest a' W) : wpList P ops Q (o :: rest) a W := by
  refine stepv (W' := W) ha d _ hok ?_ h
  unfold execOp
  simp only [ho, hx, hy, Sem.run_bind, eqGuard, binOp, Op.shift, if_neg (show ¬ j < 0 by omega)]
  rfl

theorem run_loadVar_ca0 {b : Nat} {C : Array Value} (hC : CA W b 0 C) (t m : Nat) (v : Value) (hl : loadB P t C m = some v) : (loadVar t ⟨b, m, none⟩).run P W = .ok v W := by
  have := run_loadVar_ca hC t m v hl
  rwa [Nat.zero_add] at this

inductive ResOk (P : Program) (W : World) (l : List (Nat × Value)) : List ResultVar → List Value → Prop
  | nil : ResOk P W l [] []
  | tmp {t : Nat} {v : Value} {rs : List ResultVar} {vs : List Value} (h : look l t = some v) (r : ResOk P W l rs vs) : ResOk P W l (.tmp t :: rs) (v :: vs)
  | cell {t ty : Nat} {ad : Addr} {v : Value} {rs : List ResultVar} {vs : List Value} (h : look l t = some (.pointer (some ad))) (hl : (loadVar ty ad).run P W = .ok v W) (r : ResOk P W l rs vs) : ResOk P W l (.cell t ty :: rs) (v :: vs)

def oneOf : List Value → Value
  | [v] => v
  | vs => .tuple vs.toArray

/-- A call ends with its results. -/
theorem finv {fn : Func} {R : Ending → World → Prop} (ha : Has n l a) (rs : List ResultVar) (vs : List Value) (hrs : fn.results = rs.toArray) (hres : ResOk P W l rs vs) (v : Value)
    (hv : oneOf vs = v) (hR : R (.returned v) W) : bodyPost P fn R .ret a W := by
  refine ⟨ha.defers, v, ?_, hR⟩
  have key : ∀ (rs : List ResultVar) (vs : List Value), ResOk P W l rs vs → (rs.mapM (fun x : ResultVar => match x with | .tmp t => (pure (a.tmps.getD t undef) : Sem Value) | .cell b t => do loadVar t (← asAddr (a.tmps.getD b undef)))).run P W = .ok vs W := by
    intro rs vs hr
    induction hr with
    | nil => simp
    | @tmp t v rs vs h r ih =>
      have hg : a.tmps.getD t undef = v := by rw [Array.getD_eq_getD_getElem?, ha.slot _ _ h]; rfl
      simp only [List.mapM_cons, Sem.run_bind, Sem.run_pure, Result.andThen_ok, ih, hg]
    | @cell t ty ad v rs vs h hl r ih =>
      have hg : a.tmps.getD t undef = .pointer (some ad) := by rw [Array.getD_eq_getD_getElem?, ha.slot _ _ h]; rfl
      have has : ∀ W : World, (asAddr (.pointer (some ad))).run P W = .ok ad W := fun _ => rfl
      simp only [List.mapM_cons, Sem.run_bind, Sem.run_pure, Result.andThen_ok, ih, hg, has, hl]
  unfold results
  rw [hrs, List.mapM_toArray, Sem.run_bind, Sem.run_map]
  refine (congrArg (fun z => Result.andThen (Result.andThen z _) _) (key rs vs hres)).trans ?_
  simp only [Result.andThen_ok, Sem.run_pure]
  congr 1
  subst hv
  match vs with
  | [] => rfl
  | [v] => rfl
  | u :: v :: r => simp [oneOf]
end

section
variable {P : Program} {n : Nat} {l : List (Nat × Value)} {a : Act} {ops : Array Oper} {o : Oper} {rest : List Oper} {Q : Exit → Act → World → Prop} {w0 W : World} {bs : List (Nat × Obj)} {os : List OwnA}
theorem stepmn (ha : Has n l a) (d : Nat) (ts : Array Nat) (x y : Operand) (k : IntKind) (i j : Int) (ho : o.op = .call { callee := .builtin .min, args := #[x, y], argTypes := ts }) (hx : ev l x = .int k i) (hy : ev l y = .int k j) (hok : okB n l ops o d = true)
    (h : ∀ a', Has n ((d, .int k (mn i j)) :: l) a' → wpList P ops Q rest a' W) : wpList P ops Q (o :: rest) a W := by
  refine stepv (W' := W) ha d _ hok ?_ h
  unfold execOp mn
  simp only [ho, resolve, invoke, builtin, Sem.run_bind, Sem.run_pure, Result.andThen_ok, List.map_toArray, List.map_cons, List.map_nil, hx, hy]
  by_cases hh : j < i
  · simp [Builtin.min_, Builtin.min2, hh]
  · simp [Builtin.min_, Builtin.min2, hh]
theorem stepmx (ha : Has n l a) (d : Nat) (ts : Array Nat) (x y : Operand) (k : IntKind) (i j : Int) (ho : o.op = .call { callee := .builtin .max, args := #[x, y], argTypes := ts }) (hx : ev l x = .int k i) (hy : ev l y = .int k j) (hok : okB n l ops o d = true)
    (h : ∀ a', Has n ((d, .int k (mx i j)) :: l) a' → wpList P ops Q rest a' W) : wpList P ops Q (o :: rest) a W := by
  refine stepv (W' := W) ha d _ hok ?_ h
  unfold execOp mx
  simp only [ho, resolve, invoke, builtin, Sem.run_bind, Sem.run_pure, Result.andThen_ok, List.map_toArray, List.map_cons, List.map_nil, hx, hy]
  by_cases hh : i < j
  · simp [Builtin.max_, Builtin.max2, hh]
  · simp [Builtin.max_, Builtin.max2, hh]
end
/-! ### Pieces of slices -/
theorem Rd.piece {α : Type} {enc : α → List Value} {sz : Nat} (hsz : ∀ x, (enc x).length = sz) {A : Option Addr} {c i j : Nat} {xs : List α} (h1 : i ≤ j) (h2 : j ≤ xs.length) (w1 : World) (hr : Rd sz w1 (.slice A xs.length c) xs.length (encs enc xs)) :
    Rd sz w1 (.slice (if c = i then A else A.map (·.add (i * sz))) ((xs.take j).drop i).length (c - i)) ((xs.take j).drop i).length (encs enc ((xs.take j).drop i)) := by
  have hlen : ((xs.take j).drop i).length = j - i := by rw [List.length_drop, List.length_take, Nat.min_eq_left h2]
  refine ⟨by rw [encs_length hsz], ?_⟩
  rcases hr.2 with ⟨hv, hn⟩ | ⟨b, off, cap, hv, hc, hcell⟩
  · simp only [Value.slice.injEq] at hv
    obtain ⟨rfl, _, rfl⟩ := hv
    left
    have : j = 0 := by omega
    have : i = 0 := by omega
    refine ⟨?_, by omega⟩
    rw [hlen]
    subst_vars
    simp
  · simp only [Value.slice.injEq, true_and] at hv
    obtain ⟨rfl, rfl⟩ := hv
    right
    by_cases hci : c = i
    · refine ⟨b, off, c - i, by rw [if_pos hci], by omega, ?_⟩
      intro k u hu
      have hl0 : ((xs.take j).drop i).length = 0 := by omega
      rw [List.eq_nil_of_length_eq_zero hl0] at hu
      simp [encs] at hu
    · refine ⟨b, off + i * sz, c - i, by rw [if_neg hci, Option.map_some, Addr.add_lit], by omega, ?_⟩
      intro k u hu
      rw [Nat.add_assoc]
      refine hcell _ u ?_
      have e1 : encs enc xs = encs enc (xs.take j) ++ encs enc (xs.drop j) := by rw [← encs_append, List.take_append_drop]
      have e2 : encs enc (xs.take j) = encs enc ((xs.take j).take i) ++ encs enc ((xs.take j).drop i) := by rw [← encs_append, List.take_append_drop]
      have hl1 : (encs enc ((xs.take j).take i)).length = i * sz := by rw [encs_length hsz, List.length_take, List.length_take]; congr 1; omega
      have hk : k < (encs enc ((xs.take j).drop i)).length := (List.getElem?_eq_some_iff.1 hu).1
      rw [e1, e2, List.append_assoc, List.getElem?_append_right (by omega), hl1, Nat.add_sub_cancel_left, List.getElem?_append_left hk]
      exact hu

section
variable {P : Program} {n : Nat} {l : List (Nat × Value)} {a : Act} {ops : Array Oper} {o : Oper} {rest : List Oper} {Q : Exit → Act → World → Prop} {W : World}

theorem stepslh {α : Type} (enc : α → List Value) (ha : Has n l a) (d t e sz : Nat) (hsz : ∀ x, (enc x).length = sz) (x lo hi : Operand) (k k' : IntKind) (i j : Int) {A : Option Addr} {c : Nat} (xs : List α) (ho : o.op = .slice t x (some lo) (some hi) none) (hx : ev l x = .slice A xs.length c) (hl : ev l lo = .int k i) (hh : ev l hi = .int k' j)
    (ht : P.underlying t = some (.slice e)) (hs : (P.info? e).map (·.size) = some sz) (hcap : xs.length ≤ c) (h0 : 0 ≤ i) (h1 : i ≤ j) (h2 : j ≤ xs.length) (hok : okB n l ops o d = true)
    (h : ∀ A' c' a', (∀ w1, Rd sz w1 (.slice A xs.length c) xs.length (encs enc xs) → Rd sz w1 (.slice A' ((xs.take j.toNat).drop i.toNat).length c') ((xs.take j.toNat).drop i.toNat).length (encs enc ((xs.take j.toNat).drop i.toNat))) →
      Has n ((d, .slice A' ((xs.take j.toNat).drop i.toNat).length c') :: l) a' → wpList P ops Q rest a' W) : wpList P ops Q (o :: rest) a W := by
  have hlen : ((xs.take j.toNat).drop i.toNat).length = j.toNat - i.toNat := by rw [List.length_drop, List.length_take, Nat.min_eq_left (by omega)]
  refine stepv (W' := W) ha d (.slice (if c = i.toNat then A else A.map (·.add (i.toNat * sz))) ((xs.take j.toNat).drop i.toNat).length (c - i.toNat)) hok ?_ fun a' ha' => h _ _ a' (fun w1 => Rd.piece hsz (by omega) (by omega) w1) ha'
  cases hie : P.info? e with
  | none => simp [hie] at hs
  | some ie =>
    have hsz' : ie.size = sz := by simpa [hie] using hs
    have he : P.elem t = e := by simp [Program.elem, ht]
    have ht' : P.underlying t = some (.slice (P.elem t)) := by rw [he]; exact ht
    unfold execOp
    simp only [ho, hx, hl, hh, Option.map_some, Option.map_none, Sem.run_bind, run_sliceAt_slice W t _ _ _ _ ht', run_slice_lh W t A xs.length c ht' k k' i j h0 h1 (by omega), he, sizeOf, typeInfo, run_program, Result.andThen_ok, hie, Sem.run_pure, hsz', sliced, hlen]

theorem stepslo {α : Type} (enc : α → List Value) (ha : Has n l a) (d t e sz : Nat) (hsz : ∀ x, (enc x).length = sz) (x lo : Operand) (k : IntKind) (i : Int) {A : Option Addr} {c : Nat} (xs : List α) (ho : o.op = .slice t x (some lo) none none) (hx : ev l x = .slice A xs.length c) (hl : ev l lo = .int k i)
    (ht : P.underlying t = some (.slice e)) (hs : (P.info? e).map (·.size) = some sz) (hcap : xs.length ≤ c) (h0 : 0 ≤ i) (h2 : i ≤ xs.length) (hok : okB n l ops o d = true)
    (h : ∀ A' c' a', (∀ w1, Rd sz w1 (.slice A xs.length c) xs.length (encs enc xs) → Rd sz w1 (.slice A' (xs.drop i.toNat).length c') (xs.drop i.toNat).length (encs enc (xs.drop i.toNat))) →
      Has n ((d, .slice A' (xs.drop i.toNat).length c') :: l) a' → wpList P ops Q rest a' W) : wpList P ops Q (o :: rest) a W := by
  have hlen : (xs.drop i.toNat).length = xs.length - i.toNat := by rw [List.length_drop]
  refine stepv (W' := W) ha d (.slice (if c = i.toNat then A else A.map (·.add (i.toNat * sz))) (xs.drop i.toNat).length (c - i.toNat)) hok ?_ fun a' ha' => h _ _ a' (fun w1 hr => by
    have := Rd.piece hsz (i := i.toNat) (j := xs.length) (by omega) (Nat.le_refl _) w1 hr
    rwa [List.take_length] at this) ha'
  cases hie : P.info? e with
  | none => simp [hie] at hs
  | some ie =>
    have hsz' : ie.size = sz := by simpa [hie] using hs
    have he : P.elem t = e := by simp [Program.elem, ht]
    have ht' : P.underlying t = some (.slice (P.elem t)) := by rw [he]; exact ht
    unfold execOp
    simp only [ho, hx, hl, Option.map_some, Option.map_none, Sem.run_bind, run_sliceAt_slice W t _ _ _ _ ht', run_slice_l W t A xs.length c ht' k i h0 (by omega), he, sizeOf, typeInfo, run_program, Result.andThen_ok, hie, Sem.run_pure, hsz', sliced, hlen]

theorem stepslt {α : Type} (enc : α → List Value) (ha : Has n l a) (d t e sz : Nat) (hsz : ∀ x, (enc x).length = sz) (x hi : Operand) (k' : IntKind) (j : Int) {A : Option Addr} {c : Nat} (xs : List α) (ho : o.op = .slice t x none (some hi) none) (hx : ev l x = .slice A xs.length c) (hh : ev l hi = .int k' j)
    (ht : P.underlying t = some (.slice e)) (hs : (P.info? e).map (·.size) = some sz) (hcap : xs.length ≤ c) (h0 : 0 ≤ j) (h2 : j ≤ xs.length) (hok : okB n l ops o d = true)
    (h : ∀ A' c' a', (∀ w1, Rd sz w1 (.slice A xs.length c) xs.length (encs enc xs) → Rd sz w1 (.slice A' (xs.take j.toNat).length c') (xs.take j.toNat).length (encs enc (xs.take j.toNat))) →
      Has n ((d, .slice A' (xs.take j.toNat).length c') :: l) a' → wpList P ops Q rest a' W) : wpList P ops Q (o :: rest) a W := by
  have hlen : (xs.take j.toNat).length = j.toNat := by rw [List.length_take, Nat.min_eq_left (by omega)]
  refine stepv (W' := W) ha d (.slice (if c = 0 then A else A.map (·.add (0 * sz))) (xs.take j.toNat).length (c - 0)) hok ?_ fun a' ha' => h _ _ a' (fun w1 hr => Rd.piece hsz (i := 0) (j := j.toNat) (by omega) (by omega) w1 hr) ha'
  cases hie : P.info? e with
  | none => simp [hie] at hs
  | some ie =>
    have hsz' : ie.size = sz := by simpa [hie] using hs
    have he : P.elem t = e := by simp [Program.elem, ht]
    have ht' : P.underlying t = some (.slice (P.elem t)) := by rw [he]; exact ht
    unfold execOp
    simp only [ho, hx, hh, Option.map_some, Option.map_none, Sem.run_bind, run_sliceAt_slice W t _ _ _ _ ht', run_slice_h W t A xs.length c ht' k' j h0 (by omega), he, sizeOf, typeInfo, run_program, Result.andThen_ok, hie, Sem.run_pure, hsz', sliced, hlen]
    simp

/-- The address of an element of an array that is told. -/
theorem stepig {α : Type} (enc : α → List Value) (dfl : α) (ha : Has n l a) (d : Nat) {sz : Nat} (hsz : ∀ x, (enc x).length = sz) {b off : Nat} {C : Array Value} (hC : CA W b off C) (xs : List α) (hx' : (encs enc xs).toArray = C) (t len e : Nat) (x i : Operand) (k : IntKind) (j : Int)
    (ho : o.op = .indexAddr t x i) (hx : ev l x = .pointer (some ⟨b, off, none⟩)) (hi : ev l i = .int k j)
    (ht : P.underlying t = some (.array len e)) (hs : ((P.info? e).map (·.size), xs.length) = (some sz, len)) (h0 : 0 ≤ j) (h1 : j < len) (hok : okB n l ops o d = true)
    (h : ∀ off' a', CA W b off' (enc (rdL dfl xs j)).toArray → Has n ((d, .pointer (some ⟨b, off', none⟩)) :: l) a' → wpList P ops Q rest a' W) : wpList P ops Q (o :: rest) a W := by
  simp only [Prod.mk.injEq] at hs
  obtain ⟨hs, hl⟩ := hs
  cases hie : P.info? e with
  | none => simp [hie] at hs
  | some ie =>
    have hsz' : ie.size = sz := by simpa [hie] using hs
    refine stepv (W' := W) ha d (.pointer (some ⟨b, off + j.toNat * sz, none⟩)) hok ?_ fun a' ha' => h (off + j.toNat * sz) a' (fun m u hu => ?_) ha'
    · have hcond : 0 ≤ j ∧ j < (len : Int) := ⟨h0, h1⟩
      unfold execOp
      simp only [ho, hx, hi, Instr.indexAt, Instr.sureAddr, asIntOf, Sem.run_bind, Sem.run_pure, Result.andThen_ok, run_underlying ht, if_pos hcond, sizeOf, typeInfo, run_program, hie, hsz', Addr.add_lit]
    · have hm : m < sz := by
        have := (Array.getElem?_eq_some_iff.1 hu).1
        rw [List.size_toArray, hsz] at this
        exact this
      rw [Nat.add_assoc]
      refine hC _ u ?_
      subst hx'
      have := encs_get hsz dfl xs j.toNat m (by omega) hm
      rw [List.getElem?_toArray] at hu ⊢
      rw [this]
      simpa [rdL] using hu

theorem CA.part {b off : Nat} {C : Array Value} (h : CA W b 0 C) (ls : List Value) (hl : (C.toList.drop off).take ls.length = ls) : CA W b off ls.toArray := fun m u hu => by
  rw [List.getElem?_toArray] at hu
  have hm : m < ls.length := (List.getElem?_eq_some_iff.1 hu).1
  rw [← hl, List.getElem?_take_of_lt hm, List.getElem?_drop, Array.getElem?_toList] at hu
  have := h (off + m) u hu
  rwa [Nat.zero_add] at this

theorem CA.el {α : Type} (enc : α → List Value) (dfl : α) {sz : Nat} (hsz : ∀ x, (enc x).length = sz) {b off : Nat} {C : Array Value} (hC : CA W b off C) (xs : List α) (hx : (encs enc xs).toArray = C) {len : Nat} (hl : xs.length = len) {j : Int} (h0 : 0 ≤ j) (h1 : j < len) :
    CA W b (off + j.toNat * sz) (enc (rdL dfl xs j)).toArray := fun m u hu => by
  have hm : m < sz := by
    have := (Array.getElem?_eq_some_iff.1 hu).1
    rw [List.size_toArray, hsz] at this
    exact this
  rw [Nat.add_assoc]
  refine hC _ u ?_
  subst hx
  have := encs_get hsz dfl xs j.toNat m (by omega) hm
  rw [List.getElem?_toArray] at hu ⊢
  rw [this]
  simpa [rdL] using hu

/-- The address of an element of an array that is told, to write there. -/
theorem stepiw (ha : Has n l a) (d : Nat) {sz : Nat} (b off t len e : Nat) (x i : Operand) (k : IntKind) (j : Int)
    (ho : o.op = .indexAddr t x i) (hx : ev l x = .pointer (some ⟨b, off, none⟩)) (hi : ev l i = .int k j)
    (ht : P.underlying t = some (.array len e)) (hs : (P.info? e).map (·.size) = some sz) (h0 : 0 ≤ j) (h1 : j < len) (hok : okB n l ops o d = true)
    (h : ∀ a', Has n ((d, .pointer (some ⟨b, off + j.toNat * sz, none⟩)) :: l) a' → wpList P ops Q rest a' W) : wpList P ops Q (o :: rest) a W := by
  cases hie : P.info? e with
  | none => simp [hie] at hs
  | some ie =>
    have hsz' : ie.size = sz := by simpa [hie] using hs
    refine stepv (W' := W) ha d (.pointer (some ⟨b, off + j.toNat * sz, none⟩)) hok ?_ h
    have hcond : 0 ≤ j ∧ j < (len : Int) := ⟨h0, h1⟩
    unfold execOp
    simp only [ho, hx, hi, Instr.indexAt, Instr.sureAddr, asIntOf, Sem.run_bind, Sem.run_pure, Result.andThen_ok, run_underlying ht, if_pos hcond, sizeOf, typeInfo, run_program, hie, hsz', Addr.add_lit]

theorem nums_list (k : IntKind) (ys : List Int) : ys.map (Value.int k) = (List.range ys.length).map fun (q : Nat) => Value.int k (rdL 0 ys (q : Int)) := by
  apply List.ext_getElem?
  intro i
  by_cases hi : i < ys.length
  · simp [rdL, hi, List.getD_eq_getElem?_getD]
  · simp [hi]

/-- A store of a whole number into an array of a told block. -/
theorem stepsn {w0 : World} {bs : List (Nat × Obj)} {os : List OwnA} (ha : Has n l a) (HW : Wd w0 W bs os) (i : Nat) {b : Nat} {C : Array Value} {T : Nat} (hi : bs[i]? = some (b, .cells C T (0, 0))) (t off len : Nat) (x y : Operand) (k : IntKind) (j z : Int) (xs : List Int) (C' : Array Value)
    (ho : o.op = .store t x y) (hp : ev l x = .pointer (some ⟨b, off + j.toNat * 1, none⟩)) (hv : ev l y = .int k z) (hs : (P.info? t).map (·.size) = some 1) (hxl : xs.length = len) (h0 : 0 ≤ j) (h1 : j < len)
    (hx : (C.toList.take off ++ xs.map (Value.int k) ++ C.toList.drop (off + len)) = C.toList) (hof : Nat.ble (off + len) C.size = true)
    (hC' : (C.toList.take off ++ ((List.range len).map fun (q : Nat) => Value.int k (rdL 0 (xs.set j.toNat z) (q : Int))) ++ C.toList.drop (off + len)).toArray = C') (hok : okS l ops o = true)
    (h : ∀ a' W', Wd w0 W' (bs.set i (b, .cells C' T (0, 0))) os → Has n l a' → wpList P ops Q rest a' W') : wpList P ops Q (o :: rest) a W := by
  have hb := (HW.blk i _ hi).2
  have hj : j.toNat < len := by omega
  have hof' := Nat.le_of_ble_eq_true hof
  have e : putAt C (off + j.toNat) [.int k z] = C' := by
    rw [← hC']
    have e2 : (List.range len).map (fun (q : Nat) => Value.int k (rdL 0 (xs.set j.toNat z) (q : Int))) = (xs.set j.toNat z).map (Value.int k) := by
      rw [nums_list k (xs.set j.toNat z), List.length_set, hxl]
    rw [e2]
    unfold putAt
    congr 1
    have hto : (C.toList.take off).length = off := by rw [List.length_take, Array.length_toList]; omega
    have hmx : (xs.map (Value.int k)).length = len := by rw [List.length_map, hxl]
    rw [List.map_set, List.set_eq_take_append_cons_drop, if_pos (by rw [hmx]; exact hj)]
    have ht : C.toList.take (off + j.toNat) = C.toList.take off ++ (xs.map (Value.int k)).take j.toNat := by
      conv => lhs; rw [← hx]
      rw [List.append_assoc, List.take_append, List.take_of_length_le (by omega), hto, Nat.add_sub_cancel_left, List.take_append_of_le_length (by omega)]
    have hd : C.toList.drop (off + j.toNat + 1) = (xs.map (Value.int k)).drop (j.toNat + 1) ++ C.toList.drop (off + len) := by
      conv => lhs; rw [← hx]
      rw [List.append_assoc, List.drop_append, List.drop_of_length_le (by omega), hto, List.nil_append, show off + j.toNat + 1 - off = j.toNat + 1 by omega, List.drop_append_of_le_length (by omega)]
    rw [ht]
    simp only [List.length_singleton]
    rw [hd]
    simp
  refine steps (W' := W.setRow b C') ha hok ?_ fun a' ha' => h a' _ (HW.turnb hi (setRow_heap W b C C' T (0, 0) hb) (grown_setRow W b C')) ha'
  rw [Nat.mul_one] at hp
  have hst := run_storeVar_blk (P := P) hb t (off + j.toNat) (.int k z) (by simpa [Value.cells] using hs) (by simp [Value.cells]; omega) (by rfl)
  have e' : putAt C (off + j.toNat) (Value.int k z).cells.toList = C' := e
  unfold execOp
  simp only [ho, hp, hv, Instr.storeAt, Instr.sureAddr, Sem.run_bind, Sem.run_pure, Result.andThen_ok, hst, e']

theorem Rd.cap {sz m c : Nat} {A : Option Addr} {cs : List Value} (hr : Rd sz W (.slice A m c) m cs) : m ≤ c := by
  rcases hr.2 with ⟨hv, _⟩ | ⟨b, off, cap, hv, hc, _⟩
  · simp only [Value.slice.injEq] at hv; omega
  · simp only [Value.slice.injEq] at hv; omega
end
end Go.Proofs.Ytdcojinnjpihaaa.X
