/- One operation of the plain run, and that the model's operation comes to the same. No condition. -/
import Derived.Test.YtdcojinnjpihaaaXAbs
namespace Go.Proofs.Ytdcojinnjpihaaa.X
open Go Go.RowKit
set_option linter.unusedVariables false
set_option linter.unusedSimpArgs false

/-- What an operation comes to. -/
inductive ARes where
  | val (v : Value)
  | alloc (c : List Value) (e : Nat × Bool) (sl : Option (Nat × Nat))
  | write (k : Nat) (c : List Value) (e : Nat × Bool)
  | grow (k : Option Nat) (c : List Value) (e : Nat) (n : Nat)
  | kill (k : Nat) (v : Value)
  | newMap
  | mapPut (k : Nat) (es : List MapEntry) (cl : Nat) (d : Bool)
  | enter (f : Nat) (args : List Value)

def fresh (k : Nat) : Option (Nat × Nat) → Value
  | none => .pointer (some ⟨k, 0, none⟩)
  | some (n, c) => .slice (some ⟨k, 0, none⟩) n c

def killG (G : Nat → Option AObj) : Option Nat → Nat → Option AObj
  | none => G
  | some k => upd G k .dead

/-- The model's operation comes to the same. -/
def AOk (P : Program) (w0 : World) (μ : Nat → Option Loc) (G : Nat → Option AObj) (W : World) (r : Result Next) : ARes → Prop
  | .val v => ∃ v' W', r = .ok (.value v') W' ∧ VR μ v v' ∧ HR P w0 μ G W'
  | .alloc c e sl => ∀ k, μ k = none → ∃ v' W' l, r = .ok (.value v') W' ∧ VR (upd μ k l) (fresh k sl) v' ∧ HR P w0 (upd μ k l) (upd G k (.row c e)) W'
  | .write k c e => ∃ W', r = .ok .skip W' ∧ HR P w0 μ (upd G k (.row c e)) W'
  | .grow j c e n => ∀ k, μ k = none → ∃ v' W' l, r = .ok (.value v') W' ∧ VR (upd μ k l) (.slice (some ⟨k, 0, none⟩) n n) v' ∧ HR P w0 (upd μ k l) (upd (killG G j) k (.row c (e, false))) W'
  | .kill k v => ∃ W', r = .ok (.value v) W' ∧ flat1 v = true ∧ HR P w0 μ (upd G k .dead) W'
  | .newMap => ∀ k, μ k = none → ∃ v' W' l, r = .ok (.value v') W' ∧ VR (upd μ k l) (.map (some k)) v' ∧ HR P w0 (upd μ k l) (upd G k (.map [] 0)) W'
  | .mapPut k es cl d => ∃ W', r = .ok (match d with | true => .value (.tuple #[]) | false => .skip) W' ∧ HR P w0 μ (upd G k (.map es cl)) W'
  | .enter f args => ∃ args', r = (callFunc f args').run P W ∧ VL μ args args'.toList

def szOf (P : Program) (t : Nat) : Option Nat := (P.info? t).map (·.size)

def subl (c : List Value) (o n : Nat) : Option (List Value) := match Nat.ble (o + n) c.length with
  | true => some ((c.drop o).take n)
  | false => none

theorem subl_spec {c l : List Value} {o n : Nat} (h : subl c o n = some l) : l.length = n ∧ ∀ i, l[i]? = if i < n then c[o + i]? else none := by
  unfold subl at h
  split at h
  · rename_i hb
    cases h
    have := Nat.le_of_ble_eq_true hb
    refine ⟨by simp; omega, fun i => ?_⟩
    rw [List.getElem?_take]
    split
    · rw [List.getElem?_drop]
    · rfl
  · cases h

theorem subl_get {c l : List Value} {o n : Nat} (h : subl c o n = some l) (i : Nat) (x : Value) (hx : l[i]? = some x) : c[o + i]? = some x := by
  have := (subl_spec h).2 i
  rw [hx] at this
  split at this
  · exact this.symm
  · cases this

/-- A variable's value out of cells. -/
def aload (P : Program) (c : List Value) (t o : Nat) : Option Value := match P.underlying t with
  | none => none
  | some d => match aggD d with
    | false => c[o]?
    | true => match szOf P t with
      | none => none
      | some n => (subl c o n).map fun l => .agg l.toArray

def idx (j : Int) (n : Nat) : Option Nat := match j with
  | .ofNat m => match Nat.blt m n with
    | true => some m
    | false => none
  | _ => none

theorem idx_spec {j : Int} {n m : Nat} (h : idx j n = some m) : 0 ≤ j ∧ j < (n : Int) ∧ j.toNat = m ∧ m < n := by
  unfold idx at h
  split at h
  · rename_i k
    split at h
    · rename_i hb
      cases h
      have h1 : m < n := Nat.le_of_ble_eq_true hb
      refine ⟨Int.natCast_nonneg m, ?_, rfl, h1⟩
      show (m : Int) < n
      omega
    · cases h
  · cases h

def bnd (v : Option Value) (dflt hi : Nat) : Option Nat := match v with
  | none => some dflt
  | some (.int _ (.ofNat m)) => match Nat.ble m hi with
    | true => some m
    | false => none
  | _ => none

theorem bnd_none {d h m : Nat} (hb : bnd none d h = some m) : m = d := by cases hb; rfl
theorem bnd_some {v : Value} {d h m : Nat} (hb : bnd (some v) d h = some m) : ∃ k, v = .int k (.ofNat m) ∧ m ≤ h := by
  unfold bnd at hb
  split at hb
  · rename_i e; cases e
  · rename_i k n e
    cases e
    split at hb
    · rename_i hle
      cases hb
      exact ⟨_, rfl, Nat.le_of_ble_eq_true hle⟩
    · cases hb
  · cases hb

/-- What needs no memory, of values without addresses. -/
def aquiet (P : Program) (o : Oper) (ρ : Operand → Value) : Option ARes := match noSel o && o.op.operands.all (fun x => flat (ρ x)) with
  | false => none
  | true => match quiet P (execOp ρ o) with
    | some (.value v) => match flat v with
      | true => some (.val v)
      | false => none
    | _ => none

section
variable {P : Program} {w0 W : World} {μ : Nat → Option Loc} {G : Nat → Option AObj} {o : Oper} {ρ ρ' : Operand → Value}

/-- The operands are alike. -/
def OpsR (μ : Nat → Option Loc) (o : Oper) (ρ ρ' : Operand → Value) : Prop := ∀ x ∈ o.op.operands, VR μ (ρ x) (ρ' x)

theorem aquiet_ok {r : ARes} (h : aquiet P o ρ = some r) (hρ : OpsR μ o ρ ρ') (hw : HR P w0 μ G W) : AOk P w0 μ G W ((execOp ρ' o).run P W) r := by
  unfold aquiet at h
  split at h
  · cases h
  · rename_i hc
    simp only [Bool.and_eq_true] at hc
    have he : execOp ρ' o = execOp ρ o := by
      refine execOp_congr o (fun cs b e => ?_) (fun x hx => ?_)
      · simp [noSel, e] at hc
      · have := hc.2
        rw [Array.all_eq_true_iff_forall_mem] at this
        exact flat_eq (this x hx) (hρ x hx)
    split at h
    · rename_i v hq
      split at h
      · rename_i hf
        cases h
        exact ⟨v, W, by rw [he]; exact quiet_run hq W, flat_rel hf, hw⟩
      · cases h
    · cases h

theorem szOf_info {t n : Nat} (h : szOf P t = some n) : ∃ i, P.info? t = some i ∧ i.size = n := by
  unfold szOf at h
  cases hi : P.info? t with
  | none => simp [hi] at h
  | some i => exact ⟨i, rfl, by simpa [hi] using h⟩

/-! ### One kind after the other -/
theorem ok_load {t k off : Nat} {c : List Value} {v a' : Value} (hc : cellsAt G k = some c) (hv : aload P c t off = some v) (ha : VR μ (.pointer (some ⟨k, off, none⟩)) a') (hw : HR P w0 μ G W) :
    ∃ v', (Instr.loadAt t a').run P W = .ok v' W ∧ VR μ v v' := by
  cases ha with
  | ptr hm =>
    rename_i l
    unfold aload at hv
    split at hv
    · cases hv
    · rename_i d hu
      split at hv
      · rename_i hd
        obtain ⟨y, hy, hr⟩ := hw.cell hc hm hv
        refine ⟨y, ?_, hr⟩
        simp only [Instr.loadAt, Instr.sureAddr, Sem.run_bind, Sem.run_pure, Result.andThen_ok, loadVar, run_isAgg hu, hd]
        simp [hy]
      · rename_i hd
        split at hv
        · cases hv
        · rename_i n hn
          obtain ⟨i, hi, rfl⟩ := szOf_info hn
          cases hl : subl c off i.size with
          | none => simp [hl] at hv
          | some vs =>
            simp only [hl, Option.map_some, Option.some.injEq] at hv
            subst hv
            obtain ⟨ys, h1, h2⟩ := hw.cells hc hm (subl_get hl)
            have hlen : ys.length = i.size := by rw [← h1.1]; exact (subl_spec hl).1
            have hcells : (loadCells ⟨l.b, l.p + off, none⟩ ys.length).run P W = .ok ys.toArray W := run_loadCells_list W _ _ (fun j u hu => by rw [Addr.add_lit]; exact h2 j u hu)
            rw [hlen] at hcells
            refine ⟨.agg ys.toArray, ?_, .agg (by simp [h1.1]) (fun j x y hx hy => h1.2 j x y (by simpa using hx) (by simpa using hy))⟩
            simp only [Instr.loadAt, Instr.sureAddr, Sem.run_bind, Sem.run_pure, Result.andThen_ok, loadVar, run_isAgg hu, hd, if_true, sizeOf, typeInfo, run_program, hi, hcells]

def putL (c : List Value) (o : Nat) (vs : List Value) : List Value := c.take o ++ (vs ++ c.drop (o + vs.length))

theorem putL_get {c vs : List Value} {o : Nat} (h : o + vs.length ≤ c.length) (i : Nat) : (putL c o vs)[i]? = if o ≤ i ∧ i < o + vs.length then vs[i - o]? else c[i]? := by
  unfold putL
  have ho : (c.take o).length = o := by simp; omega
  by_cases h1 : i < o
  · rw [List.getElem?_append_left (by omega), List.getElem?_take, if_pos h1, if_neg (by omega)]
  · rw [List.getElem?_append_right (by omega), ho]
    by_cases h2 : i - o < vs.length
    · rw [List.getElem?_append_left h2, if_pos (by omega)]
    · rw [List.getElem?_append_right (by omega), List.getElem?_drop, if_neg (by omega)]
      congr 1
      omega

theorem one_rel {x y : Value} (h : VR μ x y) (h1 : x.oneCell' = true) : y.oneCell' = true := by
  cases h <;> first | rfl | exact h1

theorem putL_length {c vs : List Value} {o : Nat} (h : o + vs.length ≤ c.length) : (putL c o vs).length = c.length := by
  unfold putL
  simp
  omega

theorem HR.write (h : HR P w0 μ G W) {k : Nat} {l : Loc} {c vs vs' : List Value} {e : Nat × Bool} {off : Nat} (hk : G k = some (.row c e)) (hm : μ k = some l) (hle : off + vs.length ≤ c.length) (hv : VL μ vs vs') :
    HR P w0 μ (upd G k (.row (putL c off vs) e)) (W.setCells l.b (l.p + off) vs') := by
  obtain ⟨l', _, _, q1, _, _, _, _, ⟨_, hcl, _⟩, _⟩ := h.row k c e hk
  rw [hm] at q1; cases q1
  have h2 := h.move (k := k) (k2 := k) (l := l) (c := c) (c2 := putL c off vs) (vs := vs') (e := e) (e2 := e) (o := l.p + off) (p2 := l.p) rfl (fun h9 => ⟨h9, rfl, putL_length hle⟩) hk hm (by rw [← hv.1]; omega) (by rw [putL_length hle]; exact hcl) (.inl ⟨rfl, rfl⟩) (fun C hC C2 hs hC2 i x hx => by
    rw [putL_get hle] at hx
    rw [hC2]
    by_cases hin : off ≤ i ∧ i < off + vs.length
    · rw [if_pos hin] at hx
      rw [if_pos (by rw [← hv.1]; omega)]
      obtain ⟨y, hy, hr⟩ := hv.get hx
      exact ⟨y, by rw [← hy]; congr 1; omega, hr⟩
    · rw [if_neg hin] at hx
      rw [if_neg (by rw [← hv.1]; omega)]
      exact hC i x hx)
  have e1 : upd μ k ⟨l.b, l.p, l.sz, l.lim⟩ = μ := by
    funext j
    by_cases hj : j = k
    · subst hj; rw [upd_same, hm]
    · rw [upd_ne hj]
  have e2 : upd (upd G k .dead) k (.row (putL c off vs) e) = upd G k (.row (putL c off vs) e) := by
    funext j
    by_cases hj : j = k
    · subst hj; rw [upd_same, upd_same]
    · rw [upd_ne hj, upd_ne hj, upd_ne hj]
  rw [e1, e2] at h2
  exact h2

/-- The cells of a row's block can be written. -/
theorem HR.room (h : HR P w0 μ G W) {k : Nat} {l : Loc} {c : List Value} {e : Nat × Bool} (hk : G k = some (.row c e)) (hm : μ k = some l) {i : Nat} (hi : i < l.lim) :
    (W.cell? ⟨l.b, i, none⟩).isSome = true ∧ W.frozen? ⟨l.b, i, none⟩ = false := by
  obtain ⟨l', C, fr, q1, _, q3, q4, q5, _, _⟩ := h.row k c e hk
  rw [hm] at q1; cases q1
  have hlt : i < C.size := by omega
  refine ⟨by simp [World.cell?, q3, hlt], ?_⟩
  have := q4 i hlt
  simp only [World.frozen?, q3]
  simp only [Bool.and_eq_false_iff, decide_eq_false_iff_not]
  omega

theorem ones_rel {vs vs' : List Value} (h : VL μ vs vs') (h1 : vs.all (·.oneCell') = true) : ∀ v ∈ vs', v.oneCell' = true := by
  intro v hv
  obtain ⟨i, hi⟩ := List.getElem?_of_mem hv
  obtain ⟨x, hx, hr⟩ := h.get' hi
  exact one_rel hr (List.all_eq_true.mp h1 x (List.mem_of_getElem? hx))

theorem ok_store {t k off : Nat} {e : Nat × Bool} {c : List Value} {v v' a' : Value} (hk : G k = some (.row c e)) (hs : szOf P t = some v.cells.toList.length) (h1 : v.cells.toList.all (·.oneCell') = true) (hle : off + v.cells.toList.length ≤ c.length)
    (ha : VR μ (.pointer (some ⟨k, off, none⟩)) a') (hv : VR μ v v') (hw : HR P w0 μ G W) : ∃ W', (Instr.storeAt t a' v').run P W = .ok () W' ∧ HR P w0 μ (upd G k (.row (putL c off v.cells.toList) e)) W' := by
  cases ha with
  | ptr hm =>
    rename_i l
    obtain ⟨_, _, _, q1, _, _, _, _, ⟨_, hcl, _⟩, _⟩ := hw.row k c e hk
    rw [hm] at q1; cases q1
    have hvl := hv.cells
    have hlen : v'.cells.toList.length = v.cells.toList.length := hvl.1.symm
    refine ⟨_, ?_, hw.write hk hm hle hvl⟩
    obtain ⟨i, hi, hsz⟩ := szOf_info hs
    have hst := run_storeCells_cells (P := P) l.b (l.p + off) v'.cells.toList 0 W (fun j hj => (hw.room hk hm (by omega)).1) (fun j hj => (hw.room hk hm (by omega)).2) (ones_rel hvl h1)
    have hsz' : v'.cells.size = i.size := by rw [hsz, ← hlen, Array.length_toList]
    simp only [Instr.storeAt, Instr.sureAddr, Sem.run_bind, Sem.run_pure, Result.andThen_ok, storeVar, sizeOf, typeInfo, run_program, hi]
    simp [hsz', hst]

/-- The address of a field. -/
def afield (P : Program) (s f : Nat) : Value → Option Value
  | .pointer (some ⟨k, off, none⟩) => match P.underlying s with
    | some (.struct fs) => match fs[f]? with
      | none => none
      | some fd => match szOf P fd.type with
        | some (_ + 1) => some (.pointer (some ⟨k, off + fd.offset, none⟩))
        | _ => none
    | _ => none
  | _ => none

theorem ok_field {s f : Nat} {x x' v : Value} (h : afield P s f x = some v) (hx : VR μ x x') : ∃ v', (Instr.fieldAt s x' f).run P W = .ok v' W ∧ VR μ v v' := by
  unfold afield at h
  split at h
  · rename_i k off
    split at h
    · rename_i fs hu
      split at h
      · cases h
      · rename_i fd hf
        split at h
        · rename_i m hm
          cases h
          obtain ⟨i, hi, hsz⟩ := szOf_info hm
          cases hx with
          | ptr hmu =>
            rename_i l
            refine ⟨.pointer (some ⟨l.b, l.p + (off + fd.offset), none⟩), ?_, .ptr hmu⟩
            have hne : ¬ (i.size = 0) := by omega
            simp [Instr.fieldAt, run_underlying hu, hf, Instr.sureAddr, fieldPlace, sizeOf, typeInfo, hi, hne, Addr.add_lit, Nat.add_assoc]
        · cases h
    · cases h
  · cases h

/-- The address of an element. -/
def aindex (P : Program) (t : Nat) (x i : Value) : Option Value := match i with
  | .int _ j => match P.underlying t with
    | some (.array len e) => match x with
      | .pointer (some ⟨k, off, none⟩) => match idx j len, szOf P e with
        | some m, some n => some (.pointer (some ⟨k, off + m * n, none⟩))
        | _, _ => none
      | _ => none
    | some (.slice e) => match x with
      | .slice (some ⟨k, off, none⟩) len _ => match idx j len, szOf P e with
        | some m, some n => some (.pointer (some ⟨k, off + m * n, none⟩))
        | _, _ => none
      | _ => none
    | _ => none
  | _ => none

theorem ok_index {t : Nat} {x i x' i' v : Value} (h : aindex P t x i = some v) (hx : VR μ x x') (hi : VR μ i i') : ∃ v', (Instr.indexAt t x' i').run P W = .ok v' W ∧ VR μ v v' := by
  unfold aindex at h
  split at h
  · rename_i k j
    cases hi
    split at h
    · rename_i len e hu
      split at h
      · rename_i k off
        split at h
        · rename_i m n hm hn
          cases h
          obtain ⟨ie, hie, rfl⟩ := szOf_info hn
          obtain ⟨h0, h1, h2, _⟩ := idx_spec hm
          cases hx with
          | ptr hmu =>
            rename_i l
            refine ⟨.pointer (some ⟨l.b, l.p + (off + m * ie.size), none⟩), ?_, .ptr hmu⟩
            have hc : 0 ≤ j ∧ j < (len : Int) := ⟨h0, h1⟩
            simp only [Instr.indexAt, asIntOf, Sem.run_bind, Sem.run_pure, Result.andThen_ok, run_underlying hu, Instr.sureAddr, if_pos hc, sizeOf, typeInfo, run_program, hie, Addr.add_lit, h2, Nat.add_assoc]
        · cases h
      · cases h
    · rename_i e hu
      split at h
      · rename_i k off len c
        split at h
        · rename_i m n hm hn
          cases h
          obtain ⟨ie, hie, rfl⟩ := szOf_info hn
          obtain ⟨h0, h1, h2, _⟩ := idx_spec hm
          cases hx with
          | slice hmu h5 h6 h7 =>
            rename_i l c'
            refine ⟨.pointer (some ⟨l.b, l.p + (off + m * ie.size), none⟩), ?_, .ptr hmu⟩
            have hc : 0 ≤ j ∧ j < (len : Int) := ⟨h0, h1⟩
            simp only [Instr.indexAt, asIntOf, Sem.run_bind, Sem.run_pure, Result.andThen_ok, run_underlying hu, if_pos hc, sizeOf, typeInfo, run_program, hie, Addr.add_lit, h2, Nat.add_assoc]
        · cases h
      · cases h
    · cases h
  · cases h

/-- A part of an aggregate. -/
theorem ok_part {t off : Nat} {cs cs' : Array Value} {v : Value} (h : aload P cs.toList t off = some v) (hc : VL μ cs.toList cs'.toList) : ∃ v', (part t cs' off).run P W = .ok v' W ∧ VR μ v v' := by
  unfold aload at h
  split at h
  · cases h
  · rename_i d hu
    split at h
    · rename_i hd
      obtain ⟨y, hy, hr⟩ := hc.get h
      rw [Array.getElem?_toList] at hy
      refine ⟨y, ?_, hr⟩
      simp [part, run_isAgg hu, hd, hy]
    · rename_i hd
      split at h
      · cases h
      · rename_i n hn
        obtain ⟨i, hi, rfl⟩ := szOf_info hn
        cases hl : subl cs.toList off i.size with
        | none => simp [hl] at h
        | some vs =>
          simp only [hl, Option.map_some, Option.some.injEq] at h
          subst h
          refine ⟨.agg (cs'.extract off (off + i.size)), by simp [part, run_isAgg hu, hd, sizeOf, typeInfo, hi], ?_⟩
          have hle : off + i.size ≤ cs.size := by
            unfold subl at hl
            split at hl
            · rename_i hb; simpa using Nat.le_of_ble_eq_true hb
            · cases hl
          have hs : cs'.size = cs.size := by have := hc.1; simp at this; exact this.symm
          refine .agg ?_ fun j x y hx hy => ?_
          · have := (subl_spec hl).1
            simp [this]
            omega
          · rw [List.getElem?_toArray] at hx
            have h1 := subl_get hl j x hx
            rw [Array.getElem?_extract] at hy
            split at hy
            · exact hc.2 _ _ _ h1 (by rw [Array.getElem?_toList]; exact hy)
            · cases hy

def afieldv (P : Program) (t f : Nat) : Value → Option Value
  | .agg cs => match P.underlying t with
    | some (.struct fs) => match fs[f]? with
      | none => none
      | some fd => aload P cs.toList fd.type fd.offset
    | _ => none
  | _ => none

theorem VL.of_agg {cs : Array Value} {x' : Value} (h : VR μ (.agg cs) x') : ∃ cs', x' = .agg cs' ∧ VL μ cs.toList cs'.toList := by
  cases h with
  | agg hs hh => exact ⟨_, rfl, by simpa using hs, fun i x y hx hy => hh i x y (by simpa using hx) (by simpa using hy)⟩
theorem VL.of_tuple {cs : Array Value} {x' : Value} (h : VR μ (.tuple cs) x') : ∃ cs', x' = .tuple cs' ∧ VL μ cs.toList cs'.toList := by
  cases h with
  | tuple hs hh => exact ⟨_, rfl, by simpa using hs, fun i x y hx hy => hh i x y (by simpa using hx) (by simpa using hy)⟩
theorem VL.agg {cs cs' : Array Value} (h : VL μ cs.toList cs'.toList) : VR μ (.agg cs) (.agg cs') :=
  .agg (by simpa using h.1) fun i x y hx hy => h.2 i x y (by simpa using hx) (by simpa using hy)
theorem VL.tuple {cs cs' : Array Value} (h : VL μ cs.toList cs'.toList) : VR μ (.tuple cs) (.tuple cs') :=
  .tuple (by simpa using h.1) fun i x y hx hy => h.2 i x y (by simpa using hx) (by simpa using hy)

theorem ok_fieldv {t f : Nat} {x x' v : Value} (h : afieldv P t f x = some v) (hx : VR μ x x') : ∃ v', (Instr.field t x' f).run P W = .ok v' W ∧ VR μ v v' := by
  unfold afieldv at h
  split at h
  · rename_i cs
    split at h
    · rename_i fs hu
      split at h
      · cases h
      · rename_i fd hf
        obtain ⟨cs', rfl, hl⟩ := VL.of_agg hx
        obtain ⟨v', h1, h2⟩ := ok_part (W := W) h hl
        exact ⟨v', by simp [Instr.field, run_underlying hu, hf, asAgg, h1], h2⟩
    · cases h
  · cases h

def aindexv (P : Program) (t : Nat) (x i : Value) : Option Value := match i, x with
  | .int _ j, .agg cs => match P.underlying t with
    | some (.array len e) => match idx j len, szOf P e with
      | some m, some n => aload P cs.toList e (m * n)
      | _, _ => none
    | _ => none
  | _, _ => none

theorem ok_indexv {t : Nat} {x i x' i' v : Value} (h : aindexv P t x i = some v) (hx : VR μ x x') (hi : VR μ i i') : ∃ v', (Instr.index t x' i').run P W = .ok v' W ∧ VR μ v v' := by
  unfold aindexv at h
  split at h
  · rename_i k j cs
    cases hi
    split at h
    · rename_i len e hu
      split at h
      · rename_i m n hm hn
        obtain ⟨ie, hie, rfl⟩ := szOf_info hn
        obtain ⟨h0, h1, h2, _⟩ := idx_spec hm
        obtain ⟨cs', rfl, hl⟩ := VL.of_agg hx
        obtain ⟨v', h3, h4⟩ := ok_part (W := W) h hl
        have hc : 0 ≤ j ∧ j < (len : Int) := ⟨h0, h1⟩
        refine ⟨v', ?_, h4⟩
        simp only [Instr.index, asIntOf, Sem.run_bind, Sem.run_pure, Result.andThen_ok, run_underlying hu, if_pos hc, sizeOf, typeInfo, run_program, hie, h2, h3]
      · cases h
    · cases h
  · cases h

/-- The type of a row's elements. -/
def elemAt (G : Nat → Option AObj) (k : Nat) : Option Nat := match G k with
  | some (.row _ e) => some e.1
  | some (.ro _ e) => some e
  | _ => none

theorem HR.elem (h : HR P w0 μ G W) {k e : Nat} {l : Loc} (he : elemAt G k = some e) (hm : μ k = some l) : szOf P e = some l.sz := by
  unfold elemAt at he
  split at he
  · rename_i c e' hg
    cases he
    obtain ⟨l', _, _, q1, _, _, _, _, ⟨q, _, _⟩, _⟩ := h.row k c e' hg
    rw [hm] at q1; cases q1; exact q
  · rename_i c e' hg
    cases he
    obtain ⟨l', q1, _, q, _⟩ := h.ro k c e hg
    rw [hm] at q1; cases q1; exact q
  · cases he

def asl1 (k off sz n c : Nat) (lo hi : Option Value) : Option Value := match bnd hi n c with
  | none => none
  | some h => match bnd lo 0 h with
    | none => none
    | some 0 => some (.slice (some ⟨k, off, none⟩) h c)
    | some (l + 1) => match Nat.blt (l + 1) c with
      | true => some (.slice (some ⟨k, off + (l + 1) * sz, none⟩) (h - (l + 1)) (c - (l + 1)))
      | false => some (.slice (some ⟨k, off, some 0⟩) 0 0)

def asl3 (k off sz c : Nat) (lo : Option Value) (hv mv : Value) : Option Value := match bnd (some mv) 0 c with
  | none => none
  | some m => match bnd (some hv) 0 m with
    | none => none
    | some h => match bnd lo 0 h with
      | none => none
      | some l => match Nat.beq m l with
        | true => some (.slice (some ⟨k, off, none⟩) (h - l) (m - l))
        | false => some (.slice (some ⟨k, off + l * sz, none⟩) (h - l) (m - l))

/-- A piece of a slice. -/
def aslice (P : Program) (G : Nat → Option AObj) (t : Nat) (x : Value) (lo hi mx : Option Value) : Option Value := match x with
  | .slice (some ⟨k, off, none⟩) n c => match P.underlying t with
    | some (.slice e) => match (elemAt G k).bind (szOf P), szOf P e with
      | some sz0, some sz => match Nat.beq sz sz0 with
        | false => none
        | true => match mx, hi with
          | none, _ => asl1 k off sz n c lo hi
          | some mv, some hv => asl3 k off sz c lo hv mv
          | _, _ => none
      | _, _ => none
    | _ => none
  | _ => none

inductive OR (μ : Nat → Option Loc) : Option Value → Option Value → Prop
  | no : OR μ none none
  | so {x y} (h : VR μ x y) : OR μ (some x) (some y)

theorem OR.bnd {v v' : Option Value} {d h m : Nat} (hr : OR μ v v') (hb : bnd v d h = some m) : bnd v' d h = some m := by
  cases hr with
  | no => exact hb
  | so hr =>
    obtain ⟨k, rfl, hle⟩ := bnd_some hb
    cases hr
    exact hb

theorem run_sliceBound {v : Value} {d h h' m : Nat} (hb : bnd (some v) d h = some m) (hle : h ≤ h') (code : BoundsCode) : (Instr.sliceBound v h' code).run P W = .ok m W := by
  obtain ⟨k, rfl, hm⟩ := bnd_some hb
  have : (0 : Int) ≤ Int.ofNat m ∧ Int.ofNat m ≤ (h' : Int) := ⟨Int.natCast_nonneg m, by show (m : Int) ≤ h'; omega⟩
  simp only [Instr.sliceBound, asIntOf, Sem.run_bind, Sem.run_pure, Result.andThen_ok, if_pos this]
  rfl

theorem bnd_le {v : Option Value} {d h m : Nat} (hb : bnd v d h = some m) (hd : d ≤ h) : m ≤ h := by
  cases v with
  | none => rw [bnd_none hb]; exact hd
  | some v => obtain ⟨_, _, h1⟩ := bnd_some hb; exact h1

theorem run_bounds {b : Bool} {n c m h l : Nat} {lo hi : Option Value} (hh : bnd hi n c = some h) (hl : bnd lo 0 h = some l) (hc : c ≤ m) :
    (Instr.sliceBounds b n m lo hi none).run P W = .ok (l, h, m) W := by
  unfold Instr.sliceBounds
  cases hi with
  | none =>
    have e1 := bnd_none hh
    subst e1
    cases lo with
    | none => rw [bnd_none hl]; simp only [Sem.run_bind, Sem.run_pure, Result.andThen_ok]
    | some v => simp only [Sem.run_bind, Sem.run_pure, Result.andThen_ok, fun (W : World) c => run_sliceBound (P := P) (W := W) hl (Nat.le_refl _) c]
  | some u =>
    have h1 : ∀ (W : World) c, (Instr.sliceBound u m c).run P W = .ok h W := fun W _ => run_sliceBound hh hc _
    cases lo with
    | none => rw [bnd_none hl]; simp only [Sem.run_bind, Sem.run_pure, Result.andThen_ok, if_true, h1]
    | some v => simp only [Sem.run_bind, Sem.run_pure, Result.andThen_ok, if_true, h1, fun (W : World) c => run_sliceBound (P := P) (W := W) hl (Nat.le_refl _) c]

theorem run_bounds3 {n c k m h l : Nat} {lo : Option Value} {hv mv : Value} (hm : bnd (some mv) 0 c = some m) (hh : bnd (some hv) 0 m = some h) (hl : bnd lo 0 h = some l) (hc : c ≤ k) :
    (Instr.sliceBounds true n k lo (some hv) (some mv)).run P W = .ok (l, h, m) W := by
  have h0 : ∀ (W : World), (Instr.sliceBound mv k .slice3Acap).run P W = .ok m W := fun W => run_sliceBound hm hc _
  have h1 : ∀ (W : World), (Instr.sliceBound hv m .slice3B).run P W = .ok h W := fun W => run_sliceBound hh (Nat.le_refl _) _
  unfold Instr.sliceBounds
  cases lo with
  | none => rw [bnd_none hl]; simp only [Sem.run_bind, Sem.run_pure, Result.andThen_ok, if_true, h0, h1]
  | some v => simp only [Sem.run_bind, Sem.run_pure, Result.andThen_ok, if_true, h0, h1, fun (W : World) c => run_sliceBound (P := P) (W := W) hl (Nat.le_refl _) c]

theorem run_sliceAt {t e : Nat} {ie : TypeInfo} {b q n c' : Nat} {lo hi mx : Option Value} {l h m : Nat} (hu : P.underlying t = some (.slice e)) (hie : P.info? e = some ie) (hb : (Instr.sliceBounds true n c' lo hi mx).run P W = .ok (l, h, m) W) :
    (Instr.sliceAt t (.slice (some ⟨b, q, none⟩) n c') lo hi mx).run P W = .ok (.slice (some ⟨b, if m = l then q else q + l * ie.size, none⟩) (h - l) (m - l)) W := by
  simp only [Instr.sliceAt, Instr.slice, Sem.run_bind, run_underlying hu, Result.andThen_ok, hb, sizeOf, typeInfo, run_program, hie, Sem.run_pure, Option.map_some, Addr.add_lit]
  split <;> rfl

theorem ok_slice {t : Nat} {x x' v : Value} {lo hi mx lo' hi' mx' : Option Value} (h : aslice P G t x lo hi mx = some v) (hx : VR μ x x') (hlo : OR μ lo lo') (hhi : OR μ hi hi') (hmx : OR μ mx mx') (hw : HR P w0 μ G W) :
    ∃ v', (Instr.sliceAt t x' lo' hi' mx').run P W = .ok v' W ∧ VR μ v v' := by
  unfold aslice at h
  split at h
  · rename_i k off n c
    split at h
    · rename_i e hu
      split at h
      · rename_i sz0 sz hs0 hs
        split at h
        · cases h
        · rename_i hbeq
          have e1 := Nat.eq_of_beq_eq_true hbeq
          subst e1
          cases hx with
          | slice hmu hn hc hl =>
            rename_i l c'
            have hlsz : l.sz = sz := by
              cases he : elemAt G k with
              | none => simp [he] at hs0
              | some e0 =>
                simp only [he, Option.bind_some] at hs0
                have := hw.elem he hmu
                rw [hs0] at this; cases this; rfl
            obtain ⟨ie, hie, hsz⟩ := szOf_info hs
            split at h
            · -- without a third number
              cases hmx
              unfold asl1 at h
              split at h
              · cases h
              · rename_i hh hbh
                have hhc : hh ≤ c := bnd_le hbh hn
                split at h
                · cases h
                · rename_i hbl
                  cases h
                  refine ⟨_, run_sliceAt hu hie (run_bounds (hhi.bnd hbh) (hlo.bnd hbl) hc), ?_⟩
                  have e2 : (if c' = 0 then l.p + off else l.p + off + 0 * ie.size) = l.p + off := by split <;> simp
                  rw [e2]
                  exact .slice hmu hhc (by omega) (by simpa using hl)
                · rename_i q hbl
                  have hqh : q + 1 ≤ hh := bnd_le hbl (Nat.zero_le _)
                  have hrun := run_sliceAt (P := P) (W := W) (b := l.b) (q := l.p + off) hu hie (run_bounds (hhi.bnd hbh) (hlo.bnd hbl) hc)
                  have hmul : (c' - (q + 1)) * l.sz + (q + 1) * l.sz = c' * l.sz := by rw [← Nat.add_mul]; congr 1; omega
                  rw [hsz, ← hlsz] at hrun
                  split at h
                  · rename_i hlt
                    cases h
                    have hlt' : q + 1 < c := Nat.le_of_ble_eq_true hlt
                    refine ⟨_, hrun, ?_⟩
                    rw [if_neg (by omega), Nat.add_assoc, ← hlsz]
                    exact .slice hmu (by omega) (by omega) (by simp only [Nat.succ_eq_add_one] at *; omega)
                  · rename_i hlt
                    cases h
                    have hge : c ≤ q + 1 := by
                      rcases Nat.lt_or_ge (q + 1) c with h1 | h1
                      · have : Nat.blt (q + 1) c = true := Nat.ble_eq_true_of_le h1
                        rw [this] at hlt; cases hlt
                      · exact h1
                    refine ⟨_, hrun, ?_⟩
                    have e3 : hh - (q + 1) = 0 := by omega
                    rw [e3]
                    refine .sliceE hmu ?_
                    split
                    · rename_i e4; rw [e4]; simp; omega
                    · simp only [Nat.succ_eq_add_one] at *; omega
            · -- with a third number
              rename_i mv hv _
              cases hmx with
              | so hmv =>
                cases hhi with
                | so hhv =>
                  unfold asl3 at h
                  split at h
                  · cases h
                  · rename_i m hbm
                    have hmc : m ≤ c := bnd_le hbm (Nat.zero_le _)
                    split at h
                    · cases h
                    · rename_i hh hbh
                      have hhm : hh ≤ m := bnd_le hbh (Nat.zero_le _)
                      split at h
                      · cases h
                      · rename_i q hbl
                        have hqh : q ≤ hh := bnd_le hbl (Nat.zero_le _)
                        have hrun := run_sliceAt (P := P) (W := W) (b := l.b) (q := l.p + off) (n := n) hu hie (run_bounds3 ((OR.so hmv).bnd hbm) ((OR.so hhv).bnd hbh) (hlo.bnd hbl) hc)
                        have hmul : (c' - q) * l.sz + q * l.sz = c' * l.sz := by rw [← Nat.add_mul]; congr 1; omega
                        have hmul2 : (m - q) * l.sz ≤ (c' - q) * l.sz := Nat.mul_le_mul_right _ (by omega)
                        rw [hsz, ← hlsz] at hrun
                        refine ⟨_, hrun, ?_⟩
                        split at h
                        · rename_i hb2
                          cases h
                          have e4 := Nat.eq_of_beq_eq_true hb2
                          subst e4
                          rw [if_pos rfl]
                          exact .slice hmu (by omega) (Nat.le_refl _) (by simp; omega)
                        · rename_i hb2
                          cases h
                          have e4 := Nat.ne_of_beq_eq_false hb2
                          rw [if_neg e4, Nat.add_assoc, ← hlsz]
                          exact .slice hmu (by omega) (Nat.le_refl _) (by omega)
            · cases h
      · cases h
    · cases h
  · cases h
end
end Go.Proofs.Ytdcojinnjpihaaa.X
