/- A plain run of a program on a memory of its own, told by numbers of its blocks: what it says holds of the model's run, whatever the order, the room of rows and the numbers of blocks (XAbsRun). No condition. -/
import Derived.Test.YtdcojinnjpihaaaXMore
import Derived.Orders
import Derived.Deep.AppendSrc
namespace Go.Proofs.Ytdcojinnjpihaaa.X
open Go Go.RowKit

/-! ### Values -/
/-- Where a block of the plain memory lies: block, first cell, cells of an element, where it ends. -/
structure Loc where
  b : Nat
  p : Nat
  sz : Nat
  lim : Nat

/-- A value behind a renaming of blocks: where a slice has room, there may be more of it. -/
inductive VR (μ : Nat → Option Loc) : Value → Value → Prop
  | bool (b) : VR μ (.bool b) (.bool b)
  | int (k n) : VR μ (.int k n) (.int k n)
  | string (s) : VR μ (.string s) (.string s)
  | ptrNone : VR μ (.pointer none) (.pointer none)
  | ptr {k o l} (h : μ k = some l) : VR μ (.pointer (some ⟨k, o, none⟩)) (.pointer (some ⟨l.b, l.p + o, none⟩))
  | sliceNone (n c) : VR μ (.slice none n c) (.slice none n c)
  | slice {k o l n c c'} (h : μ k = some l) (hn : n ≤ c) (hc : c ≤ c') (hl : l.p + o + c' * l.sz ≤ l.lim) : VR μ (.slice (some ⟨k, o, none⟩) n c) (.slice (some ⟨l.b, l.p + o, none⟩) n c')
  | sliceE {k o l p c'} (h : μ k = some l) (hl : p + c' * l.sz ≤ l.lim) : VR μ (.slice (some ⟨k, o, some 0⟩) 0 0) (.slice (some ⟨l.b, p, none⟩) 0 c')
  | mapNone : VR μ (.map none) (.map none)
  | map {k l} (h : μ k = some l) : VR μ (.map (some k)) (.map (some l.b))
  | nilFunc : VR μ .nilFunc .nilFunc
  | nilIface : VR μ .nilIface .nilIface
  | iface {t v v'} (h : VR μ v v') : VR μ (.iface t v) (.iface t v')
  | agg {cs cs'} (hs : cs.size = cs'.size) (h : ∀ (i : Nat) (x y : Value), cs[i]? = some x → cs'[i]? = some y → VR μ x y) : VR μ (.agg cs) (.agg cs')
  | tuple {cs cs'} (hs : cs.size = cs'.size) (h : ∀ (i : Nat) (x y : Value), cs[i]? = some x → cs'[i]? = some y → VR μ x y) : VR μ (.tuple cs) (.tuple cs')
  | func {fn as as' bs bs'} (hs : as.size = as'.size) (h : ∀ (i : Nat) (x y : Value), as[i]? = some x → as'[i]? = some y → VR μ x y)
      (hs2 : bs.size = bs'.size) (h2 : ∀ (i : Nat) (x y : Value), bs[i]? = some x → bs'[i]? = some y → VR μ x y) : VR μ (.func fn as bs) (.func fn as' bs')

/-- Values, one by one. -/
def VL (μ : Nat → Option Loc) (xs ys : List Value) : Prop := xs.length = ys.length ∧ ∀ (i : Nat) (x y : Value), xs[i]? = some x → ys[i]? = some y → VR μ x y

def Ext (μ μ' : Nat → Option Loc) : Prop := ∀ k q, μ k = some q → μ' k = some q

theorem Ext.refl (μ) : Ext μ μ := fun _ _ h => h
theorem Ext.trans {μ μ' μ'' : Nat → Option Loc} (h : Ext μ μ') (h' : Ext μ' μ'') : Ext μ μ'' := fun k q hk => h' k q (h k q hk)

theorem VR.ext {μ μ' : Nat → Option Loc} (he : Ext μ μ') {x y : Value} (h : VR μ x y) : VR μ' x y := by
  induction h with
  | bool b => exact .bool b
  | int k n => exact .int k n
  | string s => exact .string s
  | ptrNone => exact .ptrNone
  | ptr h => exact .ptr (he _ _ h)
  | sliceNone n c => exact .sliceNone n c
  | slice h hn hc hl => exact .slice (he _ _ h) hn hc hl
  | sliceE h hl => exact .sliceE (he _ _ h) hl
  | mapNone => exact .mapNone
  | map h => exact .map (he _ _ h)
  | nilFunc => exact .nilFunc
  | nilIface => exact .nilIface
  | iface _ ih => exact .iface ih
  | agg hs _ ih => exact .agg hs ih
  | tuple hs _ ih => exact .tuple hs ih
  | func hs _ hs2 _ ih ih2 => exact .func hs ih hs2 ih2

theorem VL.ext {μ μ' : Nat → Option Loc} (he : Ext μ μ') {xs ys : List Value} (h : VL μ xs ys) : VL μ' xs ys :=
  ⟨h.1, fun i x y hx hy => (h.2 i x y hx hy).ext he⟩

theorem VL.nil {μ} : VL μ [] [] := ⟨rfl, fun i x y h => by simp at h⟩
theorem VL.cons {μ} {x y : Value} {xs ys : List Value} (h : VR μ x y) (h' : VL μ xs ys) : VL μ (x :: xs) (y :: ys) := by
  refine ⟨by simp [h'.1], fun i u v hu hv => ?_⟩
  cases i with
  | zero => simp at hu hv; subst hu; subst hv; exact h
  | succ i => exact h'.2 i u v (by simpa using hu) (by simpa using hv)
theorem VL.head {μ} {x y : Value} {xs ys : List Value} (h : VL μ (x :: xs) (y :: ys)) : VR μ x y := h.2 0 x y rfl rfl
theorem VL.tail {μ} {x y : Value} {xs ys : List Value} (h : VL μ (x :: xs) (y :: ys)) : VL μ xs ys :=
  ⟨by have := h.1; simp at this; exact this, fun i u v hu hv => h.2 (i + 1) u v (by simpa using hu) (by simpa using hv)⟩
theorem VL.inv_nil {μ} {ys : List Value} (h : VL μ [] ys) : ys = [] := List.eq_nil_of_length_eq_zero (by rw [← h.1]; rfl)
theorem VL.inv_cons {μ} {x : Value} {xs ys : List Value} (h : VL μ (x :: xs) ys) : ∃ y ys', ys = y :: ys' ∧ VR μ x y ∧ VL μ xs ys' := by
  cases ys with
  | nil => have := h.1; simp at this
  | cons y ys => exact ⟨y, ys, rfl, h.head, h.tail⟩
theorem VL.append {μ} {xs ys xs' ys' : List Value} (h : VL μ xs ys) (h' : VL μ xs' ys') : VL μ (xs ++ xs') (ys ++ ys') := by
  induction xs generalizing ys with
  | nil => rw [h.inv_nil]; exact h'
  | cons x xs ih => obtain ⟨y, ys2, rfl, h1, h2⟩ := h.inv_cons; exact .cons h1 (ih h2)
theorem VL.get {μ} {xs ys : List Value} (h : VL μ xs ys) {i : Nat} {x : Value} (hx : xs[i]? = some x) : ∃ y, ys[i]? = some y ∧ VR μ x y := by
  have hl : i < ys.length := by rw [← h.1]; exact (List.getElem?_eq_some_iff.1 hx).1
  exact ⟨ys[i], List.getElem?_eq_some_iff.2 ⟨hl, rfl⟩, h.2 i x _ hx (List.getElem?_eq_some_iff.2 ⟨hl, rfl⟩)⟩
theorem VL.get' {μ} {xs ys : List Value} (h : VL μ xs ys) {i : Nat} {y : Value} (hy : ys[i]? = some y) : ∃ x, xs[i]? = some x ∧ VR μ x y := by
  have hl : i < xs.length := by rw [h.1]; exact (List.getElem?_eq_some_iff.1 hy).1
  exact ⟨xs[i], List.getElem?_eq_some_iff.2 ⟨hl, rfl⟩, h.2 i _ y (List.getElem?_eq_some_iff.2 ⟨hl, rfl⟩) hy⟩
theorem VL.of_get {μ} {xs ys : List Value} (hl : xs.length = ys.length) (h : ∀ (i : Nat) (x : Value), xs[i]? = some x → ∃ y, ys[i]? = some y ∧ VR μ x y) : VL μ xs ys :=
  ⟨hl, fun i x y hx hy => by obtain ⟨z, hz, hr⟩ := h i x hx; rw [hy] at hz; cases hz; exact hr⟩
theorem VL.take {μ} {xs ys : List Value} (h : VL μ xs ys) (n : Nat) : VL μ (xs.take n) (ys.take n) := by
  refine .of_get (by simp [h.1]) fun i x hx => ?_
  rw [List.getElem?_take] at hx
  split at hx
  · rename_i hi
    obtain ⟨y, hy, hr⟩ := h.get hx
    exact ⟨y, by rw [List.getElem?_take, if_pos hi]; exact hy, hr⟩
  · cases hx
theorem VL.drop {μ} {xs ys : List Value} (h : VL μ xs ys) (n : Nat) : VL μ (xs.drop n) (ys.drop n) := by
  refine .of_get (by simp [h.1]) fun i x hx => ?_
  rw [List.getElem?_drop] at hx ⊢
  exact h.get hx

/-- Without addresses, not an aggregate. -/
def flat1 : Value → Bool
  | .bool _ | .int .. | .string _ | .nilFunc | .nilIface | .pointer none | .slice none .. | .map none => true
  | _ => false
def flat2 : Value → Bool
  | .agg cs => cs.toList.all flat1
  | v => flat1 v
def flat : Value → Bool
  | .tuple vs => vs.toList.all flat2
  | v => flat2 v

theorem flat1_rel {μ} {v : Value} (h : flat1 v = true) : VR μ v v := by
  cases v with
  | bool b => exact .bool b
  | int k n => exact .int k n
  | string s => exact .string s
  | nilFunc => exact .nilFunc
  | nilIface => exact .nilIface
  | pointer a => cases a with
    | none => exact .ptrNone
    | some a => simp [flat1] at h
  | slice a n c => cases a with
    | none => exact .sliceNone n c
    | some a => simp [flat1] at h
  | map r => cases r with
    | none => exact .mapNone
    | some a => simp [flat1] at h
  | _ => simp [flat1] at h

theorem flat1_eq {μ} {v v' : Value} (h : flat1 v = true) (hr : VR μ v v') : v' = v := by
  cases hr <;> first | rfl | simp [flat1] at h

theorem vals_eq {cs cs' : Array Value} {f : Value → Bool} {μ : Nat → Option Loc} (hf : ∀ v v', f v = true → VR μ v v' → v' = v) (h : cs.toList.all f = true) (hs : cs.size = cs'.size)
    (hr : ∀ (i : Nat) (x y : Value), cs[i]? = some x → cs'[i]? = some y → VR μ x y) : cs' = cs := by
  apply Array.ext_getElem?
  intro i
  cases h1 : cs[i]? with
  | none => rw [Array.getElem?_eq_none_iff] at h1 ⊢; omega
  | some x =>
    have hi : i < cs'.size := by rw [← hs]; exact (Array.getElem?_eq_some_iff.1 h1).1
    have h2 : cs'[i]? = some cs'[i] := Array.getElem?_eq_some_iff.2 ⟨hi, rfl⟩
    rw [h2]
    have hx : f x = true := List.all_eq_true.mp h x (by
      have := List.mem_of_getElem? (l := cs.toList) (i := i) (a := x) (by rw [Array.getElem?_toList]; exact h1)
      exact this)
    rw [hf x _ hx (hr i x _ h1 h2)]

theorem flat2_eq {μ} {v v' : Value} (h : flat2 v = true) (hr : VR μ v v') : v' = v := by
  cases v with
  | agg cs => cases hr with
    | agg hs hh => rw [vals_eq (fun _ _ => flat1_eq) h hs hh]
  | _ => exact flat1_eq h hr

theorem flat2_rel {μ} {v : Value} (h : flat2 v = true) : VR μ v v := by
  cases v with
  | agg cs =>
    refine .agg rfl fun i x y hx hy => ?_
    rw [hx] at hy; cases hy
    exact flat1_rel (List.all_eq_true.mp h x (List.mem_of_getElem? (l := cs.toList) (i := i) (by rw [Array.getElem?_toList]; exact hx)))
  | _ => exact flat1_rel h

theorem flat_eq {μ} {v v' : Value} (h : flat v = true) (hr : VR μ v v') : v' = v := by
  cases v with
  | tuple cs => cases hr with
    | tuple hs hh => rw [vals_eq (fun _ _ => flat2_eq) h hs hh]
  | _ => exact flat2_eq h hr

theorem flat_rel {μ} {v : Value} (h : flat v = true) : VR μ v v := by
  cases v with
  | tuple cs =>
    refine .tuple rfl fun i x y hx hy => ?_
    rw [hx] at hy; cases hy
    exact flat2_rel (List.all_eq_true.mp h x (List.mem_of_getElem? (l := cs.toList) (i := i) (by rw [Array.getElem?_toList]; exact hx)))
  | _ => exact flat2_rel h

theorem VR.undef {μ} : VR μ undef undef := flat_rel rfl

theorem VR.cells {μ} {v v' : Value} (h : VR μ v v') : VL μ v.cells.toList v'.cells.toList := by
  cases v with
  | agg cs => cases h with
    | agg hs hh => exact ⟨by simpa [Value.cells] using hs, fun i x y hx hy => hh i x y (by simpa [Value.cells] using hx) (by simpa [Value.cells] using hy)⟩
  | _ => 
    have h' := h
    cases h <;> exact .cons h' .nil

/-- Entries of a map, one by one: the same keys, in the same order. -/
def ER (μ : Nat → Option Loc) (xs ys : List MapEntry) : Prop := xs.length = ys.length ∧ ∀ (i : Nat) (x y : MapEntry), xs[i]? = some x → ys[i]? = some y → y.key = x.key ∧ y.born = x.born ∧ VR μ x.val y.val

theorem ER.ext {μ μ' : Nat → Option Loc} (he : Ext μ μ') {xs ys : List MapEntry} (h : ER μ xs ys) : ER μ' xs ys :=
  ⟨h.1, fun i x y hx hy => by obtain ⟨a, b, c⟩ := h.2 i x y hx hy; exact ⟨a, b, c.ext he⟩⟩
theorem ER.nil {μ} : ER μ [] [] := ⟨rfl, fun i x y h => by simp at h⟩
theorem ER.inv_nil {μ} {ys : List MapEntry} (h : ER μ [] ys) : ys = [] := List.eq_nil_of_length_eq_zero (by rw [← h.1]; rfl)
theorem ER.inv_cons {μ} {x : MapEntry} {xs ys : List MapEntry} (h : ER μ (x :: xs) ys) : ∃ y ys', ys = y :: ys' ∧ y.key = x.key ∧ y.born = x.born ∧ VR μ x.val y.val ∧ ER μ xs ys' := by
  cases ys with
  | nil => have := h.1; simp at this
  | cons y ys =>
    obtain ⟨a, b, c⟩ := h.2 0 x y rfl rfl
    exact ⟨y, ys, rfl, a, b, c, by have := h.1; simpa using this, fun i u v hu hv => h.2 (i + 1) u v (by simpa using hu) (by simpa using hv)⟩
theorem ER.cons {μ} {x y : MapEntry} {xs ys : List MapEntry} (h1 : y.key = x.key) (h2 : y.born = x.born) (h3 : VR μ x.val y.val) (h : ER μ xs ys) : ER μ (x :: xs) (y :: ys) := by
  refine ⟨by simp [h.1], fun i u v hu hv => ?_⟩
  cases i with
  | zero => simp at hu hv; subst hu; subst hv; exact ⟨h1, h2, h3⟩
  | succ i => exact h.2 i u v (by simpa using hu) (by simpa using hv)

/-! ### What needs no memory -/
def quiet {α : Type} (P : Program) : Sem α → Option α
  | .pure a => some a
  | .program k => quiet P (k P)
  | _ => none

theorem quiet_run {α : Type} {P : Program} {m : Sem α} {a : α} (h : quiet P m = some a) (W : World) : m.run P W = .ok a W := by
  induction m with
  | pure b => simp only [quiet, Option.some.injEq] at h; subst h; rfl
  | program k ih => simp only [quiet] at h; exact ih P h
  | _ => simp [quiet] at h

/-! ### The memory -/
inductive AObj where
  | row (c : List Value) (e : Nat × Bool)
  | ro (c : List Value) (e : Nat)
  | map (es : List MapEntry) (cl : Nat)
  | dead
  deriving Inhabited

inductive Trie where
  | leaf
  | node (v : Option AObj) (l r : Trie)
  deriving Inhabited

def Trie.get : Trie → Nat → Option AObj
  | .leaf, _ => none
  | .node v l r, n => match n with
    | 0 => v
    | n + 1 => match Nat.beq (n % 2) 0 with
      | true => l.get (n / 2)
      | false => r.get (n / 2)

def Trie.val : Trie → Option AObj
  | .leaf => none
  | .node v _ _ => v
def Trie.left : Trie → Trie
  | .leaf => .leaf
  | .node _ l _ => l
def Trie.right : Trie → Trie
  | .leaf => .leaf
  | .node _ _ r => r

def Trie.setF (o : Option AObj) : Nat → Trie → Nat → Trie
  | 0, t, _ => .node o t.left t.right
  | f + 1, t, n => match n with
    | 0 => .node o t.left t.right
    | n + 1 => match Nat.beq (n % 2) 0 with
      | true => .node t.val (Trie.setF o f t.left (n / 2)) t.right
      | false => .node t.val t.left (Trie.setF o f t.right (n / 2))

theorem Trie.get_eq (t : Trie) (n : Nat) : t.get n = match n with
    | 0 => t.val
    | n + 1 => match Nat.beq (n % 2) 0 with
      | true => t.left.get (n / 2)
      | false => t.right.get (n / 2) := by
  cases t with
  | leaf => cases n with
    | zero => rfl
    | succ n => simp only [Trie.get, Trie.left, Trie.right]; split <;> rfl
  | node v l r => cases n <;> rfl

theorem Trie.get_setF (o : Option AObj) : ∀ (f : Nat) (t : Trie) (n : Nat), n ≤ f → ∀ m, (Trie.setF o f t n).get m = if m = n then o else t.get m := by
  intro f
  induction f with
  | zero =>
    intro t n hn m
    have : n = 0 := by omega
    subst this
    rw [Trie.get_eq, Trie.get_eq t m]
    cases m <;> simp [Trie.setF, Trie.val, Trie.left, Trie.right]
  | succ f ih =>
    intro t n hn m
    cases n with
    | zero =>
      rw [Trie.get_eq, Trie.get_eq t m]
      cases m <;> simp [Trie.setF, Trie.val, Trie.left, Trie.right]
    | succ n =>
      rw [Trie.get_eq t m]
      simp only [Trie.setF]
      cases hb : Nat.beq (n % 2) 0 with
      | true =>
        simp only
        cases m with
        | zero => simp [Trie.get]
        | succ m =>
          simp only [Trie.get]
          cases hm : Nat.beq (m % 2) 0 with
          | true =>
            simp only
            rw [ih _ _ (by omega)]
            have h1 := Nat.eq_of_beq_eq_true hb
            have h2 := Nat.eq_of_beq_eq_true hm
            by_cases e : m / 2 = n / 2
            · rw [if_pos e, if_pos (by omega)]
            · rw [if_neg e, if_neg (by omega)]
          | false =>
            simp only
            rw [if_neg]
            intro e
            have : m = n := by omega
            subst this
            rw [hb] at hm; cases hm
      | false =>
        simp only
        cases m with
        | zero => simp [Trie.get]
        | succ m =>
          simp only [Trie.get]
          cases hm : Nat.beq (m % 2) 0 with
          | false =>
            simp only
            rw [ih _ _ (by omega)]
            have h1 := Nat.ne_of_beq_eq_false hb
            have h2 := Nat.ne_of_beq_eq_false hm
            by_cases e : m / 2 = n / 2
            · rw [if_pos e, if_pos (by omega)]
            · rw [if_neg e, if_neg (by omega)]
          | true =>
            simp only
            rw [if_neg]
            intro e
            have : m = n := by omega
            subst this
            rw [hb] at hm; cases hm

structure Heap where
  next : Nat
  t : Trie
  deriving Inhabited

def Heap.get (H : Heap) (k : Nat) : Option AObj := H.t.get k
def Heap.put (H : Heap) (k : Nat) (o : AObj) : Heap := ⟨H.next, Trie.setF (some o) k H.t k⟩
def Heap.add (H : Heap) (o : AObj) : Heap := ⟨H.next + 1, Trie.setF (some o) H.next H.t H.next⟩
def Heap.drop (H : Heap) (k : Nat) : Heap := ⟨H.next, Trie.setF none k H.t k⟩

theorem Heap.get_put (H : Heap) (k : Nat) (o : AObj) (m : Nat) : (H.put k o).get m = if m = k then some o else H.get m := Trie.get_setF _ _ _ _ (Nat.le_refl _) _
theorem Heap.get_add (H : Heap) (o : AObj) (m : Nat) : (H.add o).get m = if m = H.next then some o else H.get m := Trie.get_setF _ _ _ _ (Nat.le_refl _) _
theorem Heap.get_drop (H : Heap) (k : Nat) (m : Nat) : (H.drop k).get m = if m = k then none else H.get m := Trie.get_setF _ _ _ _ (Nat.le_refl _) _

/-- What lies at a number: of the memory, else of what stands beside it. -/
def ov (H : Heap) (E : Nat → Option AObj) (k : Nat) : Option AObj := match H.get k with
  | some o => some o
  | none => E k

def upd {α : Type} (G : Nat → Option α) (k : Nat) (o : α) (m : Nat) : Option α := if m = k then some o else G m

theorem ov_put (H : Heap) (E : Nat → Option AObj) (k : Nat) (o : AObj) : ov (H.put k o) E = upd (ov H E) k o := by
  funext m
  simp only [ov, upd, Heap.get_put]
  by_cases e : m = k
  · rw [if_pos e, if_pos e]
  · rw [if_neg e, if_neg e]
theorem ov_add (H : Heap) (E : Nat → Option AObj) (o : AObj) : ov (H.add o) E = upd (ov H E) H.next o := by
  funext m
  simp only [ov, upd, Heap.get_add]
  by_cases e : m = H.next
  · rw [if_pos e, if_pos e]
  · rw [if_neg e, if_neg e]
theorem ov_get {H : Heap} {E : Nat → Option AObj} {k : Nat} {o : AObj} (h : H.get k = some o) : ov H E k = some o := by simp [ov, h]
theorem upd_ext {μ : Nat → Option Loc} {k : Nat} {q : Loc} (h : μ k = none) : Ext μ (upd μ k q) := fun j r hj => by
  unfold upd
  rw [if_neg (fun e => by rw [e, h] at hj; cases hj)]
  exact hj
theorem upd_same {α : Type} (G : Nat → Option α) (k : Nat) (o : α) : upd G k o k = some o := by simp [upd]
theorem upd_ne {α : Type} {G : Nat → Option α} {k m : Nat} {o : α} (h : m ≠ k) : upd G k o m = G m := by simp [upd, h]

/-- The model's memory is this one, behind a renaming. -/
structure HR (P : Program) (w0 : World) (μ : Nat → Option Loc) (G : Nat → Option AObj) (W : World) : Prop where
  below : Below w0.heap.size w0 W
  row : ∀ k c e, G k = some (.row c e) → ∃ l C fr, μ k = some l ∧ w0.heap.size ≤ l.b ∧ W.heap[l.b]? = some (.cells C e.1 fr) ∧ (∀ i, i < C.size → ¬ (fr.1 ≤ i ∧ i < fr.2)) ∧ l.lim ≤ C.size ∧ ((P.info? e.1).map (·.size) = some l.sz ∧ l.p + c.length ≤ l.lim ∧ (e.2 = true → l.p = 0 ∧ C.size = c.length)) ∧
    ∀ (i : Nat) (x : Value), c[i]? = some x → ∃ y, C[l.p + i]? = some y ∧ VR μ x y
  ro : ∀ k c e, G k = some (.ro c e) → ∃ l, μ k = some l ∧ l.b < w0.heap.size ∧ (P.info? e).map (·.size) = some l.sz ∧ ∀ (i : Nat) (x : Value), c[i]? = some x → ∃ y, w0.cell? ⟨l.b, l.p + i, none⟩ = some y ∧ VR μ x y
  inj : ∀ k k' c c' e e' l l', G k = some (.row c e) → G k' = some (.row c' e') → μ k = some l → μ k' = some l' → l.b = l'.b → k = k'
  mp : ∀ k es cl, G k = some (.map es cl) → ∃ l es', μ k = some l ∧ w0.heap.size ≤ l.b ∧ W.heap[l.b]? = some (.map es' cl) ∧ ER μ es es'.toList
  minj : ∀ k k' es es' cl cl' l l', G k = some (.map es cl) → G k' = some (.map es' cl') → μ k = some l → μ k' = some l' → l.b = l'.b → k = k'

/-- Less is told. -/
theorem HR.less {P : Program} {w0 W : World} {μ : Nat → Option Loc} {G G' : Nat → Option AObj} (h : HR P w0 μ G W) (hg : ∀ k o, G' k = some o → o ≠ .dead → G k = some o) : HR P w0 μ G' W :=
  ⟨h.below, fun k c e hk => h.row k c e (hg k _ hk (by simp)), fun k c e hk => h.ro k c e (hg k _ hk (by simp)), fun k k' c c' e e' l l' h1 h2 => h.inj k k' c c' e e' l l' (hg k _ h1 (by simp)) (hg k' _ h2 (by simp)),
    fun k es cl hk => h.mp k es cl (hg k _ hk (by simp)), fun k k' es es' cl cl' l l' h1 h2 => h.minj k k' es es' cl cl' l l' (hg k _ h1 (by simp)) (hg k' _ h2 (by simp))⟩

theorem HR.drew {P : Program} {w0 W : World} {μ : Nat → Option Loc} {G : Nat → Option AObj} (h : HR P w0 μ G W) (n : Nat) : HR P w0 μ G { W with drawn := n } :=
  ⟨⟨h.below.os, h.below.tape, h.below.output, h.below.size, h.below.block⟩, h.row, h.ro, h.inj, h.mp, h.minj⟩

/-- The cells that are told of a block. -/
def cellsAt (G : Nat → Option AObj) (k : Nat) : Option (List Value) := match G k with
  | some (.row c _) => some c
  | some (.ro c _) => some c
  | _ => none

section
variable {P : Program} {w0 W : World} {μ : Nat → Option Loc} {G : Nat → Option AObj}

theorem HR.cell (h : HR P w0 μ G W) {k i : Nat} {l : Loc} {c : List Value} {x : Value} (hc : cellsAt G k = some c) (hm : μ k = some l) (hx : c[i]? = some x) :
    ∃ y, W.cell? ⟨l.b, l.p + i, none⟩ = some y ∧ VR μ x y := by
  unfold cellsAt at hc
  split at hc
  · rename_i c' e hg
    cases hc
    obtain ⟨l', C, fr, hm', hb, hw, _, _, _, hcell⟩ := h.row k c e hg
    rw [hm] at hm'; cases hm'
    obtain ⟨y, hy, hr⟩ := hcell i x hx
    exact ⟨y, by simp [World.cell?, hw, hy], hr⟩
  · rename_i c' e hg
    cases hc
    obtain ⟨l', hm', hb, _, hcell⟩ := h.ro k c e hg
    rw [hm] at hm'; cases hm'
    obtain ⟨y, hy, hr⟩ := hcell i x hx
    exact ⟨y, by rw [h.below.cell (p := ⟨l.b, l.p + i, none⟩) hb]; exact hy, hr⟩
  · cases hc

/-- Cells in a row. -/
theorem HR.cells (h : HR P w0 μ G W) {k o : Nat} {l : Loc} {c vs : List Value} (hc : cellsAt G k = some c) (hm : μ k = some l) (hv : ∀ (i : Nat) (x : Value), vs[i]? = some x → c[o + i]? = some x) :
    ∃ ys, VL μ vs ys ∧ ∀ (j : Nat) (y : Value), ys[j]? = some y → W.cell? ⟨l.b, l.p + o + j, none⟩ = some y := by
  induction vs generalizing o with
  | nil => exact ⟨[], .nil, fun j y hj => by simp at hj⟩
  | cons x r ih =>
    obtain ⟨y, hy, hr⟩ := h.cell hc hm (hv 0 x rfl)
    obtain ⟨ys, h1, h2⟩ := ih (o := o + 1) (fun i z hz => by have := hv (i + 1) z (by simpa using hz); rwa [show o + (i + 1) = o + 1 + i by omega] at this)
    refine ⟨y :: ys, .cons hr h1, fun j z hz => ?_⟩
    cases j with
    | zero => simp at hz; subst hz; simpa using hy
    | succ j =>
      have := h2 j z (by simpa using hz)
      rwa [show l.p + o + (j + 1) = l.p + (o + 1) + j by omega]

/-- A new block. -/
theorem HR.alloc (h : HR P w0 μ G W) {k : Nat} (hk : μ k = none) {c c' : List Value} {e : Nat × Bool} {sz lim : Nat} {fr : Nat × Nat} (hc : ∀ (i : Nat) (x : Value), c[i]? = some x → ∃ y, c'[i]? = some y ∧ VR μ x y)
    (hfr : ∀ i, i < c'.length → ¬ (fr.1 ≤ i ∧ i < fr.2)) (hlim : lim ≤ c'.length) (hcl : c.length ≤ lim) (hsz : (P.info? e.1).map (·.size) = some sz) (hx : e.2 = true → c'.length = c.length) : HR P w0 (upd μ k ⟨W.heap.size, 0, sz, lim⟩) (upd G k (.row c e)) (W.alloc (.cells c'.toArray e.1 fr)) := by
  have he : Ext μ (upd μ k ⟨W.heap.size, 0, sz, lim⟩) := upd_ext hk
  have hold : ∀ b o, W.heap[b]? = some o → (W.alloc (.cells c'.toArray e.1 fr)).heap[b]? = some o := fun b o hb => by
    have := wlt hb
    exact ((World.grownBy_alloc W _ none).block b this (by simp)).trans hb
  refine ⟨h.below.alloc h.below.size _, ?_, ?_, ?_, fun j es cl hj => ?_, fun i j es es' cl cl' l l' hi hj hmi hmj hb => ?_⟩
  rotate_right 2
  · unfold upd at hj
    split at hj
    · cases hj
    · obtain ⟨l, es', h1, h2, h3, h4⟩ := h.mp j es cl hj
      exact ⟨l, es', he _ _ h1, h2, hold _ _ h3, h4.ext he⟩
  · have hik : i ≠ k := fun e => by subst e; rw [upd_same] at hi; cases hi
    have hjk : j ≠ k := fun e => by subst e; rw [upd_same] at hj; cases hj
    rw [upd_ne hik] at hi hmi
    rw [upd_ne hjk] at hj hmj
    exact h.minj i j es es' cl cl' l l' hi hj hmi hmj hb
  · intro j d e' hj
    unfold upd at hj
    split at hj
    · rename_i hjk
      cases hj
      subst hjk
      refine ⟨⟨W.heap.size, 0, sz, lim⟩, c'.toArray, fr, by simp [upd], h.below.size, heap_alloc_new W _, by simpa using hfr, by simpa using hlim, ⟨hsz, by simpa using hcl, fun he2 => ⟨rfl, by simpa using hx he2⟩⟩, fun i x hx => ?_⟩
      obtain ⟨y, hy, hr⟩ := hc i x hx
      exact ⟨y, by simpa using hy, hr.ext he⟩
    · obtain ⟨l, C, fr', h1, h2, h3, h4, h4', h4'', h5⟩ := h.row j d e' hj
      exact ⟨l, C, fr', he _ _ h1, h2, hold _ _ h3, h4, h4', h4'', fun i x hx => by obtain ⟨y, hy, hr⟩ := h5 i x hx; exact ⟨y, hy, hr.ext he⟩⟩
  · intro j d e' hj
    unfold upd at hj
    split at hj
    · cases hj
    · obtain ⟨l, h1, h2, h2', h3⟩ := h.ro j d e' hj
      exact ⟨l, he _ _ h1, h2, h2', fun i x hx => by obtain ⟨y, hy, hr⟩ := h3 i x hx; exact ⟨y, hy, hr.ext he⟩⟩
  · intro i j d d' e1 e2 l l' hi hj hmi hmj hb
    have old : ∀ (j : Nat) (d : List Value) (e1 : Nat × Bool) (l : Loc), j ≠ k → upd G k (.row c e) j = some (.row d e1) → upd μ k ⟨W.heap.size, 0, sz, lim⟩ j = some l → l.b < W.heap.size := by
      intro j d e1 l hne hj hm
      rw [upd_ne hne] at hj hm
      obtain ⟨l', C, fr', h1, h2, h3, _⟩ := h.row j d e1 hj
      rw [hm] at h1; cases h1
      exact wlt h3
    by_cases hik : i = k
    · by_cases hjk : j = k
      · rw [hik, hjk]
      · have := old j d' e2 l' hjk hj hmj
        subst hik
        rw [upd_same] at hmi
        cases hmi
        simp at hb
        omega
    · by_cases hjk : j = k
      · have := old i d e1 l hik hi hmi
        subst hjk
        rw [upd_same] at hmj
        cases hmj
        simp at hb
        omega
      · rw [upd_ne hik] at hi hmi
        rw [upd_ne hjk] at hj hmj
        exact h.inj i j d d' e1 e2 l l' hi hj hmi hmj hb

/-- Cells are put into a row's block; the row is told by another number from there on, or by the same. -/
theorem HR.move (h : HR P w0 μ G W) {k k2 : Nat} {l : Loc} {c c2 vs : List Value} {e e2 : Nat × Bool} {o p2 : Nat} (hee : e2.1 = e.1) (hxx : e2.2 = true → e.2 = true ∧ p2 = l.p ∧ c2.length = c.length) (hk : G k = some (.row c e)) (hm : μ k = some l) (ho : o + vs.length ≤ l.lim) (hc2 : p2 + c2.length ≤ l.lim) (hk2 : k2 = k ∧ p2 = l.p ∨ k2 ≠ k ∧ μ k2 = none)
    (hc : ∀ C : Array Value, (∀ (i : Nat) (x : Value), c[i]? = some x → ∃ y, C[l.p + i]? = some y ∧ VR μ x y) → ∀ C2 : Array Value, C2.size = C.size → (∀ i, C2[i]? = if o ≤ i ∧ i < o + vs.length then vs[i - o]? else C[i]?) → ∀ (i : Nat) (x : Value), c2[i]? = some x → ∃ y, C2[p2 + i]? = some y ∧ VR μ x y) :
    HR P w0 (upd μ k2 ⟨l.b, p2, l.sz, l.lim⟩) (upd (upd G k .dead) k2 (.row c2 e2)) (W.setCells l.b o vs) := by
  obtain ⟨l', C, fr, h1, hb, hw, hfr, hlim, hsz, hcell⟩ := h.row k c e hk
  rw [hm] at h1; cases h1
  obtain ⟨C2, g1, g2, g3, g4, g5, g6, g7, g8⟩ := setCells_block l.b vs o W C e.1 fr hw (by omega)
  have he : Ext μ (upd μ k2 ⟨l.b, p2, l.sz, l.lim⟩) := by
    rcases hk2 with ⟨rfl, rfl⟩ | ⟨_, h2⟩
    · intro j r hj
      by_cases ee : j = k2
      · subst ee; rw [upd_same]; rw [hm] at hj; cases hj; rfl
      · rw [upd_ne ee]; exact hj
    · exact upd_ext h2
  have hG : ∀ j d e', upd (upd G k .dead) k2 (.row c2 e2) j = some (.row d e') → j ≠ k2 → j ≠ k ∧ G j = some (.row d e') := by
    intro j d e' hj hne
    rw [upd_ne hne] at hj
    by_cases ee : j = k
    · subst ee; rw [upd_same] at hj; cases hj
    · rw [upd_ne ee] at hj; exact ⟨ee, hj⟩
  have hM : ∀ j es cl, upd (upd G k .dead) k2 (.row c2 e2) j = some (.map es cl) → j ≠ k2 ∧ G j = some (.map es cl) := by
    intro j es cl hj
    by_cases hjk : j = k2
    · subst hjk; rw [upd_same] at hj; cases hj
    · rw [upd_ne hjk] at hj
      by_cases ee : j = k
      · subst ee; rw [upd_same] at hj; cases hj
      · rw [upd_ne ee] at hj; exact ⟨hjk, hj⟩
  have hmu : ∀ j l', j ≠ k2 → upd μ k2 ⟨l.b, p2, l.sz, l.lim⟩ j = some l' → μ j = some l' := fun j l' hne hj => by rw [upd_ne hne] at hj; exact hj
  refine ⟨⟨g6.trans h.below.os, g7.trans h.below.tape, g8.trans h.below.output, by rw [g5]; exact h.below.size, fun i hi => by rw [g4 i (by omega)]; exact h.below.block i hi⟩, ?_, ?_, ?_, fun j es cl hj => ?_, fun i j es es' cl cl' l1 l2 hi hj hmi hmj hb => ?_⟩
  rotate_right 2
  · obtain ⟨hne, hj'⟩ := hM j es cl hj
    obtain ⟨l1, es', h1, h2, h3, h4⟩ := h.mp j es cl hj'
    refine ⟨l1, es', he _ _ h1, h2, ?_, h4.ext he⟩
    rw [g4 l1.b, h3]
    intro ee
    rw [ee, hw] at h3
    cases h3
  · obtain ⟨hne, hi'⟩ := hM i es cl hi
    obtain ⟨hne', hj'⟩ := hM j es' cl' hj
    exact h.minj i j es es' cl cl' l1 l2 hi' hj' (hmu i l1 hne hmi) (hmu j l2 hne' hmj) hb
  · intro j d e' hj
    by_cases hjk : j = k2
    · subst hjk
      rw [upd_same] at hj
      cases hj
      refine ⟨⟨l.b, p2, l.sz, l.lim⟩, C2, fr, upd_same _ _ _, hb, by rw [hee]; exact g1, by rw [g2]; exact hfr, by rw [g2]; exact hlim, ⟨by rw [hee]; exact hsz.1, hc2, fun h9 => by obtain ⟨x1, x2, x3⟩ := hxx h9; obtain ⟨y1, y2⟩ := hsz.2.2 x1; exact ⟨by rw [x2, y1], by rw [g2, y2, x3]⟩⟩, fun i x hx => ?_⟩
      obtain ⟨y, hy, hr⟩ := hc C hcell C2 g2 g3 i x hx
      exact ⟨y, hy, hr.ext he⟩
    · obtain ⟨hne, hj'⟩ := hG j d e' hj hjk
      obtain ⟨l1, C', fr', q1, q2, q3, q4, q5, q6, q7⟩ := h.row j d e' hj'
      refine ⟨l1, C', fr', he _ _ q1, q2, ?_, q4, q5, q6, fun i x hx => by obtain ⟨y, hy, hr⟩ := q7 i x hx; exact ⟨y, hy, hr.ext he⟩⟩
      rw [g4 l1.b, q3]
      intro ee
      exact hne (h.inj j k d c e' e l1 l hj' hk q1 hm ee)
  · intro j d e' hj
    have hj' : G j = some (.ro d e') := by
      by_cases hjk : j = k2
      · subst hjk; rw [upd_same] at hj; cases hj
      · rw [upd_ne hjk] at hj
        by_cases ee : j = k
        · subst ee; rw [upd_same] at hj; cases hj
        · rw [upd_ne ee] at hj; exact hj
    obtain ⟨l1, q1, q2, q2', q3⟩ := h.ro j d e' hj'
    exact ⟨l1, he _ _ q1, q2, q2', fun i x hx => by obtain ⟨y, hy, hr⟩ := q3 i x hx; exact ⟨y, hy, hr.ext he⟩⟩
  · intro i j d d' e1 e3 l1 l2 hi hj hmi hmj hbb
    by_cases hik : i = k2
    · by_cases hjk : j = k2
      · rw [hik, hjk]
      · exfalso
        subst hik
        rw [upd_same] at hmi
        cases hmi
        obtain ⟨hne, hj'⟩ := hG j d' e3 hj hjk
        exact hne (h.inj j k d' c e3 e l2 l hj' hk (hmu j l2 hjk hmj) hm hbb.symm)
    · obtain ⟨hne, hi'⟩ := hG i d e1 hi hik
      by_cases hjk : j = k2
      · exfalso
        subst hjk
        rw [upd_same] at hmj
        cases hmj
        exact hne (h.inj i k d c e1 e l1 l hi' hk (hmu i l1 hik hmi) hm hbb)
      · obtain ⟨_, hj'⟩ := hG j d' e3 hj hjk
        exact h.inj i j d d' e1 e3 l1 l2 hi' hj' (hmu i l1 hik hmi) (hmu j l2 hjk hmj) hbb

/-- A new map. -/
theorem HR.newMap (h : HR P w0 μ G W) {k : Nat} (hk : μ k = none) (l0 : Loc) (hl0 : l0.b = W.heap.size) : HR P w0 (upd μ k l0) (upd G k (.map [] 0)) (W.alloc (.map #[] 0)) := by
  have he : Ext μ (upd μ k l0) := upd_ext hk
  have hold : ∀ b o, W.heap[b]? = some o → (W.alloc (.map #[] 0)).heap[b]? = some o := fun b o hb =>
    ((World.grownBy_alloc W _ none).block b (wlt hb) (by simp)).trans hb
  have hne : ∀ j o l, j ≠ k → upd G k (.map [] 0) j = some o → upd μ k l0 j = some l → G j = some o ∧ μ j = some l := fun j o l hj h1 h2 => by
    rw [upd_ne hj] at h1 h2; exact ⟨h1, h2⟩
  refine ⟨h.below.alloc h.below.size _, ?_, ?_, ?_, ?_, ?_⟩
  · intro j d e' hj
    have hjk : j ≠ k := fun e => by subst e; rw [upd_same] at hj; cases hj
    rw [upd_ne hjk] at hj
    obtain ⟨l, C, fr', h1, h2, h3, h4, h4', h4'', h5⟩ := h.row j d e' hj
    exact ⟨l, C, fr', he _ _ h1, h2, hold _ _ h3, h4, h4', h4'', fun i x hx => by obtain ⟨y, hy, hr⟩ := h5 i x hx; exact ⟨y, hy, hr.ext he⟩⟩
  · intro j d e' hj
    have hjk : j ≠ k := fun e => by subst e; rw [upd_same] at hj; cases hj
    rw [upd_ne hjk] at hj
    obtain ⟨l, h1, h2, h2', h3⟩ := h.ro j d e' hj
    exact ⟨l, he _ _ h1, h2, h2', fun i x hx => by obtain ⟨y, hy, hr⟩ := h3 i x hx; exact ⟨y, hy, hr.ext he⟩⟩
  · intro i j d d' e1 e2 l l' hi hj hmi hmj hb
    have hik : i ≠ k := fun e => by subst e; rw [upd_same] at hi; cases hi
    have hjk : j ≠ k := fun e => by subst e; rw [upd_same] at hj; cases hj
    obtain ⟨hi, hmi⟩ := hne i _ _ hik hi hmi
    obtain ⟨hj, hmj⟩ := hne j _ _ hjk hj hmj
    exact h.inj i j d d' e1 e2 l l' hi hj hmi hmj hb
  · intro j es cl hj
    by_cases hjk : j = k
    · subst hjk
      rw [upd_same] at hj
      cases hj
      exact ⟨l0, #[], upd_same _ _ _, by rw [hl0]; exact h.below.size, by rw [hl0]; exact heap_alloc_new W _, .nil⟩
    · rw [upd_ne hjk] at hj
      obtain ⟨l, es', h1, h2, h3, h4⟩ := h.mp j es cl hj
      exact ⟨l, es', he _ _ h1, h2, hold _ _ h3, h4.ext he⟩
  · intro i j es es' cl cl' l l' hi hj hmi hmj hb
    have old : ∀ j es cl l, j ≠ k → upd G k (.map [] 0) j = some (.map es cl) → upd μ k l0 j = some l → l.b < W.heap.size := fun j es cl l hjk hj hm => by
      obtain ⟨hj, hm⟩ := hne j _ _ hjk hj hm
      obtain ⟨l', es', h1, h2, h3, h4⟩ := h.mp j es cl hj
      rw [hm] at h1; cases h1
      exact wlt h3
    by_cases hik : i = k
    · by_cases hjk : j = k
      · rw [hik, hjk]
      · have := old j es' cl' l' hjk hj hmj
        subst hik
        rw [upd_same] at hmi
        cases hmi
        omega
    · by_cases hjk : j = k
      · have := old i es cl l hik hi hmi
        subst hjk
        rw [upd_same] at hmj
        cases hmj
        omega
      · obtain ⟨hi, hmi⟩ := hne i _ _ hik hi hmi
        obtain ⟨hj, hmj⟩ := hne j _ _ hjk hj hmj
        exact h.minj i j es es' cl cl' l l' hi hj hmi hmj hb

/-- A map's entries are others. -/
theorem HR.putMap (h : HR P w0 μ G W) {k : Nat} {l : Loc} {es es2 : List MapEntry} {cl cl2 : Nat} {es2' : Array MapEntry} (hk : G k = some (.map es cl)) (hm : μ k = some l) (he : ER μ es2 es2'.toList) :
    HR P w0 μ (upd G k (.map es2 cl2)) { W with heap := W.heap.setIfInBounds l.b (.map es2' cl2) } := by
  obtain ⟨l', es', h1, h2, h3, h4⟩ := h.mp k es cl hk
  rw [hm] at h1; cases h1
  have hlt := wlt h3
  have hsame : (W.heap.setIfInBounds l.b (.map es2' cl2))[l.b]? = some (.map es2' cl2) := by simp [hlt]
  have hoth : ∀ b, b ≠ l.b → (W.heap.setIfInBounds l.b (.map es2' cl2))[b]? = W.heap[b]? := fun b hb => by simp [Ne.symm hb]
  refine ⟨⟨h.below.os, h.below.tape, h.below.output, by simpa using h.below.size, fun i hi => by show (W.heap.setIfInBounds l.b _)[i]? = _; rw [hoth i (by omega)]; exact h.below.block i hi⟩, ?_, ?_, ?_, ?_, ?_⟩
  · intro j d e' hj
    have hjk : j ≠ k := fun e => by subst e; rw [upd_same] at hj; cases hj
    rw [upd_ne hjk] at hj
    obtain ⟨l1, C, fr', g1, g2, g3, g4⟩ := h.row j d e' hj
    refine ⟨l1, C, fr', g1, g2, ?_, g4⟩
    show (W.heap.setIfInBounds l.b _)[l1.b]? = _
    rw [hoth l1.b, g3]
    intro ee
    rw [ee, h3] at g3
    cases g3
  · intro j d e' hj
    have hjk : j ≠ k := fun e => by subst e; rw [upd_same] at hj; cases hj
    rw [upd_ne hjk] at hj
    exact h.ro j d e' hj
  · intro i j d d' e1 e2 l1 l2 hi hj
    have hik : i ≠ k := fun e => by subst e; rw [upd_same] at hi; cases hi
    have hjk : j ≠ k := fun e => by subst e; rw [upd_same] at hj; cases hj
    rw [upd_ne hik] at hi
    rw [upd_ne hjk] at hj
    exact h.inj i j d d' e1 e2 l1 l2 hi hj
  · intro j fs c hj
    by_cases hjk : j = k
    · subst hjk
      rw [upd_same] at hj
      cases hj
      exact ⟨l, es2', hm, h2, hsame, he⟩
    · rw [upd_ne hjk] at hj
      obtain ⟨l1, fs', g1, g2, g3, g4⟩ := h.mp j fs c hj
      refine ⟨l1, fs', g1, g2, ?_, g4⟩
      show (W.heap.setIfInBounds l.b _)[l1.b]? = _
      rw [hoth l1.b, g3]
      intro ee
      exact hjk (h.minj j k fs es c cl l1 l hj hk g1 hm ee)
  · intro i j fs fs' c c' l1 l2 hi hj hmi hmj hb
    have key : ∀ j fs c, upd G k (.map es2 cl2) j = some (.map fs c) → ∃ fs0 c0, G j = some (.map fs0 c0) := fun j fs c hj => by
      by_cases hjk : j = k
      · subst hjk; exact ⟨es, cl, hk⟩
      · rw [upd_ne hjk] at hj; exact ⟨fs, c, hj⟩
    obtain ⟨_, _, hi'⟩ := key i fs c hi
    obtain ⟨_, _, hj'⟩ := key j fs' c' hj
    exact h.minj i j _ _ _ _ l1 l2 hi' hj' hmi hmj hb
end
end Go.Proofs.Ytdcojinnjpihaaa.X
