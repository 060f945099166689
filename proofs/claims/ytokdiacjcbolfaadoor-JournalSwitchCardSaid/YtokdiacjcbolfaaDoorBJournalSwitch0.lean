import Derived.ArgAppend
import Derived.Below
import Derived.ChangeKeysEq
import Derived.ChangeOld
import Derived.Deep.AppendSrc
import Derived.Deep.DeepHandedRow
import Derived.Deep.Quiet
import Derived.Deep.Upon
import Derived.KernelRfl
import Derived.Laws.BytesArg
import Derived.Laws.LoneSync
import Derived.Laws.MakeOwn
import Derived.Laws.StructEq
import Derived.Lib.ConvBytes
import Derived.Lib.LaidTab
import Derived.LoopN
import Derived.Maps.AppendAt
import Derived.OpenShut
import Derived.Orders
import Derived.ProofKit
import Derived.ShutString
import Derived.SizedLaws
import Derived.Test.YtokdiacjcbolfaaDoorProg
import Derived.WalkKit
set_option linter.unusedVariables false
set_option linter.unusedSimpArgs false
namespace Go.Proofs.YtokdiacjcbolfaaDoor.X
open Go Go.RowKit
theorem KR {p : Prop} (h : p := by kernel_rfl) : p := h
def look : List (Nat × Value) → Nat → Option Value
 | [], _ => none
 | p :: r, i => match Nat.beq p.1 i with
  | true => some p.2
  | false => look r i
def ev (l : List (Nat × Value)) : Operand → Value
 | .tmp t => (look l t).getD undef
 | .const v => v
 | .global g => .pointer (some ⟨g, 0, none⟩)
 | .func f => .func (.func f) #[] #[]
structure Has (n : Nat) (l : List (Nat × Value)) (a : Act) : Prop where
 size : a.tmps.size = n
 defers : a.defers = []
 slot : ∀ i v, look l i = some v → a.tmps[i]? = some v
def known1 (l : List (Nat × Value)) : Operand → Bool
 | .tmp t => (look l t).isSome
 | _ => true
def noSel (o : Oper) : Bool := match o.op with
 | .select .. => false
 | _ => true
def known (l : List (Nat × Value)) (o : Oper) : Bool := noSel o && o.op.operands.all (known1 l)
def yl (l : List (Nat × Value)) (ops : Array Oper) (j : Nat) : Option Bool :=
 match ((ops[j]?).bind (·.dst)).bind (look l) with
 | some (.bool b) => some b
 | _ => none
def onB (l : List (Nat × Value)) (ops : Array Oper) : Option (Nat × Bool) → Bool
 | none => true
 | some (j, want) => match yl l ops j with
  | some b => b == want
  | none => false
def isB : Value → Bool
 | .bool _ => true
 | _ => false
def offB (l : List (Nat × Value)) (ops : Array Oper) : Option (Nat × Bool) → Bool
 | none => false
 | some (j, want) => match yl l ops j with
  | some b => b != want
  | none => match ((ops[j]?).bind (·.dst)).bind (look l) with
   | some v => !isB v
   | none => false
section
variable {n : Nat} {l : List (Nat × Value)} {a : Act}
theorem Has.ev_eq (h : Has n l a) (x : Operand) (hx : known1 l x = true) : a.eval x = ev l x := by
 cases x with
 | tmp t =>
  simp only [known1, Option.isSome_iff_exists] at hx
  obtain ⟨v, hv⟩ := hx
  have := h.slot t v hv
  simp [Act.eval, ev, hv, Array.getD_eq_getD_getElem?, this]
 | const v => rfl
 | global g => rfl
 | func f => rfl
theorem exec_eq (h : Has n l a) (o : Oper) (hk : known l o = true) : execOp a.eval o = execOp (ev l) o := by
 simp only [known, Bool.and_eq_true] at hk
 refine execOp_congr o ?_ ?_
 ·intro cs b e
  simp [noSel, e] at hk
 ·intro x hx
  have := hk.2
  rw [Array.all_eq_true_iff_forall_mem] at this
  exact h.ev_eq x (this x hx)
theorem Has.yl_eq (h : Has n l a) (ops : Array Oper) (j : Nat) (b : Bool) (hy : yl l ops j = some b) : yielded ops a.tmps j = some b := by
 unfold yl at hy
 unfold yielded
 cases hd : (ops[j]?).bind (·.dst) with
 | none => simp [hd] at hy
 | some d =>
  simp only [hd, Option.bind_some] at hy ⊢
  cases hv : look l d with
  | none => simp [hv] at hy
  | some v =>
   rw [h.slot d v hv]
   simp only [hv] at hy
   exact hy
theorem Has.on (h : Has n l a) (ops : Array Oper) (o : Oper) (hb : onB l ops o.guard = true) : Region.wanted o (yielded ops a.tmps) = true := by
 unfold Region.wanted
 cases hg : o.guard with
 | none => rfl
 | some p =>
  obtain ⟨j, want⟩ := p
  simp only [hg, onB] at hb
  cases hy : yl l ops j with
  | none => simp [hy] at hb
  | some b =>
   simp only [hy] at hb
   simp [h.yl_eq ops j b hy, beq_iff_eq.mp hb]
theorem Has.off (h : Has n l a) (ops : Array Oper) (o : Oper) (hb : offB l ops o.guard = true) : Region.wanted o (yielded ops a.tmps) = false := by
 unfold Region.wanted
 cases hg : o.guard with
 | none => simp [hg, offB] at hb
 | some p =>
  obtain ⟨j, want⟩ := p
  simp only [hg, offB] at hb
  cases hy : yl l ops j with
  | none =>
   simp only [hy] at hb
   cases hd : (ops[j]?).bind (·.dst) with
   | none => simp [hd] at hb
   | some d =>
    simp only [hd, Option.bind_some] at hb
    cases hv : look l d with
    | none => simp [hv] at hb
    | some v =>
     simp only [hv] at hb
     have hyl : yielded ops a.tmps j = none := by
      unfold yielded
      rw [hd, Option.bind_some, h.slot d v hv]
      cases v <;> first | rfl | (simp [isB] at hb)
     simp [hyl]
  | some b =>
   simp only [hy, bne_iff_ne, ne_eq] at hb
   simp [h.yl_eq ops j b hy, hb]
theorem Has.put (h : Has n l a) {d : Nat} (hd : d < n) (v : Value) : Has n ((d, v) :: l) (a.put (some d) v) := by
 refine ⟨by simp [Act.put, h.size], h.defers, ?_⟩
 intro i u hu
 simp only [look] at hu
 show (a.tmps.setIfInBounds d v)[i]? = some u
 rw [Array.getElem?_setIfInBounds]
 cases hb : Nat.beq d i with
 | true =>
  have e : d = i := Nat.eq_of_beq_eq_true hb
  subst e
  simp only [hb] at hu
  rw [if_pos rfl, if_pos (by rw [h.size]; exact hd)]
  exact hu
 | false =>
  have e : d ≠ i := Nat.ne_of_beq_eq_false hb
  simp only [hb] at hu
  rw [if_neg e]
  exact h.slot i u hu
theorem Has.sub {l' : List (Nat × Value)} (h : Has n l a) (hs : ∀ p, p ∈ l' → look l p.1 = some p.2) : Has n l' a := by
 refine ⟨h.size, h.defers, ?_⟩
 intro i v hv
 have : ∀ (m : List (Nat × Value)), look m i = some v → (i, v) ∈ m := by
  intro m
  induction m with
  | nil => intro h; simp [look] at h
  | cons p r ih =>
   intro hm
   simp only [look] at hm
   cases hb : Nat.beq p.1 i with
   | true =>
    simp only [hb] at hm
    have e : p.1 = i := Nat.eq_of_beq_eq_true hb
    have e2 : p.2 = v := Option.some.inj hm
    have : p = (i, v) := Prod.ext e e2
    rw [this]; exact List.mem_cons_self
   | false =>
    simp only [hb] at hm
    exact List.mem_cons_of_mem _ (ih hm)
 exact h.slot i v (hs (i, v) (this l' hv))
theorem Has.bool (h : Has n l a) (d : Nat) {b c : Bool} (hl : look l d = some (.bool b)) (hb : b = c) : Has n ((d, .bool c) :: l) a := by
 subst hb
 refine ⟨h.size, h.defers, ?_⟩
 intro i u hu
 simp only [look] at hu
 cases hd : Nat.beq d i with
 | true =>
  simp only [hd] at hu
  have e : d = i := Nat.eq_of_beq_eq_true hd
  subst e
  rw [← hu]
  exact h.slot d _ hl
 | false =>
  simp only [hd] at hu
  exact h.slot i u hu
theorem Has.turn (h : Has n l a) (d : Nat) {u v : Value} (hl : look l d = some u) (e : u = v) : Has n ((d, v) :: l) a := by
 subst e
 refine ⟨h.size, h.defers, ?_⟩
 intro i w hu
 simp only [look] at hu
 cases hd : Nat.beq d i with
 | true =>
  simp only [hd] at hu
  have e : d = i := Nat.eq_of_beq_eq_true hd
  subst e
  rw [← hu]
  exact h.slot d _ hl
 | false =>
  simp only [hd] at hu
  exact h.slot i w hu
end
theorem q0t (l : List (Nat × Value)) : ∀ p, p ∈ ([] : List (Nat × Value)) → look l p.1 = some p.2 := fun p h => by cases h
theorem q05 {l r : List (Nat × Value)} {i : Nat} {v : Value} (h : look l i = some v) (hr : ∀ p, p ∈ r → look l p.1 = some p.2) : ∀ p, p ∈ (i, v) :: r → look l p.1 = some p.2 := by
 intro p hp
 rcases List.mem_cons.mp hp with e | e
 ·subst e; exact h
 ·exact hr p e
theorem q17 {P : Program} {f : FuncId} {fn : Func} {c : Code} {args : Array Value} {W : World} {R : Ending → World → Prop} {n : Nat} {l : List (Nat × Value)}
  (hf : P.funcs[f]? = some fn) (hb : fn.body = some c) (hn : fn.ntmps = n) (hs : args.size ≤ n) (hl : ∀ p, p ∈ l → args[p.1]? = some p.2)
  (h : ∀ a, Has n l a → c.wp P (bodyPost P fn R) a W) : Calls P f args W R := by
 refine calls_of_wp hf hb (h _ ?_)
 refine ⟨by simp [hn]; omega, rfl, ?_⟩
 intro i v hv
 have hm : ∀ (m : List (Nat × Value)), look m i = some v → (i, v) ∈ m := by
  intro m
  induction m with
  | nil => intro h; simp [look] at h
  | cons p r ih =>
   intro hm
   simp only [look] at hm
   cases hb : Nat.beq p.1 i with
   | true =>
    simp only [hb] at hm
    have e : p.1 = i := Nat.eq_of_beq_eq_true hb
    have e2 : p.2 = v := Option.some.inj hm
    have : p = (i, v) := Prod.ext e e2
    rw [this]; exact List.mem_cons_self
   | false =>
    simp only [hb] at hm
    exact List.mem_cons_of_mem _ (ih hm)
 have := hl _ (hm l hv)
 rw [Array.getElem?_append]
 have hlt : i < args.size := (Array.getElem?_eq_some_iff.1 this).1
 rw [if_pos hlt]
 exact this
section
variable {P : Program} {n : Nat} {l : List (Nat × Value)} {a : Act} {ops : Array Oper} {o : Oper} {rest : List Oper} {Q : Exit → Act → World → Prop} {W W' : World}
def okB (n : Nat) (l : List (Nat × Value)) (ops : Array Oper) (o : Oper) (d : Nat) : Bool :=
 known l o && onB l ops o.guard && Nat.blt d n && (match o.dst with | some e => Nat.beq e d | none => false)
theorem okB_spec {d : Nat} (h : okB n l ops o d = true) : known l o = true ∧ onB l ops o.guard = true ∧ d < n ∧ o.dst = some d := by
 simp only [okB, Bool.and_eq_true] at h
 obtain ⟨⟨⟨h1, h2⟩, h3⟩, h4⟩ := h
 refine ⟨h1, h2, Nat.le_of_ble_eq_true h3, ?_⟩
 cases hd : o.dst with
 | none => simp [hd] at h4
 | some e => simp only [hd] at h4; rw [Nat.eq_of_beq_eq_true h4]
theorem stepv (ha : Has n l a) (d : Nat) (v : Value) (hok : okB n l ops o d = true) (hx : (execOp (ev l) o).run P W = .ok (.value v) W')
  (h : ∀ a', Has n ((d, v) :: l) a' → wpList P ops Q rest a' W') : wpList P ops Q (o :: rest) a W := by
 obtain ⟨h1, h2, h3, h4⟩ := okB_spec hok
 unfold wpList
 rw [if_pos (ha.on ops o h2)]
 refine .inl ?_
 unfold Oper.wp
 rw [exec_eq ha o h1, hx, Oper.upon_value, h4]
 exact h _ (ha.put h3 v)
def okS (l : List (Nat × Value)) (ops : Array Oper) (o : Oper) : Bool :=
 known l o && onB l ops o.guard && o.dst.isNone
theorem steps (ha : Has n l a) (hok : okS l ops o = true) (hx : (execOp (ev l) o).run P W = .ok .skip W')
  (h : ∀ a', Has n l a' → wpList P ops Q rest a' W') : wpList P ops Q (o :: rest) a W := by
 simp only [okS, Bool.and_eq_true, Option.isNone_iff_eq_none] at hok
 obtain ⟨⟨h1, h2⟩, h3⟩ := hok
 unfold wpList
 rw [if_pos (ha.on ops o h2)]
 refine .inl ?_
 unfold Oper.wp
 rw [exec_eq ha o h1, hx, Oper.upon_skip, h3]
 exact h _ ha
theorem stepc (ha : Has n l a) (d : Nat) {f : FuncId} {args : Array Value} {R : Ending → World → Prop} (hok : okB n l ops o d = true) (hx : (execOp (ev l) o).run P W = .ok (.enter f args) W)
  (hc : Calls P f args W R) (h : ∀ e W', R e W' → ∃ v, e = .returned v ∧ ∀ a', Has n ((d, v) :: l) a' → wpList P ops Q rest a' W') : wpList P ops Q (o :: rest) a W := by
 obtain ⟨h1, h2, h3, h4⟩ := okB_spec hok
 unfold wpList
 rw [if_pos (ha.on ops o h2)]
 refine .inl ?_
 unfold Oper.wp
 rw [exec_eq ha o h1, hx, Oper.upon_enter]
 refine hc.mono fun e W1 hR => ?_
 obtain ⟨v, rfl, hv⟩ := h e W1 hR
 show wpList P ops Q rest (a.put o.dst v) W1
 rw [h4]
 exact hv _ (ha.put h3 v)
def okO (n : Nat) (l : List (Nat × Value)) (ops : Array Oper) (o : Oper) (d : Nat) : Bool :=
 offB l ops o.guard && Nat.blt d n && (match o.dst with | some e => Nat.beq e d | none => false)
theorem stepo (ha : Has n l a) (d : Nat) (hok : okO n l ops o d = true) (h : ∀ a', Has n ((d, undef) :: l) a' → wpList P ops Q rest a' W) : wpList P ops Q (o :: rest) a W := by
 simp only [okO, Bool.and_eq_true] at hok
 obtain ⟨⟨h1, h2⟩, h3⟩ := hok
 have h4 : o.dst = some d := by
  cases hd : o.dst with
  | none => simp [hd] at h3
  | some e => simp only [hd] at h3; rw [Nat.eq_of_beq_eq_true h3]
 have h5 : d < n := Nat.le_of_ble_eq_true h2
 unfold wpList
 rw [if_neg (by simp [ha.off ops o h1]), h4]
 exact h _ (ha.put h5 undef)
theorem endl (h : Q .normal a W) : wpList P ops Q [] a W := h
end
section
variable {P : Program} {n : Nat} {l : List (Nat × Value)} {a : Act} {Q : Exit → Act → World → Prop} {W : World} {x y : Code}
theorem condH (ha : Has n l a) {c : Operand} (t : Bool) (hk : known1 l c = true) (hc : ev l c = .bool t) (h1 : t = true → x.wp P Q a W) (h2 : t = false → y.wp P Q a W) : (Code.cond c x y).wp P Q a W :=
 wp_cond_split (t := t) (by rw [ha.ev_eq c hk, hc]) h1 h2
theorem condT (ha : Has n l a) {c : Operand} {t : Bool} (hk : known1 l c = true) (hc : ev l c = .bool t) (ht : t = true) (h1 : x.wp P Q a W) : (Code.cond c x y).wp P Q a W :=
 condH ha t hk hc (fun _ => h1) (fun e => by rw [ht] at e; cases e)
theorem condF (ha : Has n l a) {c : Operand} {t : Bool} (hk : known1 l c = true) (hc : ev l c = .bool t) (ht : t = false) (h1 : y.wp P Q a W) : (Code.cond c x y).wp P Q a W :=
 condH ha t hk hc (fun e => by rw [ht] at e; cases e) (fun _ => h1)
theorem cutn (J : Act → World → Prop) {K : Act → World → Prop} (h : x.wp P (Exit.then J Q) a W) (hJ : ∀ a W, J a W → K a W) : x.wp P (Exit.then K Q) a W :=
 Code.wp_mono (fun e a w q => by cases e <;> first | exact hJ _ _ q | exact q) h
theorem inBlk {id : Nat} (h : Q .normal a W) : Exit.inBlock id Q (.exit id) a W := by simpa [Exit.inBlock] using h
theorem loopk (I : Nat → Act → World → Prop) (k : Nat) (h0 : I k a W)
  (round : ∀ k a W, I k a W → x.wp P (Exit.then (fun a' W' => ∃ k', k' < k ∧ I k' a' W') Q) a W) : (Code.loop x).wp P Q a W := by
 intro b kk cs
 have key : ∀ k a w, I k a w → ∃ e a' w', Q e a' w' ∧ Arrives P (lone (b.at a (.code x :: .inLoop x :: kk)) cs w) b kk cs e a' w' := by
  intro k
  induction k using Nat.strongRecOn with
  | _ k ih =>
   intro a w hI
   obtain ⟨e, a₁, w₁, hq, harr⟩ := round k a w hI b (.inLoop x :: kk) cs
   cases e with
   | normal =>
    obtain ⟨k', hlt, hI₁⟩ := hq
    obtain ⟨e₂, a₂, w₂, hq₂, harr₂⟩ := ih k' hlt a₁ w₁ hI₁
    exact ⟨e₂, a₂, w₂, hq₂, .of_steps (Steps.trans harr (.one step_inLoop)) harr₂⟩
   | exit id => exact ⟨_, a₁, w₁, hq, .pass (x := .inLoop x) rfl (fun _ _ => .inl (by simp)) harr⟩
   | goto l => exact ⟨_, a₁, w₁, hq, .pass (x := .inLoop x) rfl (fun _ _ => .inl (by simp)) harr⟩
   | ret => exact ⟨_, a₁, w₁, hq, .pass (x := .inLoop x) rfl (fun _ _ => .inl (by simp)) harr⟩
   | panic ch => exact ⟨_, a₁, w₁, hq, .pass (x := .inLoop x) rfl (fun _ _ => .inl (by simp)) harr⟩
   | outgrown => exact ⟨_, a₁, w₁, hq, .pass (x := .inLoop x) rfl (fun _ _ => .inl (by simp)) harr⟩
 obtain ⟨e, a', w', hq, harr⟩ := key k a W h0
 exact ⟨e, a', w', hq, .of_steps (.one step_loop) harr⟩
end
end Go.Proofs.YtokdiacjcbolfaaDoor.X
namespace Go.Proofs.YtokdiacjcbolfaaDoor.X
open Go Go.RowKit
def ownG (w : World) (base e size : Nat) (v : Value) (n : Nat) (xs : List Value) : Prop :=
  xs.length = n * size ∧ ((v = .slice none 0 0 ∧ n = 0) ∨
   ∃ g cap cur fz, v = .slice (some ⟨g, 0, none⟩) n cap ∧ base ≤ g ∧ w.heap[g]? = some (.cells cur e fz) ∧ (∀ i, i < cur.size → ¬ (fz.1 ≤ i ∧ i < fz.2)) ∧ n ≤ cap ∧ cap ≤ maxLen ∧ cur.size = cap * size ∧ cur.toList.take (n * size) = xs)
theorem ownG_nil (w : World) (base e size : Nat) : ownG w base e size (.slice none 0 0) 0 [] := ⟨by simp, .inl ⟨rfl, rfl⟩⟩
theorem ownG.lt {w : World} {base e size : Nat} {v : Value} {n : Nat} {xs : List Value} (h : ownG w base e size v n xs) : ∀ k, v.ownBlock = some k → base ≤ k ∧ k < w.heap.size := by
 intro k hk
 rcases h.2 with ⟨rfl, _⟩ | ⟨g, cap, cur, fz, rfl, hb, hg, _⟩
 ·simp [Value.ownBlock] at hk
 ·simp [Value.ownBlock] at hk
  subst hk
  exact ⟨hb, (Array.getElem?_eq_some_iff.1 hg).1⟩
theorem ownG.kept {w w' : World} {base e size : Nat} {v : Value} {n : Nat} {xs : List Value} {row : Option Nat} (h : ownG w base e size v n xs) (hg : w.grownBy w' row) (hne : v.ownBlock = none ∨ v.ownBlock ≠ row) : ownG w' base e size v n xs := by
 refine ⟨h.1, ?_⟩
 rcases h.2 with hn | ⟨g, cap, cur, fz, rfl, hb, hgg, rest⟩
 ·exact .inl hn
 ·refine .inr ⟨g, cap, cur, fz, rfl, hb, ?_, rest⟩
  rw [hg.block g (Array.getElem?_eq_some_iff.1 hgg).1 (by simpa [Value.ownBlock] using hne)]
  exact hgg
theorem ownG.alloc {w : World} {base e size : Nat} {v : Value} {n : Nat} {xs : List Value} (h : ownG w base e size v n xs) (o : Obj) : ownG (w.alloc o) base e size v n xs :=
 h.kept (World.grownBy_alloc w o none) (by cases hv : v.ownBlock <;> simp)
structure OwnA where
 e : Nat
 sz : Nat
 v : Value
 n : Nat
 cs : List Value
structure Wd (w0 W : World) (bs : List (Nat × Obj)) (os : List OwnA) : Prop where
 below : Below w0.heap.size w0 W
 blk : ∀ (i : Nat) (p : Nat × Obj), bs[i]? = some p → w0.heap.size ≤ p.1 ∧ W.heap[p.1]? = some p.2
 own : ∀ (i : Nat) (q : OwnA), os[i]? = some q → ownG W w0.heap.size q.e q.sz q.v q.n q.cs
 dbb : ∀ (i j : Nat) (p q : Nat × Obj), bs[i]? = some p → bs[j]? = some q → i ≠ j → p.1 ≠ q.1
 doo : ∀ (i j : Nat) (p q : OwnA), os[i]? = some p → os[j]? = some q → i ≠ j → ∀ k, p.v.ownBlock = some k → q.v.ownBlock ≠ some k
 dbo : ∀ (i j : Nat) (p : Nat × Obj) (q : OwnA), bs[i]? = some p → os[j]? = some q → q.v.ownBlock ≠ some p.1
def CA (W : World) (b off : Nat) (C : Array Value) : Prop := ∀ (m : Nat) (u : Value), C[m]? = some u → W.cell? ⟨b, off + m, none⟩ = some u
def Rd (sz : Nat) (W : World) (v : Value) (n : Nat) (cs : List Value) : Prop :=
 cs.length = n * sz ∧ ((v = .slice none 0 0 ∧ n = 0) ∨ ∃ b off cap, v = .slice (some ⟨b, off, none⟩) n cap ∧ n ≤ cap ∧ ∀ (j : Nat) (u : Value), cs[j]? = some u → W.cell? ⟨b, off + j, none⟩ = some u)
theorem wlt {W : World} {b : Nat} {o : Obj} (h : W.heap[b]? = some o) : b < W.heap.size := (Array.getElem?_eq_some_iff.1 h).1
theorem Wd.refl (w : World) : Wd w w [] [] := ⟨Below.refl _ _, fun _ _ h => by simp at h, fun _ _ h => by simp at h, fun _ _ _ _ h => by simp at h, fun _ _ _ _ h => by simp at h, fun _ _ _ _ h => by simp at h⟩
section
variable {w0 W W' : World} {bs : List (Nat × Obj)} {os : List OwnA}
theorem Wd.size (h : Wd w0 W bs os) : w0.heap.size ≤ W.heap.size := h.below.size
theorem Wd.drew (h : Wd w0 W bs os) (k : Nat) : Wd w0 { W with drawn := k } bs os :=
 ⟨⟨h.below.os, h.below.tape, h.below.output, h.below.size, h.below.block⟩, h.blk, h.own, h.dbb, h.doo, h.dbo⟩
theorem Wd.alloc (h : Wd w0 W bs os) (o : Obj) : Wd w0 (W.alloc o) ((W.heap.size, o) :: bs) os := by
 refine ⟨h.below.alloc h.size o, ?_, fun i q hq => (h.own i q hq).alloc o, ?_, h.doo, ?_⟩
 ·intro i p hp
  cases i with
  | zero => simp at hp; subst hp; exact ⟨h.size, heap_alloc_new W o⟩
  | succ i =>
   simp only [List.getElem?_cons_succ] at hp
   obtain ⟨h1, h2⟩ := h.blk i p hp
   exact ⟨h1, (World.grownBy_alloc W o none).block p.1 (wlt h2) (by simp) |>.trans h2⟩
 ·intro i j p q hp hq hne
  cases i with
  | zero =>
   cases j with
   | zero => exact absurd rfl hne
   | succ j =>
    simp only [List.getElem?_cons_zero, Option.some.injEq, List.getElem?_cons_succ] at hp hq
    subst hp
    have := wlt (h.blk j q hq).2
    show W.heap.size ≠ q.1
    omega
  | succ i =>
   cases j with
   | zero =>
    simp only [List.getElem?_cons_zero, Option.some.injEq, List.getElem?_cons_succ] at hp hq
    subst hq
    have := wlt (h.blk i p hp).2
    show p.1 ≠ W.heap.size
    omega
   | succ j =>
    simp only [List.getElem?_cons_succ] at hp hq
    exact h.dbb i j p q hp hq (fun e => hne (by rw [e]))
 ·intro i j p q hp hq
  cases i with
  | zero =>
   simp only [List.getElem?_cons_zero, Option.some.injEq] at hp
   subst hp
   intro e
   have := ((h.own j q hq).lt _ e).2
   simp at this
  | succ i => exact h.dbo i j p q (by simpa using hp) hq
theorem Wd.call (h : Wd w0 W bs os) (hb : Below W.heap.size W W') : Wd w0 W' bs os := by
 refine ⟨h.below.trans (hb.mono h.size), ?_, ?_, h.dbb, h.doo, h.dbo⟩
 ·intro i p hp
  obtain ⟨h1, h2⟩ := h.blk i p hp
  exact ⟨h1, (hb.block p.1 (wlt h2)).trans h2⟩
 ·intro i q hq
  have ho := h.own i q hq
  exact ho.kept (row := none) ⟨hb.os, hb.tape, hb.output, hb.size, fun k hk _ => hb.block k hk⟩ (by cases q.v.ownBlock <;> simp)
theorem ownsRow_base {w : World} {b b' : Nat} {e size : Nat} {v : Value} {n : Nat} {xs : List Value} (h : ownG w b e size v n xs) (hb : b' ≤ b) : ownG w b' e size v n xs := by
 obtain ⟨h1, h2⟩ := h
 refine ⟨h1, ?_⟩
 rcases h2 with h2 | ⟨g, cap, cur, fz, hv, hg, r⟩
 ·exact .inl h2
 ·exact .inr ⟨g, cap, cur, fz, hv, Nat.le_trans hb hg, r⟩
theorem Wd.callw {bs' : List (Nat × Obj)} {os' : List OwnA} (h : Wd w0 W bs os) (h' : Wd W W' bs' os') : Wd w0 W' (bs' ++ bs) (os' ++ os) := by
 have hc := h.call h'.below
 refine ⟨hc.below, ?_, ?_, ?_, ?_, ?_⟩
 ·intro i p hp
  rw [List.getElem?_append] at hp
  split at hp
  ·obtain ⟨h1, h2⟩ := h'.blk i p hp; exact ⟨Nat.le_trans h.size h1, h2⟩
  ·exact hc.blk _ p hp
 ·intro i q hq
  rw [List.getElem?_append] at hq
  split at hq
  ·exact ownsRow_base (h'.own i q hq) h.size
  ·exact hc.own _ q hq
 ·intro i j p q hp hq hne
  rw [List.getElem?_append] at hp hq
  split at hp <;> split at hq
  ·exact h'.dbb i j p q hp hq hne
  ·have h1 := (h'.blk i p hp).1
   have h2 := wlt (h.blk _ q hq).2
   omega
  ·have h1 := (h'.blk j q hq).1
   have h2 := wlt (h.blk _ p hp).2
   omega
  ·exact h.dbb _ _ p q hp hq (by omega)
 ·intro i j p q hp hq hne k hk
  rw [List.getElem?_append] at hp hq
  split at hp <;> split at hq
  ·exact h'.doo i j p q hp hq hne k hk
  ·intro e
   have h1 := ((h'.own i p hp).lt k hk).1
   have h2 := ((h.own _ q hq).lt k e).2
   omega
  ·intro e
   have h1 := ((h'.own j q hq).lt k e).1
   have h2 := ((h.own _ p hp).lt k hk).2
   omega
  ·exact h.doo _ _ p q hp hq (by omega) k hk
 ·intro i j p q hp hq e
  rw [List.getElem?_append] at hp hq
  split at hp <;> split at hq
  ·exact h'.dbo i j p q hp hq e
  ·have h1 := (h'.blk i p hp).1
   have h2 := ((h.own _ q hq).lt _ e).2
   omega
  ·have h1 := ((h'.own j q hq).lt _ e).1
   have h2 := wlt (h.blk _ p hp).2
   omega
  ·exact h.dbo _ _ p q hp hq e
theorem Wd.pick (h : Wd w0 W bs os) (is js : List Nat) (hi : is.Nodup) (hj : js.Nodup) {bs' : List (Nat × Obj)} {os' : List OwnA}
  (hb : is.map (fun i => bs[i]?) = bs'.map some) (ho : js.map (fun i => os[i]?) = os'.map some) : Wd w0 W bs' os' := by
 have kb : ∀ (i : Nat) (p : Nat × Obj), bs'[i]? = some p → ∃ k, is[i]? = some k ∧ bs[k]? = some p := by
  intro i p hp
  have := congrArg (fun l => l[i]?) hb
  simp only [List.getElem?_map, hp, Option.map_some] at this
  cases hk : is[i]? with
  | none => simp [hk] at this
  | some k => exact ⟨k, rfl, by simpa [hk] using this⟩
 have ko : ∀ (i : Nat) (p : OwnA), os'[i]? = some p → ∃ k, js[i]? = some k ∧ os[k]? = some p := by
  intro i p hp
  have := congrArg (fun l => l[i]?) ho
  simp only [List.getElem?_map, hp, Option.map_some] at this
  cases hk : js[i]? with
  | none => simp [hk] at this
  | some k => exact ⟨k, rfl, by simpa [hk] using this⟩
 have nd : ∀ (l : List Nat), l.Nodup → ∀ (i j k : Nat), l[i]? = some k → l[j]? = some k → i = j := by
  intro l hl i j k h1 h2
  obtain ⟨a1, b1⟩ := List.getElem?_eq_some_iff.1 h1
  obtain ⟨a2, b2⟩ := List.getElem?_eq_some_iff.1 h2
  exact (List.getElem_inj hl).mp (b1.trans b2.symm)
 refine ⟨h.below, ?_, ?_, ?_, ?_, ?_⟩
 ·intro i p hp; obtain ⟨k, _, hk⟩ := kb i p hp; exact h.blk k p hk
 ·intro i p hp; obtain ⟨k, _, hk⟩ := ko i p hp; exact h.own k p hk
 ·intro i j p q hp hq hne
  obtain ⟨k, k1, hk⟩ := kb i p hp
  obtain ⟨m, m1, hm⟩ := kb j q hq
  exact h.dbb k m p q hk hm (fun e => hne (nd is hi i j k k1 (by rw [e]; exact m1)))
 ·intro i j p q hp hq hne
  obtain ⟨k, k1, hk⟩ := ko i p hp
  obtain ⟨m, m1, hm⟩ := ko j q hq
  exact h.doo k m p q hk hm (fun e => hne (nd js hj i j k k1 (by rw [e]; exact m1)))
 ·intro i j p q hp hq
  obtain ⟨k, _, hk⟩ := kb i p hp
  obtain ⟨m, _, hm⟩ := ko j q hq
  exact h.dbo k m p q hk hm
theorem Wd.turnb (h : Wd w0 W bs os) {i : Nat} {b : Nat} {o o' : Obj} (hi : bs[i]? = some (b, o)) (ho : W'.heap[b]? = some o')
  (hg : W.grownBy W' (some b)) : Wd w0 W' (bs.set i (b, o')) os := by
 have hlt : i < bs.length := (List.getElem?_eq_some_iff.1 hi).1
 have hb := (h.blk i _ hi)
 have key : ∀ (j : Nat) (p : Nat × Obj), (bs.set i (b, o'))[j]? = some p → ∃ q, bs[j]? = some q ∧ q.1 = p.1 ∧ ((j = i ∧ p = (b, o')) ∨ (j ≠ i ∧ q = p)) := by
  intro j p hp
  rw [List.getElem?_set] at hp
  by_cases e : i = j
  ·subst e
   rw [if_pos rfl, if_pos hlt] at hp
   simp at hp
   subst hp
   exact ⟨_, hi, rfl, .inl ⟨rfl, rfl⟩⟩
  ·rw [if_neg e] at hp
   exact ⟨p, hp, rfl, .inr ⟨fun e' => e e'.symm, rfl⟩⟩
 refine ⟨h.below.grown hg h.size (fun k e => by simp at e; subst e; exact hb.1), ?_, ?_, ?_, h.doo, ?_⟩
 ·intro j p hp
  obtain ⟨q, hq, e, hc⟩ := key j p hp
  rcases hc with ⟨_, rfl⟩ | ⟨hne, rfl⟩
  ·exact ⟨hb.1, ho⟩
  ·obtain ⟨h1, h2⟩ := h.blk j q hq
   have hd := h.dbb j i q _ hq hi hne
   exact ⟨h1, (hg.block q.1 (wlt h2) (by simpa using hd)).trans h2⟩
 ·intro j q hq
  exact (h.own j q hq).kept hg (by
   have := h.dbo i j _ q hi hq
   exact .inr this)
 ·intro j k p q hp hq hne
  obtain ⟨p', hp', e1, _⟩ := key j p hp
  obtain ⟨q', hq', e2, _⟩ := key k q hq
  rw [← e1, ← e2]
  exact h.dbb j k p' q' hp' hq' hne
 ·intro j k p q hp hq
  obtain ⟨p', hp', e1, _⟩ := key j p hp
  rw [← e1]
  exact h.dbo j k p' q hp' hq
theorem Wd.turno (h : Wd w0 W bs os) {i : Nat} {q q' : OwnA} (hi : os[i]? = some q) (ho : ownG W' w0.heap.size q'.e q'.sz q'.v q'.n q'.cs)
  (hg : W.grownBy W' q.v.ownBlock) (hat : q'.v.ownBlock = q.v.ownBlock ∨ ∀ k, q'.v.ownBlock = some k → W.heap.size ≤ k) : Wd w0 W' bs (os.set i q') := by
 have hlt : i < os.length := (List.getElem?_eq_some_iff.1 hi).1
 have hq := h.own i _ hi
 have key : ∀ (j : Nat) (p : OwnA), (os.set i q')[j]? = some p → (j = i ∧ p = q') ∨ (j ≠ i ∧ os[j]? = some p) := by
  intro j p hp
  rw [List.getElem?_set] at hp
  by_cases e : i = j
  ·subst e
   rw [if_pos rfl, if_pos hlt] at hp
   simp at hp
   exact .inl ⟨rfl, hp.symm⟩
  ·rw [if_neg e] at hp
   exact .inr ⟨fun e' => e e'.symm, hp⟩
 refine ⟨h.below.grown hg h.size (fun k e => (hq.lt k e).1), ?_, ?_, h.dbb, ?_, ?_⟩
 ·intro j p hp
  obtain ⟨h1, h2⟩ := h.blk j p hp
  have hd := h.dbo j i p q hp hi
  exact ⟨h1, (hg.block p.1 (wlt h2) (fun e => hd e.symm)).trans h2⟩
 ·intro j p hp
  rcases key j p hp with ⟨_, rfl⟩ | ⟨hne, hp'⟩
  ·exact ho
  ·refine (h.own j p hp').kept hg ?_
   cases hk : p.v.ownBlock with
   | none => exact .inl rfl
   | some k => exact .inr (fun e => h.doo j i p q hp' hi hne k hk e.symm)
 ·intro j k p r hp hr hne m hm
  rcases key j p hp with ⟨e1, rfl⟩ | ⟨n1, hp'⟩
  ·rcases key k r hr with ⟨e2, rfl⟩ | ⟨n2, hr'⟩
   ·exact absurd (e1.trans e2.symm) hne
   ·rcases hat with e | e
    ·rw [e] at hm
     exact h.doo i k q r hi hr' (fun e => n2 e.symm) m hm
    ·intro hx
     have := e m hm
     have := ((h.own k r hr').lt m hx).2
     omega
  ·rcases key k r hr with ⟨e2, rfl⟩ | ⟨n2, hr'⟩
   ·rcases hat with e | e
    ·rw [e]
     exact h.doo j i p q hp' hi n1 m hm
    ·intro hx
     have := e m hx
     have := ((h.own j p hp').lt m hm).2
     omega
   ·exact h.doo j k p r hp' hr' hne m hm
 ·intro j k p r hp hr
  rcases key k r hr with ⟨e2, rfl⟩ | ⟨n2, hr'⟩
  ·rcases hat with e | e
   ·rw [e]; exact h.dbo j i p q hp hi
   ·intro hx
    have := e _ hx
    have := wlt (h.blk j p hp).2
    omega
  ·exact h.dbo j k p r hp hr'
theorem Wd.newoF (h : Wd w0 W bs os) (C : Array Value) (e sz n cap : Nat) (cs : List Value) (fz : Nat × Nat) (hfz : ∀ i, i < C.size → ¬ (fz.1 ≤ i ∧ i < fz.2)) (hn : n ≤ cap) (hm : cap ≤ maxLen) (hC : C.size = cap * sz) (hcs : C.toList.take (n * sz) = cs) :
  Wd w0 (W.alloc (.cells C e fz)) bs (⟨e, sz, .slice (some ⟨W.heap.size, 0, none⟩) n cap, n, cs⟩ :: os) := by
 have h1 := h.alloc (.cells C e fz)
 have hl : cs.length = n * sz := by
  rw [← hcs, List.length_take, Array.length_toList, hC]
  exact Nat.min_eq_left (Nat.mul_le_mul_right _ hn)
 refine ⟨h1.below, fun i p hp => h1.blk (i + 1) p (by simpa using hp), ?_, ?_, ?_, ?_⟩
 ·intro i q hq
  cases i with
  | zero =>
   simp at hq
   subst hq
   exact ⟨hl, .inr ⟨W.heap.size, cap, C, fz, rfl, h.size, heap_alloc_new W _, hfz, hn, hm, hC, hcs⟩⟩
  | succ i => exact h1.own i q (by simpa using hq)
 ·intro i j p q hp hq hne
  exact h1.dbb (i + 1) (j + 1) p q (by simpa using hp) (by simpa using hq) (by omega)
 ·intro i j p q hp hq hne k hk
  cases i with
  | zero =>
   cases j with
   | zero => exact absurd rfl hne
   | succ j =>
    simp only [List.getElem?_cons_zero, Option.some.injEq, List.getElem?_cons_succ] at hp hq
    subst hp
    simp only [Value.ownBlock, Option.some.injEq] at hk
    intro hx
    have := ((h.own j q hq).lt k hx).2
    omega
  | succ i =>
   cases j with
   | zero =>
    simp only [List.getElem?_cons_zero, Option.some.injEq, List.getElem?_cons_succ] at hp hq
    subst hq
    simp only [Value.ownBlock, ne_eq, Option.some.injEq]
    have := ((h.own i p hp).lt k hk).2
    omega
   | succ j => exact h.doo i j p q (by simpa using hp) (by simpa using hq) (by omega) k hk
 ·intro i j p q hp hq
  cases j with
  | zero =>
   simp at hq
   subst hq
   simp only [Value.ownBlock, ne_eq, Option.some.injEq]
   have := wlt (h.blk i p hp).2
   omega
  | succ j => exact h.dbo i j p q hp (by simpa using hq)
theorem Wd.newo (h : Wd w0 W bs os) (C : Array Value) (e sz n cap : Nat) (cs : List Value) (hn : n ≤ cap) (hm : cap ≤ maxLen) (hC : C.size = cap * sz) (hcs : C.toList.take (n * sz) = cs) :
  Wd w0 (W.alloc (.cells C e)) bs (⟨e, sz, .slice (some ⟨W.heap.size, 0, none⟩) n cap, n, cs⟩ :: os) := h.newoF C e sz n cap cs (0, 0) (fun i _ hx => by simp at hx) hn hm hC hcs
theorem Wd.nilo (h : Wd w0 W bs os) (e sz : Nat) : Wd w0 W bs (⟨e, sz, .slice none 0 0, 0, []⟩ :: os) := by
 refine ⟨h.below, h.blk, ?_, h.dbb, ?_, ?_⟩
 ·intro i q hq
  cases i with
  | zero => simp at hq; subst hq; exact ownG_nil _ _ _ _
  | succ i => exact h.own i q (by simpa using hq)
 ·intro i j p q hp hq hne k hk
  cases i with
  | zero => simp at hp; subst hp; simp [Value.ownBlock] at hk
  | succ i =>
   cases j with
   | zero => simp at hq; subst hq; simp [Value.ownBlock]
   | succ j => exact h.doo i j p q (by simpa using hp) (by simpa using hq) (by omega) k hk
 ·intro i j p q hp hq
  cases j with
  | zero => simp at hq; subst hq; simp [Value.ownBlock]
  | succ j => exact h.dbo i j p q hp (by simpa using hq)
theorem CA.of_blk {b : Nat} {C : Array Value} {T : Nat} {fr : Nat × Nat} (h : W.heap[b]? = some (.cells C T fr)) : CA W b 0 C := by
 intro m u hu
 rw [Nat.zero_add, cell_of_row W b m C T fr h]
 exact hu
theorem Wd.ca (h : Wd w0 W bs os) {i b : Nat} {C : Array Value} {T : Nat} {fr : Nat × Nat} (hi : bs[i]? = some (b, .cells C T fr)) : CA W b 0 C := CA.of_blk (h.blk i _ hi).2
theorem CA.below {b off : Nat} {C : Array Value} (h : CA W b off C) (hb : Below W.heap.size W W') : CA W' b off C := fun m u hu => by
 have := h m u hu
 rw [hb.cell (p := ⟨b, off + m, none⟩) (block_lt_of_cell this)]
 exact this
theorem Rd.below {sz n : Nat} {v : Value} {cs : List Value} (h : Rd sz W v n cs) (hb : Below W.heap.size W W') : Rd sz W' v n cs := by
 refine ⟨h.1, ?_⟩
 rcases h.2 with h | ⟨b, off, cap, hv, hc, h⟩
 ·exact .inl h
 ·refine .inr ⟨b, off, cap, hv, hc, fun j u hu => ?_⟩
  have := h j u hu
  rw [hb.cell (p := ⟨b, off + j, none⟩) (block_lt_of_cell this)]
  exact this
theorem Wd.rd0 (h : Wd w0 W bs os) {sz n : Nat} {v : Value} {cs : List Value} (hr : Rd sz w0 v n cs) : Rd sz W v n cs := hr.below h.below
theorem Wd.ca0 (h : Wd w0 W bs os) {b off : Nat} {C : Array Value} (hr : CA w0 b off C) : CA W b off C := hr.below h.below
theorem Rd.of_own {base e sz n : Nat} {v : Value} {cs : List Value} (h : ownG W base e sz v n cs) : Rd sz W v n cs := by
 refine ⟨h.1, ?_⟩
 rcases h.2 with ⟨hv, hn⟩ | ⟨g, cap, cur, fz, hv, _, hg, _, hc, _, hs, ht⟩
 ·exact .inl ⟨hv, hn⟩
 ·refine .inr ⟨g, 0, cap, hv, hc, fun j u hu => ?_⟩
  rw [Nat.zero_add, cell_of_row W g j cur e fz hg]
  rw [← ht, List.getElem?_take] at hu
  split at hu
  ·simpa using hu
  ·simp at hu
theorem Wd.rdo (h : Wd w0 W bs os) {i : Nat} {q : OwnA} (hi : os[i]? = some q) : Rd q.sz W q.v q.n q.cs := Rd.of_own (h.own i q hi)
theorem Rd.shape {sz n : Nat} {v : Value} {cs : List Value} (h : Rd sz W v n cs) : ∃ A c, v = .slice A n c := by
 rcases h.2 with ⟨hv, hn⟩ | ⟨b, off, cap, hv, _⟩
 ·exact ⟨none, 0, by rw [hv, hn]⟩
 ·exact ⟨_, _, hv⟩
end
section
variable {P : Program} {n : Nat} {l : List (Nat × Value)} {a : Act} {ops : Array Oper} {o : Oper} {rest : List Oper} {Q : Exit → Act → World → Prop} {w0 W : World} {bs : List (Nat × Obj)} {os : List OwnA}
theorem stepnew (ha : Has n l a) (HW : Wd w0 W bs os) (d : Nat) (C : Array Value) (T : Nat) (hok : okB n l ops o d = true)
  (hx : (execOp (ev l) o).run P W = .ok (.value (.pointer (some ⟨W.heap.size, 0, none⟩))) (W.alloc (.cells C T)))
  (h : ∀ b a' W', Wd w0 W' ((b, .cells C T (0, 0)) :: bs) os → Has n ((d, .pointer (some ⟨b, 0, none⟩)) :: l) a' → wpList P ops Q rest a' W') : wpList P ops Q (o :: rest) a W :=
 stepv ha d _ hok hx fun a' ha' => h _ a' _ (HW.alloc _) ha'
def aggD : TypeDesc → Bool
 | .struct _ | .array _ _ => true
 | _ => false
def loadB (P : Program) (t : Nat) (C : Array Value) (m : Nat) : Option Value :=
 match P.underlying t with
 | none => none
 | some d => match aggD d with
  | true => match P.info? t with
   | some i => match Nat.ble (m + i.size) C.size with
    | true => some (.agg (C.extract m (m + i.size)))
    | false => none
   | none => none
  | false => C[m]?
theorem run_isAgg {t : Nat} {d : TypeDesc} (h : P.underlying t = some d) : (isAgg t).run P W = .ok (aggD d) W := by
 unfold isAgg
 rw [Sem.run_bind, run_underlying h W]
 cases d <;> rfl
theorem run_loadVar_ca {b off : Nat} {C : Array Value} (hC : CA W b off C) (t m : Nat) (v : Value) (hl : loadB P t C m = some v) : (loadVar t ⟨b, off + m, none⟩).run P W = .ok v W := by
 unfold loadB at hl
 cases hu : P.underlying t with
 | none => simp [hu] at hl
 | some d =>
  simp only [hu] at hl
  unfold loadVar
  rw [Sem.run_bind, run_isAgg hu]
  simp only [Result.andThen_ok]
  cases hd : aggD d with
  | false =>
   simp only [hd] at hl
   have := hC m v hl
   simp [this]
  | true =>
   simp only [hd] at hl
   cases hi : P.info? t with
   | none => simp [hi] at hl
   | some i =>
    simp only [hi] at hl
    cases hle : Nat.ble (m + i.size) C.size with
    | false => simp [hle] at hl
    | true =>
     simp only [hle, Option.some.injEq] at hl
     have hle' := Nat.le_of_ble_eq_true hle
     have hcells : (loadCells ⟨b, off + m, none⟩ (C.extract m (m + i.size)).toList.length).run P W = .ok (C.extract m (m + i.size)).toList.toArray W := by
      refine run_loadCells_list W _ _ (fun j u hu => ?_)
      rw [Addr.add_lit, Nat.add_assoc]
      refine hC (m + j) u ?_
      rw [Array.getElem?_toList, Array.getElem?_extract] at hu
      split at hu
      ·exact hu
      ·cases hu
     have hlen : (C.extract m (m + i.size)).toList.length = i.size := by simp; omega
     rw [hlen] at hcells
     rw [Array.toArray_toList] at hcells
     rw [← hl]
     simp only [sizeOf, typeInfo, Sem.run_bind, run_program, Result.andThen_ok, hi, Sem.run_pure, if_true, hcells]
theorem stepl (ha : Has n l a) (d : Nat) {b off : Nat} {C : Array Value} (hC : CA W b off C) (t m : Nat) (x : Operand) (v : Value) (ho : o.op = .load t x) (hp : ev l x = .pointer (some ⟨b, off + m, none⟩))
  (hl : loadB P t C m = some v) (hok : okB n l ops o d = true) (h : ∀ a', Has n ((d, v) :: l) a' → wpList P ops Q rest a' W) : wpList P ops Q (o :: rest) a W := by
 refine stepv ha d v hok ?_ h
 unfold execOp
 simp only [ho, hp, Instr.loadAt, Instr.sureAddr, Sem.run_bind, Sem.run_pure, Result.andThen_ok, run_loadVar_ca hC t m v hl]
theorem q3s (w : World) (g : Nat) (cs : Array Value) : w.grownBy (w.setRow g cs) (some g) :=
 ⟨rfl, rfl, rfl, by simp, fun k _ hk => setRow_other w g k _ (fun e => hk (by rw [e]))⟩
def q3g (l : List Value) : Bool := l.all (·.oneCell')
def putAt (C : Array Value) (m : Nat) (vs : List Value) : Array Value := (C.toList.take m ++ vs ++ C.toList.drop (m + vs.length)).toArray
theorem run_storeVar_blk {b : Nat} {C : Array Value} {T : Nat} (hb : W.heap[b]? = some (.cells C T (0, 0))) (t m : Nat) (v : Value) (hs : (P.info? t).map (·.size) = some v.cells.size) (hm : m + v.cells.size ≤ C.size) (h1 : q3g v.cells.toList = true) :
  (storeVar t ⟨b, m, none⟩ v).run P W = .ok () (W.setRow b (putAt C m v.cells.toList)) := by
 cases hi : P.info? t with
 | none => simp [hi] at hs
 | some i =>
  have hs' : i.size = v.cells.size := by simpa [hi] using hs
  have := run_storeCells_at P b m T v.cells.toList 0 C W hb (by simpa using hm) (by intro u hu; exact List.all_eq_true.mp h1 u hu)
  simp only [Nat.add_zero] at this
  simp [storeVar, sizeOf, typeInfo, hi, hs', this, putAt]
theorem q26 (ha : Has n l a) (HW : Wd w0 W bs os) (i : Nat) {b : Nat} {C : Array Value} {T : Nat} (hi : bs[i]? = some (b, .cells C T (0, 0))) (t m : Nat) (x y : Operand) (v : Value) (C' : Array Value)
  (ho : o.op = .store t x y) (hp : ev l x = .pointer (some ⟨b, m, none⟩)) (hv : ev l y = v) (hs : (P.info? t).map (·.size) = some v.cells.size) (hm : Nat.ble (m + v.cells.size) C.size = true) (h1 : q3g v.cells.toList = true)
  (hC' : putAt C m v.cells.toList = C') (hok : okS l ops o = true)
  (h : ∀ a' W', Wd w0 W' (bs.set i (b, .cells C' T (0, 0))) os → Has n l a' → wpList P ops Q rest a' W') : wpList P ops Q (o :: rest) a W := by
 have hb := (HW.blk i _ hi).2
 refine steps (W' := W.setRow b C') ha hok ?_ fun a' ha' => h a' _ (HW.turnb hi (setRow_heap W b C C' T (0, 0) hb) (q3s W b C')) ha'
 unfold execOp
 simp only [ho, hp, hv, Instr.storeAt, Instr.sureAddr, Sem.run_bind, Sem.run_pure, Result.andThen_ok, run_storeVar_blk hb t m v hs (Nat.le_of_ble_eq_true hm) h1, hC']
theorem stepia (ha : Has n l a) (d : Nat) {sz len : Nat} {v : Value} {cs : List Value} (hr : Rd sz W v len cs) (t e : Nat) (x i : Operand) (k : IntKind) (j : Int) (ho : o.op = .indexAddr t x i) (hx : ev l x = v) (hi : ev l i = .int k j)
  (ht : P.underlying t = some (.slice e)) (hs : (P.info? e).map (·.size) = some sz) (h0 : 0 ≤ j) (h1 : j < len) (hok : okB n l ops o d = true)
  (h : ∀ b off a', (∀ (m : Nat) (u : Value), m < sz → cs[j.toNat * sz + m]? = some u → W.cell? ⟨b, off + m, none⟩ = some u) → Has n ((d, .pointer (some ⟨b, off, none⟩)) :: l) a' → wpList P ops Q rest a' W) : wpList P ops Q (o :: rest) a W := by
 obtain ⟨hl, hr⟩ := hr
 rcases hr with ⟨_, hn⟩ | ⟨b, off, cap, hv, hc, hcell⟩
 ·omega
 ·cases hie : P.info? e with
  | none => simp [hie] at hs
  | some ie =>
   have hsz : ie.size = sz := by simpa [hie] using hs
   refine stepv (W' := W) ha d (.pointer (some ⟨b, off + j.toNat * sz, none⟩)) hok ?_ fun a' ha' => h b (off + j.toNat * sz) a' (fun m u hm hu => by rw [Nat.add_assoc]; exact hcell _ u hu) ha'
   have hcond : 0 ≤ j ∧ j < (len : Int) := ⟨h0, h1⟩
   unfold execOp
   simp only [ho, hx, hi, hv, Instr.indexAt, asIntOf, Sem.run_bind, Sem.run_pure, Result.andThen_ok, run_underlying ht, if_pos hcond, sizeOf, typeInfo, run_program, hie, hsz, Addr.add_lit]
end
end Go.Proofs.YtokdiacjcbolfaaDoor.X
namespace Go.Proofs.YtokdiacjcbolfaaDoor.X
open Go Go.RowKit Go.ChangeShapes Go.WideShapes
set_option linter.unusedVariables false
set_option linter.unusedSimpArgs false
mutual
def flatD {H : Type} : DataW H → List Value
 | .lit (.int k n) => [.int k n]
 | .lit (.bool b) => [.bool b]
 | .lit (.string bs) => [.string ⟨bs.toArray⟩]
 | .agg parts => flatDAll parts
 | _ => []
def flatDAll {H : Type} : List (DataW H) → List Value
 | [] => []
 | d :: r => flatD d ++ flatDAll r
end
def XFlat (P : Program) (t : TypeId) : Prop :=
 ∀ (H : Type) (enc : TypeId × Value → H) (W : World) (base : Nat) (sp : Nat → Bool) (held : Bool) (fuel : Nat) (cs : List Value) (d : DataW H) (ps : List MemPlace),
  DataW.trod enc P W base sp held fuel t cs = some (d, ps) → cs = flatD d
def putT (C : Array Value) : Obj → Obj
 | .cells _ t frozen => .cells C t frozen
 | o => o
section
variable {P : Program} {t : TypeId}
theorem XFlat.int {k : IntKind} (ht : P.underlying t = some (.int k)) : XFlat P t := by
 intro H enc W base sp held fuel cs d ps h
 cases fuel with
 | zero => simp [DataW.trod] at h
 | succ m =>
  unfold DataW.trod at h
  rw [ht] at h
  split at h <;> simp_all
  obtain ⟨⟨rfl, _⟩, rfl, _⟩ := h
  simp [flatD]
theorem XFlat.array {e : TypeId} {n : Nat} (ht : P.underlying t = some (.array n e)) (hR : XFlat P e) (ho : P.cellsOf t = n * P.cellsOf e) : XFlat P t := by
 intro H enc W base sp held fuel cs d ps h
 obtain ⟨xs, m, rfl, hx, hl, hn, hg⟩ := DataW.trod_array ht h
 obtain ⟨rfl, rfl⟩ := Prod.mk.inj hx
 have key : ∀ (k o : Nat) (ys : List (DataW H × List MemPlace)), o + k = n → ys.length = k →
   (∀ (i : Nat), i < k → DataW.trod enc P W base sp held m e ((cs.drop ((o + i) * P.cellsOf e)).take (P.cellsOf e)) = ys[i]?) → cs.drop (o * P.cellsOf e) = flatDAll (ys.map (·.1)) := by
  intro k
  induction k with
  | zero =>
   intro o ys ho' hy _
   simp at ho'
   subst ho'
   obtain rfl : ys = [] := List.eq_nil_of_length_eq_zero hy
   simp [flatDAll, hl, ho]
  | succ k ih =>
   intro o ys ho' hy hg
   cases ys with
   | nil => simp at hy
   | cons y ys =>
    have g0 := hg 0 (by omega)
    simp only [List.getElem?_cons_zero, Nat.add_zero] at g0
    have h1 := hR H enc W base sp held m _ y.1 y.2 g0
    have h2 := ih (o + 1) ys (by omega) (by simpa using hy) fun i hi => by
     have := hg (i + 1) (by omega)
     rw [← Nat.add_assoc, Nat.add_right_comm] at this
     simpa using this
    rw [Nat.succ_mul] at h2
    rw [List.map_cons, flatDAll, ← h1, ← h2, ← List.drop_drop, List.take_append_drop]
 have := key n 0 xs (by omega) hn (fun i hi => by simpa using hg i hi)
 simpa [flatD] using this
theorem laid_ca_go {W : World} : ∀ (laid : List (String × DataW Unit)) (ps : List MemPlace), DataW.LaidVars P W laid ps →
  ∀ {name : String} {d : DataW Unit} {g : Nat} {t : TypeId}, (name, d) ∈ laid → P.globalNamed name = some g → (P.globals[g]?).map (·.type) = some t → XFlat P t → CA W g 0 (flatD d).toArray
 | [], _, _, _, _, _, _, hm, _, _, _ => by simp at hm
 | (n0, d0) :: rest, ps, h, name, d, g, t, hm, hg, hty, hx => by
  obtain ⟨g', t', cs, fuel, p, q, hg', ht', hvar, hd, hr, _⟩ := h
  rcases List.mem_cons.1 hm with e | hm
  ·obtain ⟨rfl, rfl⟩ := Prod.mk.inj e
   obtain rfl := Option.some.inj (hg.symm.trans hg')
   obtain rfl := Option.some.inj (hty.symm.trans ht')
   have := hx Unit _ W 0 _ _ fuel cs.toList _ p hd
   intro m u hu
   rw [← this, Array.toArray_toList] at hu
   have := World.var?_cell hg hvar m
   rw [Nat.zero_add, this, hu]
  ·exact laid_ca_go rest q hr hm hg hty hx
theorem laid_ca {W : World} {laid : List (String × DataW Unit)} (h : laidMet P laid W) {name : String} {d : DataW Unit} {g : Nat} {t : TypeId} (hm : laid.find? (fun x => x.1 == name) = some (name, d)) (hg : P.globalNamed name = some g) (hty : (P.globals[g]?).map (·.type) = some t)
  (hx : XFlat P t) {C : Array Value} (hC : (flatD d).toArray = C) : CA W g 0 C := by
 obtain ⟨ps, h, _⟩ := h
 rw [← hC]
 exact laid_ca_go laid ps h (List.mem_of_find?_eq_some hm) hg hty hx
end
end Go.Proofs.YtokdiacjcbolfaaDoor.X
namespace Go.Proofs.YtokdiacjcbolfaaDoor.X
open Go Go.RowKit Go.ChangeShapes Go.WideShapes
set_option linter.unusedVariables false
set_option linter.unusedSimpArgs false
def Spot (v : Value) : Prop := ∀ a len cap, v = .slice (some a) len cap → a.spot = none
def XTold (P : Program) (W : World) (t : TypeId) (R : List Value → Prop) : Prop :=
 ∀ (H : Type) (enc : TypeId × Value → H) (fuel : Nat) (cs : List Value) (d : DataW H) (ps : List MemPlace),
  DataW.trod enc P W 0 (fun _ => true) true fuel t cs = some (d, ps) → (∀ n ∈ d.weights P t, n ≤ reachBytes) → R cs
def XToldAll (P : Program) (W : World) : List TypeId → List (List Value → Prop) → Prop
 | [], [] => True
 | t :: ts, R :: Rs => XTold P W t R ∧ XToldAll P W ts Rs
 | _, _ => False
def Seq : List (List Value → Prop) → List Value → Prop
 | [], cs => cs = []
 | R :: Rs, cs => ∃ p q, cs = p ++ q ∧ R p ∧ Seq Rs q
def offsOk (P : Program) : List Field → Nat → Nat → Bool
 | [], n, m => n == m
 | f :: fs, n, m => f.offset == n && offsOk P fs (n + P.cellsOf f.type) m
section
variable {P : Program} {W : World} {t : TypeId}
theorem XTold.mono {R R' : List Value → Prop} (h : XTold P W t R) (hi : ∀ cs, R cs → R' cs) : XTold P W t R' :=
 fun H enc fuel cs d ps h1 h2 => hi cs (h H enc fuel cs d ps h1 h2)
theorem XTold.int {k : IntKind} (ht : P.underlying t = some (.int k)) : XTold P W t (fun cs => ∃ n, cs = [.int k n] ∧ (Lit.int k n).wf = true) := by
 intro H enc fuel cs d ps h _
 cases fuel with
 | zero => simp [DataW.trod] at h
 | succ m =>
  unfold DataW.trod at h
  rw [ht] at h
  split at h <;> simp_all
theorem XTold.str (ht : P.underlying t = some .string) : XTold P W t (fun cs => ∃ s, cs = [.string s] ∧ s.size ≤ 140737488351232) := by
 intro H enc fuel cs d ps h hw
 cases fuel with
 | zero => simp [DataW.trod] at h
 | succ m =>
  unfold DataW.trod at h
  rw [ht] at h
  split at h <;> (try (rename_i hq; cases hq; done)) <;> (try (cases h; done))
  ·rename_i s _
   split at h
   ·rename_i h0
    obtain ⟨rfl, _⟩ := Prod.mk.inj (Option.some.inj h)
    refine ⟨s, rfl, ?_⟩
    have := hw s.data.toList.length (by simp [DataW.weights])
    rw [Array.length_toList] at this
    exact this
   ·cases h
theorem XTold.struct {fs : Array Field} {Rs : List (List Value → Prop)} (ht : P.underlying t = some (.struct fs)) (hR : XToldAll P W (fs.toList.map (·.type)) Rs)
  (ho : offsOk P fs.toList 0 (P.cellsOf t) = true) : XTold P W t (Seq Rs) := by
 intro H enc fuel cs d ps h hw
 obtain ⟨xs, n, rfl, hx, hl, hn, hg⟩ := DataW.trod_struct ht h
 obtain ⟨rfl, rfl⟩ := Prod.mk.inj hx
 simp only [DataW.weights, ht] at hw
 have key : ∀ (l : List Field) (o : Nat) (Rs : List (List Value → Prop)) (ys : List (DataW H × List MemPlace)), XToldAll P W (l.map (·.type)) Rs → offsOk P l o (P.cellsOf t) = true → ys.length = l.length →
   (∀ n ∈ DataW.weightsEach P (l.map (·.type)) (ys.map (·.1)), n ≤ reachBytes) → (∀ (i : Nat) (f : Field), l[i]? = some f → DataW.trod enc P W 0 (fun _ => true) true n f.type ((cs.drop f.offset).take (P.cellsOf f.type)) = ys[i]?) → Seq Rs (cs.drop o) := by
  intro l
  induction l with
  | nil =>
   intro o Rs ys hR ho _ _ _
   cases Rs with
   | nil => simp only [offsOk, beq_iff_eq] at ho; simp [Seq, ho, hl]
   | cons _ _ => simp [XToldAll] at hR
  | cons f l ih =>
   intro o Rs ys hR ho hy hw hg
   cases Rs with
   | nil => simp [XToldAll] at hR
   | cons R Rs =>
    cases ys with
    | nil => simp at hy
    | cons y ys =>
     simp only [offsOk, Bool.and_eq_true, beq_iff_eq] at ho
     simp only [List.map_cons, DataW.weightsEach, List.mem_append] at hw
     obtain ⟨hR1, hR2⟩ := hR
     have g0 := hg 0 f (by simp)
     simp only [List.getElem?_cons_zero] at g0
     rw [ho.1] at g0
     refine ⟨(cs.drop o).take (P.cellsOf f.type), (cs.drop o).drop (P.cellsOf f.type), (List.take_append_drop _ _).symm, ?_, ?_⟩
     ·exact hR1 H enc n _ y.1 y.2 g0 (fun n hn => hw n (.inl hn))
     ·rw [List.drop_drop]
      refine ih _ Rs ys hR2 ho.2 (by simpa using hy) (fun n hn => hw n (.inr hn)) ?_
      intro i f' hi
      have := hg (i + 1) f' (by simpa using hi)
      simpa using this
 have := key fs.toList 0 Rs xs hR ho (by simpa using hn) hw (fun i f hi => hg i f (by simpa using hi))
 simpa using this
theorem cells?_get {b n : Nat} {a : Addr} {row : List Value} (h : W.cells? b a n = some row) : row.length = n ∧ ∀ (j : Nat) (u : Value), row[j]? = some u → W.cell? (a.add j) = some u := by
 unfold World.cells? at h
 split at h
 ·refine ⟨by simpa using mapM_some_length h, fun j u hu => ?_⟩
  have hj : j < row.length := (List.getElem?_eq_some_iff.1 hu).1
  have hl : row.length = n := by simpa using mapM_some_length h
  have := mapM_some_get h j j (List.getElem?_range (by omega))
  rw [hu] at this
  exact this
 ·cases h
theorem flat_get {sz : Nat} {f : Nat → Value → Prop} : ∀ (rows : List (List Value)) (o : Nat), (∀ row ∈ rows, row.length = sz) → (∀ (i : Nat) (row : List Value), rows[i]? = some row → ∀ (m : Nat) (u : Value), row[m]? = some u → f (o + i * sz + m) u) →
  ∀ (j : Nat) (u : Value), rows.flatten[j]? = some u → f (o + j) u
 | [], _, _, _, j, u, hu => by simp at hu
 | r :: rs, o, hl, hf, j, u, hu => by
  have hr := hl r (by simp)
  rw [List.flatten_cons] at hu
  by_cases hj : j < r.length
  ·rw [List.getElem?_append_left hj] at hu
   simpa using hf 0 r rfl j u hu
  ·rw [List.getElem?_append_right (by omega)] at hu
   have := flat_get rs (o + sz) (fun row hm => hl row (by simp [hm])) (fun i row hi m u hm => by
    have := hf (i + 1) row (by simpa using hi) m u hm
    rw [Nat.succ_mul] at this
    have e : o + (i * sz + sz) + m = o + sz + i * sz + m := by omega
    rwa [e] at this) (j - r.length) u hu
   have e : o + sz + (j - r.length) = o + j := by omega
   rwa [e] at this
theorem XTold.slice {e : TypeId} {sz : Nat} {R : List Value → Prop} (ht : P.underlying t = some (.slice e)) (hsz : P.cellsOf e = sz) (hR : XTold P W e R) :
  XTold P W t (fun cs => ∃ (a : Option Addr) (cap : Nat) (rows : List (List Value)), cs = [.slice a rows.length cap] ∧ (Spot (.slice a rows.length cap) → Rd sz W (.slice a rows.length cap) rows.length rows.flatten) ∧
   (∀ row ∈ rows, R row) ∧ rows.length * P.bytesOf e ≤ 140737488351232 ∧ rows.length ≤ cap ∧ cap ≤ maxLen) := by
 intro H enc fuel cs d ps h hw
 cases fuel with
 | zero => simp [DataW.trod] at h
 | succ m =>
  unfold DataW.trod at h
  rw [ht] at h
  split at h <;> (try (rename_i hq; cases hq; done)) <;> (try (cases h; done))
  ·exact ⟨none, 0, [], rfl, fun _ => ⟨by simp, .inl ⟨rfl, rfl⟩⟩, by simp, by simp, by simp, by simp⟩
  ·rename_i a len cap he
   cases he
   simp only at h
   split at h
   ·rename_i hc
    simp only [Option.bind_eq_some_iff, Option.map_eq_some_iff, Prod.mk.injEq] at h
    obtain ⟨elems, hel, rest, hrest, rfl, rfl⟩ := h
    simp only [DataW.weights, ht, List.mem_cons, forall_eq_or_imp, List.mem_append] at hw
    have hlen : elems.length = len := by simpa using mapM_some_length hel
    have each : ∀ i, ∃ row, i < len → W.cells? 0 (a.add (i * P.cellsOf e)) (P.cellsOf e) = some row ∧ DataW.trod enc P W 0 (fun _ => true) true m e row = elems[i]? := by
     intro i
     by_cases hi : i < len
     ·have := mapM_some_get hel i i (List.getElem?_range (by omega))
      rw [List.getElem?_eq_getElem (by omega)] at this
      obtain ⟨row, h1, h2⟩ := Option.bind_eq_some_iff.1 this
      exact ⟨row, fun _ => ⟨h1, by rw [h2, List.getElem?_eq_getElem (by omega)]⟩⟩
     ·exact ⟨[], fun h => absurd h hi⟩
    let rows := (List.range len).map fun i => (each i).choose
    have hrows : rows.length = len := by simp [rows]
    have hget : ∀ (i : Nat) (row : List Value), rows[i]? = some row → i < len ∧ W.cells? 0 (a.add (i * P.cellsOf e)) (P.cellsOf e) = some row ∧ DataW.trod enc P W 0 (fun _ => true) true m e row = elems[i]? := by
     intro i row hi
     have hl : i < len := by rw [← hrows]; exact (List.getElem?_eq_some_iff.1 hi).1
     simp only [rows, List.getElem?_map, List.getElem?_range hl, Option.map_some, Option.some.injEq] at hi
     subst hi
     exact ⟨hl, (each i).choose_spec hl⟩
    refine ⟨some a, cap, rows, by rw [hrows], fun hsp => ⟨?_, .inr ⟨a.block, a.off, cap, ?_, by omega, ?_⟩⟩, ?_, ?_, by omega, hc.2.2⟩
    ·have : ∀ (l : List (List Value)), (∀ row ∈ l, row.length = sz) → l.flatten.length = l.length * sz := by
      intro l hl
      induction l with
      | nil => simp
      | cons r l ih => rw [List.flatten_cons, List.length_append, ih (fun x hx => hl x (by simp [hx])), hl r (by simp), List.length_cons, Nat.succ_mul]; omega
     refine this rows fun row hm => ?_
     obtain ⟨i, hi⟩ := List.getElem?_of_mem hm
     rw [← hsz]
     exact (cells?_get (hget i row hi).2.1).1
    ·have := hsp a _ _ rfl
     cases a; simp_all
    ·have hsa := hsp a _ _ rfl
     intro j u hu
     refine flat_get (sz := sz) (f := fun o u => W.cell? ⟨a.block, o, none⟩ = some u) rows a.off ?_ ?_ j u hu
     ·intro row hm
      obtain ⟨i, hi⟩ := List.getElem?_of_mem hm
      rw [← hsz]
      exact (cells?_get (hget i row hi).2.1).1
     ·intro i row hi k u hk
      have := (cells?_get (hget i row hi).2.1).2 k u hk
      rw [hsz] at this
      simp only [Addr.add] at this
      cases a
      (try simp only at hsa)
      subst hsa
      rw [← this]
      congr 1
      by_cases h1 : i * sz = 0 <;> by_cases h2 : k = 0 <;> simp [h1, h2]
    ·intro row hm
     obtain ⟨i, hi⟩ := List.getElem?_of_mem hm
     obtain ⟨hl, _, h2⟩ := hget i row hi
     rw [List.getElem?_eq_getElem (by omega)] at h2
     refine hR H enc m row elems[i].1 elems[i].2 h2 fun n hn => hw.2 n (.inl ?_)
     have : ∀ (l : List (DataW H × List MemPlace)) (y : DataW H × List MemPlace), y ∈ l → n ∈ y.1.weights P e → n ∈ DataW.weightsAll P e (l.map (·.1)) := by
      intro l y hy hn
      induction l with
      | nil => simp at hy
      | cons z l ih =>
       simp only [List.map_cons, DataW.weightsAll, List.mem_append]
       rcases List.mem_cons.1 hy with rfl | hy
       ·exact .inl hn
       ·exact .inr (ih hy)
     exact this elems elems[i] (List.getElem_mem _) hn
    ·have h1 := hw.1
     simp only [List.length_map, hlen] at h1
     rw [hrows]
     exact Nat.le_trans (Nat.mul_le_mul_right _ (Nat.le_add_right _ _)) h1
   ·cases h
theorem rows_of {α : Type} {f : α → List Value} {q : α → Prop} : ∀ {rows : List (List Value)}, (∀ row ∈ rows, ∃ x, row = f x ∧ q x) → ∃ xs : List α, rows = xs.map f ∧ ∀ x ∈ xs, q x
 | [], _ => ⟨[], rfl, by simp⟩
 | r :: rs, h => by
  obtain ⟨x, h1, h2⟩ := h r (by simp)
  obtain ⟨xs, h3, h4⟩ := rows_of (rows := rs) fun row hm => h row (by simp [hm])
  refine ⟨x :: xs, by rw [h1, h3]; rfl, fun y hy => ?_⟩
  rcases List.mem_cons.1 hy with rfl | hy
  ·exact h2
  ·exact h4 y hy
theorem okWide_spot {r : Reach} {base : Nat} {v : Value} (h : Value.okWide P W r base t v) : ∀ x ∈ v.cells.toList, Spot x := by
 have cell : ∀ {u : TypeId} {x : Value}, Cell.okWide P W r base u x → Spot x := by
  intro u x hx a len cap hv
  subst hv
  unfold Cell.okWide Cell.ok at hx
  split at hx <;> simp_all
  split at hx <;> simp_all
  exact hx.2.2.2.1
 unfold Value.okWide at h
 split at h
 ·obtain ⟨cs, rfl, _, ts, _, _, h⟩ := h
  intro x hx
  obtain ⟨i, hi⟩ := List.getElem?_of_mem hx
  obtain ⟨u, _, hu⟩ := h i x (by simpa [Value.cells] using hi)
  exact cell hu
 ·obtain ⟨cs, rfl, _, ts, _, _, h⟩ := h
  intro x hx
  obtain ⟨i, hi⟩ := List.getElem?_of_mem hx
  obtain ⟨u, _, hu⟩ := h i x (by simpa [Value.cells] using hi)
  exact cell hu
 ·intro x hx
  cases v <;> simp [Value.cells] at hx <;> (try subst hx) <;> (try exact cell h)
  all_goals (exfalso; revert h; unfold Cell.okWide Cell.ok; split <;> simp_all <;> (split <;> simp_all))
def scalar (P : Program) (t : TypeId) : Bool := match P.underlying t with | some .bool | some .string | some (.int _) | some (.slice _) => true | _ => false
theorem okWide_one {r : Reach} {base : Nat} {v x : Value} (hs : scalar P t = true) (h : Value.okWide P W r base t v) (hv : v.cells.toList = [x]) : v = x := by
 cases v <;> simp [Value.cells] at hv <;> (try exact hv)
 all_goals
  exfalso
  unfold scalar at hs
  unfold Value.okWide Cell.okWide Cell.ok at h
  split at hs <;> simp_all
theorem XTold.arg {R : List Value → Prop} (ho : XTold P W t R) {H : Type} {enc : TypeId × Value → H} {v : Value} {d : DataW H} {ps : List MemPlace}
  (hd : DataW.Trod enc P W 0 (fun _ => true) true t v d ps) {ts : List TypeId} {ds : List (DataW H)} (hw : (DataW.weightsEach P ts ds).all (· ≤ reachBytes) = true) {j : Nat} (ht : ts[j]? = some t) (hj : ds[j]? = some d) : R v.cells.toList := by
 obtain ⟨m, hm⟩ := hd
 refine ho H enc m _ d ps hm fun n hn => ?_
 have := List.all_eq_true.1 hw n (DataW.weights_mem_each ht hj n hn)
 simpa using this
theorem trod_blocks {H : Type} {enc : TypeId × Value → H} {v : Value} {d : DataW H} {ps : List MemPlace} (h : DataW.Trod enc P W 0 (fun _ => true) true t v d ps) : ∀ x ∈ ps, x.block < W.heap.size := by
 obtain ⟨m, hm⟩ := h
 exact DataW.trod_lt m _ _ _ hm
end
end Go.Proofs.YtokdiacjcbolfaaDoor.X
namespace Go.Proofs.YtokdiacjcbolfaaDoor.X
open Go Go.RowKit
def bt (s : ByteArray) (i : Int) : Int := ((s.data.toList.getD i.toNat 0).toNat : Int)
def asrt {α : Type} (c : Prop) [Decidable c] (x : Option α) : Option α := if c then x else none
theorem q0d {α : Type} {c : Prop} [Decidable c] {x : Option α} {r : α} (h : asrt c x = some r) : c ∧ x = some r := by
 unfold asrt at h
 split at h
 ·rename_i hc; exact ⟨hc, h⟩
 ·cases h
theorem q0i {α : Type} {c : Prop} [Decidable c] {x : Option α} (h : c) : asrt c x = x := if_pos h
theorem q08 {α β : Type} {x : Option α} {f : α → Option β} {r : β} (h : x.bind f = some r) : ∃ y, x = some y ∧ f y = some r := by
 cases x with
 | none => cases h
 | some y => exact ⟨y, rfl, h⟩
theorem q0b {α : Type} {c : Prop} [Decidable c] {x y : Option α} {r : α} (h : (if c then x else y) = some r) (hc : c) : x = some r := by rwa [if_pos hc] at h
theorem q0c {α : Type} {c : Prop} [Decidable c] {x y : Option α} {r : α} (h : (if c then x else y) = some r) (hc : ¬ c) : y = some r := by rwa [if_neg hc] at h
theorem q29 {x y : ByteArray} (h : x = y) : (x.toList == y.toList) = true := by rw [h]; simp
theorem q23 {x y : ByteArray} (h : ¬ x = y) : (x.toList == y.toList) = false := by
 rw [beq_eq_false_iff_ne]
 intro e
 rw [ByteArray.toList_eq, ByteArray.toList_eq] at e
 exact h (ByteArray.ext (Array.ext' e))
theorem str_ne_t {x y : ByteArray} (h : ¬ x = y) : (!(x.toList == y.toList)) = true := by rw [q23 h]; rfl
theorem str_ne_f {x y : ByteArray} (h : x = y) : (!(x.toList == y.toList)) = false := by rw [q29 h]; rfl
theorem q2e {x y : Int} (h : ¬ x = y) : (x != y) = true := bne_iff_ne.mpr h
theorem q2f {x y : Int} (h : x = y) : (x != y) = false := bne_eq_false_iff_eq.mpr h
theorem ieq_t {x y : Int} (h : x = y) : (x == y) = true := beq_iff_eq.mpr h
theorem ieq_f {x y : Int} (h : ¬ x = y) : (x == y) = false := beq_eq_false_iff_ne.mpr h
theorem not_t {b : Bool} (h : b = false) : (!b) = true := by rw [h]; rfl
theorem not_f {b : Bool} (h : b = true) : (!b) = false := by rw [h]; rfl
theorem q2w {b : Bool} (h : ¬ b = true) : b = false := Bool.eq_false_iff.mpr h
section
variable {P : Program} {n : Nat} {l : List (Nat × Value)} {a : Act} {ops : Array Oper} {o : Oper} {rest : List Oper} {Q : Exit → Act → World → Prop} {w0 W : World} {bs : List (Nat × Obj)} {os : List OwnA}
theorem stepsi (ha : Has n l a) (d t : Nat) (x i : Operand) (s : ByteArray) (k : IntKind) (j : Int) (ho : o.op = .index t x i) (hx : ev l x = .string s) (hi : ev l i = .int k j) (ht : P.underlying t = some .string)
  (h0 : 0 ≤ j) (h1 : j < s.size) (hok : okB n l ops o d = true) (h : ∀ a', Has n ((d, .int .u8 (bt s j)) :: l) a' → wpList P ops Q rest a' W) : wpList P ops Q (o :: rest) a W := by
 refine stepv (W' := W) ha d (.int .u8 (bt s j)) hok ?_ h
 unfold execOp
 simp only [ho, hx, hi, Sem.run_bind, run_index_string W t s k j ht, dif_pos (show 0 ≤ j ∧ j < (s.size : Int) from ⟨h0, h1⟩), Result.andThen_ok, Sem.run_pure]
 have h2 : j.toNat < s.size := by omega
 have : bt s j = ((s[j.toNat]'h2).toNat : Int) := by
  unfold bt
  have h3 : j.toNat < s.data.toList.length := by rw [Array.length_toList]; exact h2
  rw [List.getD_eq_getElem?_getD, List.getElem?_eq_getElem h3]
  rfl
 rw [this]
theorem stepss (ha : Has n l a) (d t : Nat) (x lo hi : Operand) (s : ByteArray) (k k' : IntKind) (i j : Int) (ho : o.op = .slice t x (some lo) (some hi) none) (hx : ev l x = .string s) (hl : ev l lo = .int k i) (hh : ev l hi = .int k' j)
  (ht : P.underlying t = some .string) (h0 : 0 ≤ i) (h1 : i ≤ j) (h2 : j ≤ s.size) (hok : okB n l ops o d = true) (h : ∀ a', Has n ((d, .string (s.extract i.toNat j.toNat)) :: l) a' → wpList P ops Q rest a' W) : wpList P ops Q (o :: rest) a W := by
 refine stepv (W' := W) ha d _ hok ?_ h
 unfold execOp
 simp only [ho, hx, hl, hh, Option.map_some, Option.map_none, Sem.run_bind, run_sliceAt_string W t _ _ _ _ ht, run_slice_string W t s k k' i j ht h0 h1 h2, Result.andThen_ok, Sem.run_pure]
theorem stepssh (ha : Has n l a) (d t : Nat) (x hi : Operand) (s : ByteArray) (k' : IntKind) (j : Int) (ho : o.op = .slice t x none (some hi) none) (hx : ev l x = .string s) (hh : ev l hi = .int k' j)
  (ht : P.underlying t = some .string) (h0 : 0 ≤ j) (h2 : j ≤ s.size) (hok : okB n l ops o d = true) (h : ∀ a', Has n ((d, .string (s.extract 0 j.toNat)) :: l) a' → wpList P ops Q rest a' W) : wpList P ops Q (o :: rest) a W := by
 refine stepv (W' := W) ha d _ hok ?_ h
 unfold execOp
 simp only [ho, hx, hh, Option.map_some, Option.map_none, Sem.run_bind, run_sliceAt_string W t _ _ _ _ ht, run_slice_string_h W t s ht k' j h0 h2, Result.andThen_ok, Sem.run_pure]
theorem stepssl (ha : Has n l a) (d t : Nat) (x lo : Operand) (s : ByteArray) (k : IntKind) (i : Int) (ho : o.op = .slice t x (some lo) none none) (hx : ev l x = .string s) (hl : ev l lo = .int k i)
  (ht : P.underlying t = some .string) (h0 : 0 ≤ i) (h2 : i ≤ s.size) (hok : okB n l ops o d = true) (h : ∀ a', Has n ((d, .string (s.extract i.toNat s.size)) :: l) a' → wpList P ops Q rest a' W) : wpList P ops Q (o :: rest) a W := by
 refine stepv (W' := W) ha d _ hok ?_ h
 unfold execOp
 simp only [ho, hx, hl, Option.map_some, Option.map_none, Sem.run_bind, run_sliceAt_string W t _ _ _ _ ht, run_slice_string_l W t s ht k i h0 h2, Result.andThen_ok, Sem.run_pure]
theorem stepsa (ha : Has n l a) (d t t' : Nat) (x y : Operand) (s u : ByteArray) (ho : o.op = .binOp .add t x y t') (hx : ev l x = .string s) (hy : ev l y = .string u) (hs : s.size + u.size ≤ 9223372036854775807)
  (hok : okB n l ops o d = true) (h : ∀ a', Has n ((d, .string (s ++ u)) :: l) a' → wpList P ops Q rest a' W) : wpList P ops Q (o :: rest) a W := by
 refine stepv (W' := W) ha d _ hok ?_ h
 have h1 : ¬ (((s.size + u.size : Nat) : Int) > IntKind.i64.max) := by rw [IntKind.max_i64]; omega
 unfold execOp
 simp only [ho, hx, hy, Sem.run_bind, eqGuard, binOp, Op.stringOp, if_neg h1]
 rfl
def encs {α : Type} (enc : α → List Value) (xs : List α) : List Value := xs.flatMap enc
def rdL {α : Type} (d : α) (xs : List α) (i : Int) : α := xs.getD i.toNat d
theorem q37 {α : Type} (enc : α → List Value) (xs ys : List α) : encs enc (xs ++ ys) = encs enc xs ++ encs enc ys := by simp [encs]
theorem q36 {α : Type} {enc : α → List Value} {sz : Nat} (hsz : ∀ x, (enc x).length = sz) (xs : List α) : (encs enc xs).length = xs.length * sz := by
 induction xs with
 | nil => simp [encs]
 | cons x xs ih =>
  have : encs enc (x :: xs) = enc x ++ encs enc xs := rfl
  rw [this, List.length_append, hsz, ih, List.length_cons, Nat.add_mul]
  omega
theorem encs_split {α : Type} {enc : α → List Value} (d : α) (xs : List α) (j : Nat) (hj : j < xs.length) : encs enc xs = encs enc (xs.take j) ++ (enc (xs.getD j d) ++ encs enc (xs.drop (j + 1))) := by
 have h1 : xs = xs.take j ++ (xs.getD j d :: xs.drop (j + 1)) := by
  rw [List.getD_eq_getElem?_getD, List.getElem?_eq_getElem hj, Option.getD_some, ← List.drop_eq_getElem_cons hj, List.take_append_drop]
 have h2 := congrArg (encs enc) h1
 rw [q37] at h2
 exact h2
theorem encs_get {α : Type} {enc : α → List Value} {sz : Nat} (hsz : ∀ x, (enc x).length = sz) (d : α) (xs : List α) (j m : Nat) (hj : j < xs.length) (hm : m < sz) : (encs enc xs)[j * sz + m]? = (enc (xs.getD j d))[m]? := by
 have hl : (encs enc (xs.take j)).length = j * sz := by rw [q36 hsz, List.length_take]; congr 1; omega
 rw [encs_split d xs j hj, List.getElem?_append_right (by omega), hl, Nat.add_sub_cancel_left, List.getElem?_append_left (by rw [hsz]; exact hm)]
theorem stepie {α : Type} (enc : α → List Value) (dfl : α) (ha : Has n l a) (d : Nat) {sz : Nat} (hsz : ∀ x, (enc x).length = sz) {v : Value} {xs : List α} (hr : Rd sz W v xs.length (encs enc xs)) (t e : Nat) (x i : Operand) (k : IntKind) (j : Int)
  (ho : o.op = .indexAddr t x i) (hx : ev l x = v) (hi : ev l i = .int k j)
  (ht : P.underlying t = some (.slice e)) (hs : (P.info? e).map (·.size) = some sz) (h0 : 0 ≤ j) (h1 : j < xs.length) (hok : okB n l ops o d = true)
  (h : ∀ b off a', CA W b off (enc (rdL dfl xs j)).toArray → Has n ((d, .pointer (some ⟨b, off, none⟩)) :: l) a' → wpList P ops Q rest a' W) : wpList P ops Q (o :: rest) a W := by
 refine stepia ha d hr t e x i k j ho hx hi ht hs h0 h1 hok fun b off a' hc ha' => h b off a' (fun m u hu => ?_) ha'
 have hm : m < sz := by
  have := (Array.getElem?_eq_some_iff.1 hu).1
  rw [List.size_toArray, hsz] at this
  exact this
 refine hc m u hm ?_
 rw [encs_get hsz dfl xs j.toNat m (by omega) hm]
 simpa [rdL] using hu
theorem stepbs (ha : Has n l a) (HW : Wd w0 W bs os) (d e sz len : Nat) (C : Array Value) (cs : List Value) (hm : len ≤ maxLen) (hC : C.size = len * sz) (hcs : C.toList = cs) (hok : okB n l ops o d = true)
  (hx : (execOp (ev l) o).run P W = .ok (.value (.slice (some ⟨W.heap.size, 0, none⟩) len len)) (W.alloc (.cells C e)))
  (h : ∀ b a' W', Wd w0 W' bs (⟨e, sz, .slice (some ⟨b, 0, none⟩) len len, len, cs⟩ :: os) → Has n ((d, .slice (some ⟨b, 0, none⟩) len len) :: l) a' → wpList P ops Q rest a' W') : wpList P ops Q (o :: rest) a W := by
 refine stepv ha d _ hok hx fun a' ha' => h _ a' _ (HW.newo C e sz len len cs (Nat.le_refl _) hm hC ?_) ha'
 rw [← hC, ← Array.length_toList, List.take_length, hcs]
theorem infoParts {e : Nat} {z : Value} {sz bytes : Nat} (h : (P.info? e).map (fun i => (i.zero, i.size, i.bytes)) = some (some z, sz, bytes)) : ∃ i, P.info? e = some i ∧ i.zero = some z ∧ i.size = sz ∧ i.bytes = bytes := by
 cases hi : P.info? e with
 | none => simp [hi] at h
 | some i =>
  simp only [hi, Option.map_some, Option.some.injEq, Prod.mk.injEq] at h
  exact ⟨i, rfl, h.1, h.2.1, h.2.2⟩
theorem setCells_block (b : Nat) : ∀ (vs : List Value) (o : Nat) (W : World) (C : Array Value) (e : Nat) (fr : Nat × Nat), W.heap[b]? = some (.cells C e fr) → o + vs.length ≤ C.size →
  ∃ C2 : Array Value, (W.setCells b o vs).heap[b]? = some (.cells C2 e fr) ∧ C2.size = C.size ∧ (∀ i, C2[i]? = if o ≤ i ∧ i < o + vs.length then vs[i - o]? else C[i]?) ∧
   (∀ k, k ≠ b → (W.setCells b o vs).heap[k]? = W.heap[k]?) ∧ (W.setCells b o vs).heap.size = W.heap.size ∧ (W.setCells b o vs).os = W.os ∧ (W.setCells b o vs).tape = W.tape ∧ (W.setCells b o vs).output = W.output := by
 intro vs
 induction vs with
 | nil => intro o W C e fr hb _; exact ⟨C, hb, rfl, fun i => by rw [if_neg (by simp only [List.length_nil]; omega)], fun _ _ => rfl, rfl, rfl, rfl, rfl⟩
 | cons v r ih =>
  intro o W C e fr hb hl
  simp only [List.length_cons] at hl
  have hb' : (W.setCell ⟨b, o, none⟩ v).heap[b]? = some (.cells (C.setIfInBounds o v) e fr) := by
   simp [World.setCell, Array.getElem?_modify, hb]
  obtain ⟨C2, h1, h2, h3, h4, h5, h6, h7, h8⟩ := ih (o + 1) (W.setCell ⟨b, o, none⟩ v) (C.setIfInBounds o v) e fr hb' (by simp; omega)
  refine ⟨C2, h1, by simpa using h2, fun i => ?_, fun k hk => ?_, by rw [World.setCells, h5]; simp [World.setCell], by rw [World.setCells, h6]; rfl, by rw [World.setCells, h7]; rfl, by rw [World.setCells, h8]; rfl⟩
  ·rw [h3 i]
   simp only [List.length_cons]
   by_cases e1 : i = o
   ·subst e1
    rw [if_neg (by omega), if_pos (by omega)]
    simp [Array.getElem?_setIfInBounds]; omega
   ·by_cases e2 : o + 1 ≤ i ∧ i < o + 1 + r.length
    ·rw [if_pos e2, if_pos (by omega)]
     have : i - o = (i - (o + 1)) + 1 := by omega
     rw [this, List.getElem?_cons_succ]
    ·rw [if_neg e2, if_neg (by omega), Array.getElem?_setIfInBounds, if_neg (fun h => e1 h.symm)]
  ·rw [World.setCells, h4 k hk]
   simp only [World.setCell, Array.getElem?_modify]
   rw [if_neg (fun h => hk h.symm)]
theorem run_append_G {W : World} (base t tx ty e : Nat) {i : TypeInfo} {z : Value} {sz bytes : Nat} (ht : P.underlying t = some (.slice e)) (hi : P.info? e = some i) (hz0 : i.zero = some z) (hz1 : i.size = sz) (hz2 : i.bytes = bytes) (hz : z.cells.size = sz)
  {v : Value} {m : Nat} {cs : List Value} (hown : ownG W base e sz v m cs) {x : Value} {m2 : Nat} {cs2 : List Value} (hs : Src P sz tx x m2 cs2 W) (h63 : m + m2 ≤ maxLen) (hby : (m + m2) * bytes ≤ 140737488355328) (hbase : base ≤ W.heap.size) :
  ∃ v' W', (Builtin.append_ #[t, tx] ty #[v, x]).run P W = .ok v' W' ∧ ownG W' base e sz v' (m + m2) (cs ++ cs2) ∧ W.grownBy W' v.ownBlock ∧ (v'.ownBlock = v.ownBlock ∨ v'.ownBlock = some W.heap.size) := by
 subst hz1
 have hsmall : ((m + m2 : Nat) : Int) ≤ 9223372036854775807 := by simp only [maxLen] at h63; omega
 have hlen : (cs ++ cs2).length = (m + m2) * i.size := by rw [List.length_append, hown.1, hs.newsLen, Nat.add_mul]
 have grow : ∀ (b : Option Addr) (cap : Nat), m ≤ cap → (Builtin.firstCells i.size m (.slice b m cap)).run P W.drew = .ok cs.toArray W.drew → cap < m + m2 →
   ∃ v' W', (Builtin.append_ #[t, tx] ty #[.slice b m cap, x]).run P W = .ok v' W' ∧ ownG W' base e i.size v' (m + m2) (cs ++ cs2) ∧ W.grownBy W' (Value.slice b m cap).ownBlock ∧ (v'.ownBlock = (Value.slice b m cap).ownBlock ∨ v'.ownBlock = some W.heap.size) := by
  intro b cap hmc hold hg
  have hr := run_append_grow_src (P := P) W t tx ty e i z ht hi hz0 b m cap cs hold x m2 cs2 hs hg hsmall (by rw [hz2]; exact growslice_fits (by omega) (by rw [Nat.add_mul] at hby ⊢; omega))
  have hge := grownCap_ge W (m + m2) cap e
  have hcm2 : grownCap W (m + m2) cap e ≤ maxLen := grownCap_le_maxLen W (m + m2) cap e h63
  refine ⟨_, _, hr, ⟨hlen, .inr ⟨W.heap.size, _, _, (0, 0), rfl, hbase, heap_alloc_new W.drew _, fun i _ hx => by simp at hx, hge, hcm2, ?_, ?_⟩⟩, ⟨rfl, rfl, rfl, by simp, fun k hk _ => (World.grownBy_alloc W.drew _ none).block k hk (by simp)⟩, .inr rfl⟩
  ·simp only [Array.size_append, List.size_toArray, size_zeroCells, hz, hlen]
   rw [← Nat.add_mul]
   congr 1
   omega
  ·simp only [Array.toList_append]
   rw [← hlen]
   exact List.take_left
 rcases hown.2 with ⟨rfl, rfl⟩ | ⟨g, cap, cur, fz, rfl, hbg, hg, hfz, hnc, hcm, hcs, htake⟩
 ·have h0 : cs = [] := List.eq_nil_of_length_eq_zero (by rw [hown.1]; simp)
  subst h0
  by_cases h2 : m2 = 0
  ·subst h2
   have h2 : cs2 = [] := List.eq_nil_of_length_eq_zero (by rw [hs.newsLen]; simp)
   subst h2
   refine ⟨.slice none 0 0, W, ?_, by simpa using hown, ⟨rfl, rfl, rfl, Nat.le_refl _, fun _ _ _ => rfl⟩, .inl rfl⟩
   rcases hs.kind with ⟨e', hk⟩ | hk <;> simp [Builtin.append_, run_underlying ht, run_underlying hk, sizeOf, typeInfo, hi, hs.len, hs.cells]
  ·exact grow none 0 (Nat.le_refl _) (by simp [Builtin.firstCells]) (by omega)
 ·by_cases hroom : m + m2 ≤ cap
  ·have hfit : m * i.size + cs2.length ≤ cur.size := by rw [hs.newsLen, hcs, ← Nat.add_mul]; exact Nat.mul_le_mul_right _ hroom
   have hr := run_append_room_src (P := P) W t tx ty e i ht hi g 0 m cap x m2 cs2 hs hroom (fun j hj => by
    have : 0 + m * i.size + j < cur.size := by omega
    simp only [World.cell?, hg]
    rw [Array.getElem?_eq_getElem this]; rfl) (fun j hj => by
    have := hfz (0 + m * i.size + j) (by omega)
    simp only [World.frozen?, hg, Bool.and_eq_false_iff, decide_eq_false_iff_not]
    omega)
   simp only [Nat.zero_add] at hr
   obtain ⟨C2, q1, q2, q3, q4, q5, q6, q7, q8⟩ := setCells_block g cs2 (m * i.size) W cur e fz hg hfit
   refine ⟨_, _, hr, ⟨hlen, .inr ⟨g, cap, C2, fz, rfl, hbg, q1, by rw [q2]; exact hfz, hroom, hcm, by rw [q2, hcs], ?_⟩⟩, ⟨q6, q7, q8, by rw [q5]; exact Nat.le_refl _, fun k _ hk => q4 k (fun ee => hk (by simp [Value.ownBlock, ee]))⟩, .inl rfl⟩
   apply List.ext_getElem?
   intro k
   rw [List.getElem?_take]
   have hcl : cs.length = m * i.size := hown.1
   by_cases hk : k < (m + m2) * i.size
   ·rw [if_pos hk, Array.getElem?_toList, q3]
    by_cases hk2 : k < m * i.size
    ·rw [if_neg (by omega), List.getElem?_append_left (by omega), ← htake, List.getElem?_take, if_pos hk2, Array.getElem?_toList]
    ·rw [if_pos ⟨by omega, by rw [hs.newsLen, ← Nat.add_mul]; exact hk⟩, List.getElem?_append_right (by omega), hcl]
   ·rw [if_neg hk, List.getElem?_eq_none (by rw [hlen]; omega)]
  ·refine grow (some ⟨g, 0, none⟩) cap hnc (run_firstCells_some W.drew i.size m _ m cap cs hown.1 fun j u hu => ?_) (by omega)
   rw [Addr.add_lit, Nat.zero_add]
   show W.cell? ⟨g, j, none⟩ = some u
   rw [cell_of_row W g j cur e fz hg]
   rw [← htake, List.getElem?_take] at hu
   split at hu
   ·simpa using hu
   ·cases hu
theorem stepaps (ha : Has n l a) (HW : Wd w0 W bs os) (d i : Nat) (t tx e : Nat) (x y : Operand) (z : Value) (sz bytes : Nat) (v : Value) (m : Nat) (cs : List Value) (v2 : Value) (m2 : Nat) (cs2 : List Value)
  (hi : os[i]? = some ⟨e, sz, v, m, cs⟩) (ho : o.op = .call { callee := .builtin .append, args := #[x, y], argTypes := #[t, tx] }) (hx : ev l x = v) (hy : ev l y = v2) (hs : Src P sz tx v2 m2 cs2 W)
  (ht : P.underlying t = some (.slice e)) (hinfo : (P.info? e).map (fun i => (i.zero, i.size, i.bytes)) = some (some z, sz, bytes)) (hz : z.cells.size = sz)
  (h63 : m + m2 ≤ maxLen) (hby : (m + m2) * bytes ≤ 140737488355328) (hok : okB n l ops o d = true)
  (h : ∀ A c a' W', Wd w0 W' bs (os.set i ⟨e, sz, .slice A (m + m2) c, m + m2, cs ++ cs2⟩) → Has n ((d, .slice A (m + m2) c) :: l) a' → wpList P ops Q rest a' W') : wpList P ops Q (o :: rest) a W := by
 obtain ⟨ie, hie, hz0, hz1, hz2⟩ := infoParts hinfo
 obtain ⟨v', W', hrun, ho', hg, hat⟩ := run_append_G (P := P) w0.heap.size t tx o.type e ht hie hz0 hz1 hz2 hz (HW.own i _ hi) hs h63 hby HW.size
 obtain ⟨A, c, rfl⟩ := (Rd.of_own ho').shape
 refine stepv (W' := W') ha d (.slice A (m + m2) c) hok ?_ fun a' ha' => h A c a' W' (HW.turno hi ho' hg ?_) ha'
 ·unfold execOp
  simp only [ho, resolve, invoke, builtin, Sem.run_bind, Sem.run_pure, Result.andThen_ok, List.map_toArray, List.map_cons, List.map_nil, hx, hy, hrun]
 ·rcases hat with e | e
  ·exact .inl e
  ·exact .inr (fun k hk => by rw [e] at hk; simp at hk; omega)
theorem srcRd {sz tx e' n : Nat} {v : Value} {cs : List Value} {W : World} (hr : Rd sz W v n cs) (ht : P.underlying tx = some (.slice e')) (h1 : q3g cs = true) : Src P sz tx v n cs W := by
 obtain ⟨hl, hr⟩ := hr
 rcases hr with ⟨rfl, rfl⟩ | ⟨b, off, cap, rfl, _, hcell⟩
 ·have : cs = [] := List.eq_nil_of_length_eq_zero (by simpa using hl)
  subst this
  exact Src.ofNil W ht 0
 ·exact Src.ofSlice W ht ⟨b, off, none⟩ n cap cs hl (fun j u hu => by rw [Addr.add_lit]; exact hcell j u hu) (fun u hu => List.all_eq_true.mp h1 u hu)
theorem stepap (ha : Has n l a) (HW : Wd w0 W bs os) (d i : Nat) (t e : Nat) (x y : Operand) (z : Value) (sz bytes : Nat) (v : Value) (m : Nat) (cs : List Value) (v2 : Value) (m2 : Nat) (cs2 : List Value)
  (hi : os[i]? = some ⟨e, sz, v, m, cs⟩) (ho : o.op = .call { callee := .builtin .append, args := #[x, y], argTypes := #[t, t] }) (hx : ev l x = v) (hy : ev l y = v2) (hr : Rd sz W v2 m2 cs2) (h1 : q3g cs2 = true)
  (ht : P.underlying t = some (.slice e)) (hinfo : (P.info? e).map (fun i => (i.zero, i.size, i.bytes)) = some (some z, sz, bytes)) (hz : z.cells.size = sz) (hsz : 0 < sz)
  (h63 : m + m2 ≤ maxLen) (hby : (m + m2) * bytes ≤ 140737488355328) (hok : okB n l ops o d = true)
  (h : ∀ A c a' W', Wd w0 W' bs (os.set i ⟨e, sz, .slice A (m + m2) c, m + m2, cs ++ cs2⟩) → Has n ((d, .slice A (m + m2) c) :: l) a' → wpList P ops Q rest a' W') : wpList P ops Q (o :: rest) a W :=
 stepaps ha HW d i t t e x y z sz bytes v m cs v2 m2 cs2 hi ho hx hy (srcRd hr ht h1) ht hinfo hz h63 hby hok h
theorem byteCells_append (s u : ByteArray) : byteCells (s ++ u) = byteCells s ++ byteCells u := by
 unfold byteCells
 rw [ByteArray.data_append, Array.toList_append, List.map_append]
theorem stepapt (ha : Has n l a) (HW : Wd w0 W bs os) (d i : Nat) (t tx e : Nat) (x y : Operand) (v : Value) (s0 s : ByteArray)
  (hi : os[i]? = some ⟨e, 1, v, s0.size, byteCells s0⟩) (ho : o.op = .call { callee := .builtin .append, args := #[x, y], argTypes := #[t, tx] }) (hx : ev l x = v) (hy : ev l y = .string s)
  (ht : P.underlying t = some (.slice e)) (htx : P.underlying tx = some .string) (hinfo : (P.info? e).map (fun i => (i.zero, i.size, i.bytes)) = some (some (.int .u8 0), 1, 1))
  (hby : s0.size + s.size ≤ 140737488355328) (hok : okB n l ops o d = true)
  (h : ∀ A c a' W', Wd w0 W' bs (os.set i ⟨e, 1, .slice A (s0 ++ s).size c, (s0 ++ s).size, byteCells (s0 ++ s)⟩) → Has n ((d, .slice A (s0 ++ s).size c) :: l) a' → wpList P ops Q rest a' W') : wpList P ops Q (o :: rest) a W := by
 refine stepaps ha HW d i t tx e x y (.int .u8 0) 1 1 v s0.size _ (.string s) s.size _ hi ho hx hy (Src.ofString W htx s) ht hinfo rfl (by unfold maxLen; omega) (by omega) hok fun A c a' W' hW ha' => h A c a' W' ?_ ?_
 ·rw [ByteArray.size_append, byteCells_append]; exact hW
 ·rw [ByteArray.size_append]; exact ha'
theorem stepape {α : Type} (enc : α → List Value) (ha : Has n l a) (HW : Wd w0 W bs os) (d i : Nat) (t e : Nat) (x y : Operand) (z : Value) (sz bytes : Nat) (v : Value) (xs : List α) (v2 : Value) (ys : List α)
  (hi : os[i]? = some ⟨e, sz, v, xs.length, encs enc xs⟩) (ho : o.op = .call { callee := .builtin .append, args := #[x, y], argTypes := #[t, t] }) (hx : ev l x = v) (hy : ev l y = v2) (hr : Rd sz W v2 ys.length (encs enc ys)) (h1 : ∀ x, q3g (enc x) = true)
  (ht : P.underlying t = some (.slice e)) (hinfo : (P.info? e).map (fun i => (i.zero, i.size, i.bytes)) = some (some z, sz, bytes)) (hz : z.cells.size = sz) (hsz : 0 < sz)
  (h63 : xs.length + ys.length ≤ maxLen) (hby : (xs.length + ys.length) * bytes ≤ 140737488355328) (hok : okB n l ops o d = true)
  (h : ∀ A c a' W', Wd w0 W' bs (os.set i ⟨e, sz, .slice A (xs ++ ys).length c, (xs ++ ys).length, encs enc (xs ++ ys)⟩) → Has n ((d, .slice A (xs ++ ys).length c) :: l) a' → wpList P ops Q rest a' W') : wpList P ops Q (o :: rest) a W := by
 refine stepap ha HW d i t e x y z sz bytes v xs.length (encs enc xs) v2 ys.length (encs enc ys) hi ho hx hy hr ?_ ht hinfo hz hsz h63 hby hok ?_
 ·unfold q3g encs
  rw [List.all_eq_true]
  intro u hu
  obtain ⟨y, _, hy⟩ := List.mem_flatMap.mp hu
  exact List.all_eq_true.mp (h1 y) u hy
 ·intro A c a' W' hW ha'
  refine h A c a' W' ?_ ?_
  ·rw [List.length_append, q37]; exact hW
  ·rw [List.length_append]; exact ha'
theorem stepmk {α : Type} (enc : α → List Value) (dfl : α) (ha : Has n l a) (HW : Wd w0 W bs os) (d t e : Nat) (x y : Operand) (k k' : IntKind) (j : Int) (zv : Value) (bytes : Nat) (ho : o.op = .makeSlice t x y) (hx : ev l x = .int k j) (hy : ev l y = .int k' j)
  (ht : P.underlying t = some (.slice e)) (hinfo : (P.info? e).map (fun i => (i.zero, i.size, i.bytes)) = some (some zv, 1, bytes)) (hz : zv.cells = #[zv]) (hd : enc dfl = [zv]) (h0 : 0 ≤ j) (hb : (bytes : Int) * j ≤ 281474976710656) (h63 : j ≤ 9223372036854775807) (hok : okB n l ops o d = true)
  (h : ∀ b a' W', Wd w0 W' bs (⟨e, 1, .slice (some ⟨b, 0, none⟩) (List.replicate j.toNat dfl).length j.toNat, (List.replicate j.toNat dfl).length, encs enc (List.replicate j.toNat dfl)⟩ :: os) → Has n ((d, .slice (some ⟨b, 0, none⟩) (List.replicate j.toNat dfl).length j.toNat) :: l) a' → wpList P ops Q rest a' W') :
  wpList P ops Q (o :: rest) a W := by
 obtain ⟨ie, hie, hz0, hz1, hz2⟩ := infoParts hinfo
 have hrun := run_make (P := P) W t e ie zv ht hie hz0 k k' j j h0 (Int.le_refl _) (by rw [hz2]; exact hb) h63
 have hlen : (List.replicate j.toNat dfl).length = j.toNat := List.length_replicate
 refine stepv (W' := W.alloc (.cells (madeCells zv.cells (j.toNat * ie.size)) e)) ha d (.slice (some ⟨W.heap.size, 0, none⟩) j.toNat j.toNat) hok ?_ fun a' ha' => h W.heap.size a' _ ?_ (by rw [hlen]; exact ha')
 ·unfold execOp
  simp only [ho, hx, hy, Sem.run_bind, hrun, Result.andThen_ok, Sem.run_pure]
 ·rw [hlen]
  have hcs : (madeCells zv.cells (j.toNat * ie.size)).toList.take (j.toNat * 1) = encs enc (List.replicate j.toNat dfl) := by
   rw [hz1, hz, Nat.mul_one]
   unfold madeCells encs
   apply List.ext_getElem?
   intro i
   rw [List.flatMap_replicate, hd, List.flatten_replicate_singleton]
   by_cases hi : i < j.toNat
   ·simp [hi, Nat.mod_one]
   ·simp [hi]
  exact HW.newo _ e 1 j.toNat j.toNat _ (Nat.le_refl _) (by unfold maxLen; omega) (by rw [size_madeCells, hz1]) hcs
theorem q3f (P : Program) (g o t : Nat) (fz : Nat × Nat) : ∀ (vs : List Value) (i : Nat) (cur : Array Value) (w : World), w.heap[g]? = some (.cells cur t fz) → (∀ i, i < cur.size → ¬ (fz.1 ≤ i ∧ i < fz.2)) → o + i + vs.length ≤ cur.size → (∀ v ∈ vs, v.oneCell' = true) →
  (storeCells ⟨g, o, none⟩ vs i).run P w = .ok () (w.setRow g (cur.toList.take (o + i) ++ vs ++ cur.toList.drop (o + i + vs.length)).toArray)
 | [], i, cur, w, hg, _, _, _ => by
  simp only [storeCells, List.append_nil, List.length_nil, Nat.add_zero, List.take_append_drop, Array.toArray_toList]
  rw [setRow_self w g cur t fz hg]
  rfl
 | v :: rest, i, cur, w, hg, hfz, hl, h1 => by
  have hi : o + i < cur.size := by simp at hl; omega
  have hadd : (⟨g, o, none⟩ : Addr).add i = ⟨g, o + i, none⟩ := by unfold Addr.add; split <;> simp_all
  have hcell : w.cell? ⟨g, o + i, none⟩ = some cur[o + i] := by simp [World.cell?, hg, hi]
  have hfro : w.frozen? ⟨g, o + i, none⟩ = false := by
   have := hfz (o + i) hi
   simp only [World.frozen?, hg, Bool.and_eq_false_iff, decide_eq_false_iff_not]
   omega
  have hst : (store ((⟨g, o, none⟩ : Addr).add i) v).run P w = .ok () (w.setRow g (cur.setIfInBounds (o + i) v)) := by
   rw [hadd, run_store P w _ v _ (h1 v (by simp)), hcell]
   simp [hfro, setCell_eq_setRow w g (o + i) cur t fz v hg]
  have ih := q3f P g o t fz rest (i + 1) (cur.setIfInBounds (o + i) v) (w.setRow g (cur.setIfInBounds (o + i) v)) (setRow_heap w g cur _ t _ hg) (by simpa using hfz) (by simp at hl ⊢; omega) (fun x hx => h1 x (by simp [hx]))
  simp only [storeCells, Sem.run_bind, hst, Result.andThen_ok, ih, setRow_setRow]
  congr 3
  have e := list_seg_step cur.toList (o + i) v rest (by simp at hl ⊢; omega)
  simpa [Array.toList_setIfInBounds, Nat.add_assoc] using e
theorem run_storeVar_G {b : Nat} {C : Array Value} {T : Nat} {fz : Nat × Nat} (hb : W.heap[b]? = some (.cells C T fz)) (hfz : ∀ i, i < C.size → ¬ (fz.1 ≤ i ∧ i < fz.2)) (t m : Nat) (v : Value) (hs : (P.info? t).map (·.size) = some v.cells.size) (hm : m + v.cells.size ≤ C.size) (h1 : q3g v.cells.toList = true) :
  (storeVar t ⟨b, m, none⟩ v).run P W = .ok () (W.setRow b (putAt C m v.cells.toList)) := by
 cases hi : P.info? t with
 | none => simp [hi] at hs
 | some i =>
  have hs' : i.size = v.cells.size := by simpa [hi] using hs
  have := q3f P b m T fz v.cells.toList 0 C W hb hfz (by simpa using hm) (by intro u hu; exact List.all_eq_true.mp h1 u hu)
  simp only [Nat.add_zero] at this
  simp [storeVar, sizeOf, typeInfo, hi, hs', this, putAt]
theorem stepio {α : Type} (enc : α → List Value) (ha : Has n l a) (HW : Wd w0 W bs os) (d q : Nat) {sz e : Nat} {v : Value} {xs : List α} (hq : os[q]? = some ⟨e, sz, v, xs.length, encs enc xs⟩) (t : Nat) (x i : Operand) (k : IntKind) (j : Int)
  (ho : o.op = .indexAddr t x i) (hx : ev l x = v) (hi : ev l i = .int k j)
  (ht : P.underlying t = some (.slice e)) (hs : (P.info? e).map (·.size) = some sz) (h0 : 0 ≤ j) (h1 : j < xs.length) (hok : okB n l ops o d = true)
  (h : ∀ b a', v.ownBlock = some b → Has n ((d, .pointer (some ⟨b, j.toNat * sz, none⟩)) :: l) a' → wpList P ops Q rest a' W) : wpList P ops Q (o :: rest) a W := by
 have hown := HW.own q _ hq
 rcases hown.2 with ⟨_, hn⟩ | ⟨g, cap, cur, fz, hv, _, _, _⟩
 ·simp only at hn; omega
 ·cases hie : P.info? e with
  | none => simp [hie] at hs
  | some ie =>
   have hsz : ie.size = sz := by simpa [hie] using hs
   simp only at hv
   refine stepv (W' := W) ha d (.pointer (some ⟨g, j.toNat * sz, none⟩)) hok ?_ fun a' ha' => h g a' (by rw [hv]; rfl) ha'
   have hcond : 0 ≤ j ∧ j < (xs.length : Int) := ⟨h0, h1⟩
   unfold execOp
   simp only [ho, hx, hi, hv, Instr.indexAt, asIntOf, Sem.run_bind, Sem.run_pure, Result.andThen_ok, run_underlying ht, if_pos hcond, sizeOf, typeInfo, run_program, hie, hsz, Addr.add_lit, Nat.zero_add]
theorem stepos {α : Type} (enc : α → List Value) (dfl : α) (ha : Has n l a) (HW : Wd w0 W bs os) (q : Nat) {sz e : Nat} (hsz : ∀ x, (enc x).length = sz) {v : Value} {xs : List α} (hq : os[q]? = some ⟨e, sz, v, xs.length, encs enc xs⟩) {b : Nat} (hb : v.ownBlock = some b)
  (j : Int) (h0 : 0 ≤ j) (h1 : j < xs.length) (t m : Nat) (x y : Operand) (u : Value) (x' : α) (ho : o.op = .store t x y) (hp : ev l x = .pointer (some ⟨b, j.toNat * sz + m, none⟩)) (hv : ev l y = u)
  (hs : (P.info? t).map (·.size) = some u.cells.size) (hm : Nat.ble (m + u.cells.size) sz = true) (hone : q3g u.cells.toList = true)
  (hx' : (enc (rdL dfl xs j)).take m ++ u.cells.toList ++ (enc (rdL dfl xs j)).drop (m + u.cells.size) = enc x') (hok : okS l ops o = true) (v' : Value) (hv' : v' = v)
  (h : ∀ a' W', Wd w0 W' bs (os.set q ⟨e, sz, v', (xs.set j.toNat x').length, encs enc (xs.set j.toNat x')⟩) → Has n l a' → wpList P ops Q rest a' W') : wpList P ops Q (o :: rest) a W := by
 subst hv'
 have hown := HW.own q _ hq
 have hm' := Nat.le_of_ble_eq_true hm
 rcases hown.2 with ⟨hv0, hn⟩ | ⟨g, cap, cur, fz, hv0, hg0, hg, hfz, hc, hcm, hcs, htake⟩
 ·simp only at hn; omega
 ·simp only at hv0 hcs htake hc hg
  have hgb : g = b := by rw [hv0] at hb; simpa [Value.ownBlock] using hb
  subst hgb
  have hj : j.toNat < xs.length := by omega
  have hfit : j.toNat * sz + sz ≤ xs.length * sz := by
   have := Nat.mul_le_mul_right sz (Nat.succ_le_of_lt hj)
   rw [Nat.succ_mul] at this
   exact this
  have hcap : xs.length * sz ≤ cap * sz := Nat.mul_le_mul_right _ hc
  have hst := run_storeVar_G (P := P) hg hfz t (j.toNat * sz + m) u hs (by omega) hone
  refine steps (W' := W.setRow g (putAt cur (j.toNat * sz + m) u.cells.toList)) ha hok ?_ fun a' ha' => h a' _ (HW.turno hq ?_ ?_ (.inl rfl)) ha'
  ·unfold execOp
   simp only [ho, hp, hv, Instr.storeAt, Instr.sureAddr, Sem.run_bind, Sem.run_pure, Result.andThen_ok, hst]
  ·have hsize : (putAt cur (j.toNat * sz + m) u.cells.toList).size = cap * sz := by
    unfold putAt
    simp only [List.size_toArray, List.length_append, List.length_take, List.length_drop, Array.length_toList]
    have : u.cells.toList.length = u.cells.size := Array.length_toList
    omega
   refine ⟨by rw [q36 hsz], .inr ⟨g, cap, _, fz, by rw [hv0, List.length_set], hg0, setRow_heap W g cur _ e fz hg, by rw [hsize, ← hcs]; exact hfz, by rw [List.length_set]; exact hc, hcm, hsize, ?_⟩⟩
   rw [List.length_set]
   unfold putAt
   have hul : u.cells.toList.length = u.cells.size := Array.length_toList
   have hA : (encs enc (xs.take j.toNat)).length = j.toNat * sz := by rw [q36 hsz, List.length_take]; congr 1; omega
   have hold : cur.toList.take (xs.length * sz) = encs enc (xs.take j.toNat) ++ (enc (xs.getD j.toNat dfl) ++ encs enc (xs.drop (j.toNat + 1))) := by rw [htake]; exact encs_split dfl xs j.toNat hj
   have hnew : encs enc (xs.set j.toNat x') = encs enc (xs.take j.toNat) ++ (enc x' ++ encs enc (xs.drop (j.toNat + 1))) := by
    have h1 : xs.set j.toNat x' = xs.take j.toNat ++ (x' :: xs.drop (j.toNat + 1)) := List.set_eq_take_append_cons_drop .. |>.trans (if_pos hj)
    rw [h1, q37]
    rfl
   rw [hnew, ← hx']
   have hcurl : cur.toList.length = cap * sz := by rw [Array.length_toList, hcs]
   have hel : (enc (xs.getD j.toNat dfl)).length = sz := hsz _
   have hcur : cur.toList = (encs enc (xs.take j.toNat) ++ (enc (xs.getD j.toNat dfl) ++ encs enc (xs.drop (j.toNat + 1)))) ++ cur.toList.drop (xs.length * sz) := by rw [← hold, List.take_append_drop]
   have hB : (encs enc (xs.drop (j.toNat + 1))).length = xs.length * sz - j.toNat * sz - sz := by
    have := congrArg List.length hold
    simp only [List.length_append, hA, hel, List.length_take, hcurl] at this
    omega
   have e1 : cur.toList.take (j.toNat * sz + m) = encs enc (xs.take j.toNat) ++ (enc (xs.getD j.toNat dfl)).take m := by
    rw [hcur, List.append_assoc, List.append_assoc, List.take_append, hA, List.take_of_length_le (by omega), Nat.add_sub_cancel_left, List.take_append, hel, show m - sz = 0 by omega]
    simp
   have e2 : cur.toList.drop (j.toNat * sz + m + u.cells.toList.length) = (enc (xs.getD j.toNat dfl)).drop (m + u.cells.size) ++ (encs enc (xs.drop (j.toNat + 1)) ++ cur.toList.drop (xs.length * sz)) := by
    rw [hul]
    conv => lhs; rw [hcur]
    rw [List.append_assoc, List.append_assoc, List.drop_append, hA, List.drop_of_length_le (by omega), List.nil_append, List.drop_append, hel, show j.toNat * sz + m + u.cells.size - j.toNat * sz = m + u.cells.size by omega, show m + u.cells.size - sz = 0 by omega]
    simp
   rw [e1, e2]
   have hlen : (encs enc (xs.take j.toNat) ++ List.take m (enc (xs.getD j.toNat dfl)) ++ u.cells.toList ++ ((enc (xs.getD j.toNat dfl)).drop (m + u.cells.size) ++ encs enc (xs.drop (j.toNat + 1)))).length = xs.length * sz := by
    simp only [List.length_append, hA, List.length_take, List.length_drop, hel, hB, hul]
    omega
   rw [show encs enc (xs.take j.toNat) ++ List.take m (enc (xs.getD j.toNat dfl)) ++ u.cells.toList ++ ((enc (xs.getD j.toNat dfl)).drop (m + u.cells.size) ++ (encs enc (xs.drop (j.toNat + 1)) ++ cur.toList.drop (xs.length * sz)))
     = (encs enc (xs.take j.toNat) ++ List.take m (enc (xs.getD j.toNat dfl)) ++ u.cells.toList ++ ((enc (xs.getD j.toNat dfl)).drop (m + u.cells.size) ++ encs enc (xs.drop (j.toNat + 1)))) ++ cur.toList.drop (xs.length * sz) by simp only [List.append_assoc], ← hlen, List.take_left]
   simp only [List.append_assoc]
   rfl
  ·have := q3s W g (putAt cur (j.toNat * sz + m) u.cells.toList)
   rw [hv0]
   exact this
def encIK (k : IntKind) (x : Int) : List Value := [.int k x]
def encS (x : ByteArray) : List Value := [.string x]
theorem stepbt (ha : Has n l a) (d t1 t2 e : Nat) (x : Operand) {v : Value} {xs : List Int} (hr : Rd 1 W v xs.length (encs (encIK .u8) xs)) (ho : o.op = .convert t1 t2 x) (hx : ev l x = v)
  (hs : P.underlying t1 = some (.slice e)) (he : P.underlying e = some (.int .u8)) (hd : P.underlying t2 = some .string) (hok : okB n l ops o d = true)
  (h : ∀ a', Has n ((d, .string (strOfNums xs)) :: l) a' → wpList P ops Q rest a' W) : wpList P ops Q (o :: rest) a W := by
 have hrun : (convert t1 t2 v).run P W = .ok (.string (strOfNums xs)) W := by
  rcases hr.2 with ⟨rfl, h0⟩ | ⟨b, off, cap, rfl, _, hcell⟩
  ·have : xs = [] := List.eq_nil_of_length_eq_zero h0
   subst this
   exact run_convert_bytes_nil W t1 e hs he 0 0 t2 hd
  ·refine run_convert_bytes_arg W t1 e hs he b off xs.length cap xs rfl (fun i hi => hcell i _ ?_) t2 hd
   have := encs_get (enc := encIK .u8) (sz := 1) (fun _ => rfl) (0 : Int) xs i 0 hi (by omega)
   rw [Nat.mul_one, Nat.add_zero] at this
   rw [this]
   rfl
 refine stepv (W' := W) ha d _ hok ?_ h
 unfold execOp
 simp only [ho, hx, Sem.run_bind, hrun, Result.andThen_ok, Sem.run_pure]
end
end Go.Proofs.YtokdiacjcbolfaaDoor.X
namespace Go.Proofs.YtokdiacjcbolfaaDoor.X
open Go Go.RowKit
set_option linter.unusedVariables false
set_option linter.unusedSimpArgs false
theorem q1n {α : Type} {r : α} (h : (none : Option α) = some r) : False := by cases h
theorem q0q (A : Array Value) : ∀ p, p ∈ ([] : List (Nat × Value)) → A[p.1]? = some p.2 := fun p h => by cases h
theorem q07 {A : Array Value} {r : List (Nat × Value)} {i : Nat} {v : Value} (h : A[i]? = some v) (hr : ∀ p, p ∈ r → A[p.1]? = some p.2) : ∀ p, p ∈ (i, v) :: r → A[p.1]? = some p.2 := by
 intro p hp
 rcases List.mem_cons.mp hp with e | e
 ·subst e; exact h
 ·exact hr p e
def band (k : IntKind) (x y : Int) : Int := k.wrap ((BitVec.ofInt k.bits x &&& BitVec.ofInt k.bits y).toNat)
def bor (k : IntKind) (x y : Int) : Int := k.wrap ((BitVec.ofInt k.bits x ||| BitVec.ofInt k.bits y).toNat)
def bxor (k : IntKind) (x y : Int) : Int := k.wrap ((BitVec.ofInt k.bits x ^^^ BitVec.ofInt k.bits y).toNat)
def sshl (k : IntKind) (x y : Int) : Int := k.wrap (x * 2 ^ (min y.toNat k.bits))
def sshr (k : IntKind) (x y : Int) : Int := x.fdiv (2 ^ (min y.toNat k.bits))
def mn (x y : Int) : Int := if y < x then y else x
def mx (x y : Int) : Int := if x < y then y else x
def optc {α β : Type} (t : Option α) (x : Option β) (y : α → Option β) : Option β :=
 match t with
 | none => x
 | some z => y z
theorem optc_n {α β : Type} {x : Option β} {y : α → Option β} {r : β} (h : optc none x y = some r) : x = some r := h
theorem optc_s {α β : Type} {x : Option β} {y : α → Option β} {z : α} {r : β} (h : optc (some z) x y = some r) : y z = some r := h
theorem stepbk {P : Program} {n : Nat} {l : List (Nat × Value)} {o : Oper} {ops : Array Oper} {rest : List Oper} {Q : Exit → Act → World → Prop} {a : Act} {w0 W : World} {bs : List (Nat × Obj)} {os : List OwnA}
  (ha : Has n l a) (HW : Wd w0 W bs os) (d e len : Nat) (C : Array Value) (hok : okB n l ops o d = true)
  (hx : (execOp (ev l) o).run P W = .ok (.value (.slice (some ⟨W.heap.size, 0, none⟩) len len)) (W.alloc (.cells C e)))
  (h : ∀ b a' W', Wd w0 W' ((b, .cells C e (0, 0)) :: bs) os → Has n ((d, .slice (some ⟨b, 0, none⟩) len len) :: l) a' → wpList P ops Q rest a' W') : wpList P ops Q (o :: rest) a W :=
 stepv ha d _ hok hx fun a' ha' => h _ a' _ (HW.alloc _) ha'
section
variable {Q : Exit → Act → World → Prop} {K : Act → World → Prop} {a : Act} {W : World}
theorem thenN (h : K a W) : Exit.then K Q .normal a W := h
theorem thenE {i : Nat} (h : Q (.exit i) a W) : Exit.then K Q (.exit i) a W := h
theorem thenR (h : Q .ret a W) : Exit.then K Q .ret a W := h
theorem blkN {id : Nat} (h : Q .normal a W) : Exit.inBlock id Q .normal a W := h
theorem blkR {id : Nat} (h : Q .ret a W) : Exit.inBlock id Q .ret a W := h
end
section
variable {P : Program} {n : Nat} {l : List (Nat × Value)} {a : Act} {ops : Array Oper} {o : Oper} {rest : List Oper} {Q : Exit → Act → World → Prop} {w0 W : World} {bs : List (Nat × Obj)} {os : List OwnA}
theorem stepp (ha : Has n l a) (d : Nat) (v : Value) (hok : okB n l ops o d = true) (hx : (execOp (ev l) o).run P W = .ok (.value v) W)
  (h : ∀ a', Has n ((d, v) :: l) a' → wpList P ops Q rest a' W) : wpList P ops Q (o :: rest) a W := stepv ha d v hok hx h
theorem sp1 {o0 : Oper} (ha : Has n l a) (d0 : Nat) (v0 : Value) (h : ∀ a', Has n ((d0, v0) :: l) a' → wpList P ops Q rest a' W) (k0 : okB n l ops o0 d0 = true := by kernel_rfl) (x0 : (execOp (ev l) o0).run P W = .ok (.value v0) W := by kernel_rfl) : wpList P ops Q (o0 :: rest) a W := stepp ha d0 v0 k0 x0 h
theorem sp2 {o0 o1 : Oper} (ha : Has n l a) (d0 : Nat) (v0 : Value) (d1 : Nat) (v1 : Value) (h : ∀ a', Has n ((d1, v1) :: ((d0, v0) :: l)) a' → wpList P ops Q rest a' W) (k0 : okB n l ops o0 d0 = true := by kernel_rfl) (x0 : (execOp (ev l) o0).run P W = .ok (.value v0) W := by kernel_rfl) (k1 : okB n ((d0, v0) :: l) ops o1 d1 = true := by kernel_rfl) (x1 : (execOp (ev ((d0, v0) :: l)) o1).run P W = .ok (.value v1) W := by kernel_rfl) : wpList P ops Q (o0 :: o1 :: rest) a W := stepp ha d0 v0 k0 x0 fun _ h1 => stepp h1 d1 v1 k1 x1 h
theorem sp3 {o0 o1 o2 : Oper} (ha : Has n l a) (d0 : Nat) (v0 : Value) (d1 : Nat) (v1 : Value) (d2 : Nat) (v2 : Value) (h : ∀ a', Has n ((d2, v2) :: ((d1, v1) :: ((d0, v0) :: l))) a' → wpList P ops Q rest a' W) (k0 : okB n l ops o0 d0 = true := by kernel_rfl) (x0 : (execOp (ev l) o0).run P W = .ok (.value v0) W := by kernel_rfl) (k1 : okB n ((d0, v0) :: l) ops o1 d1 = true := by kernel_rfl) (x1 : (execOp (ev ((d0, v0) :: l)) o1).run P W = .ok (.value v1) W := by kernel_rfl) (k2 : okB n ((d1, v1) :: ((d0, v0) :: l)) ops o2 d2 = true := by kernel_rfl) (x2 : (execOp (ev ((d1, v1) :: ((d0, v0) :: l))) o2).run P W = .ok (.value v2) W := by kernel_rfl) : wpList P ops Q (o0 :: o1 :: o2 :: rest) a W := stepp ha d0 v0 k0 x0 fun _ h1 => stepp h1 d1 v1 k1 x1 fun _ h2 => stepp h2 d2 v2 k2 x2 h
theorem sp4 {o0 o1 o2 o3 : Oper} (ha : Has n l a) (d0 : Nat) (v0 : Value) (d1 : Nat) (v1 : Value) (d2 : Nat) (v2 : Value) (d3 : Nat) (v3 : Value) (h : ∀ a', Has n ((d3, v3) :: ((d2, v2) :: ((d1, v1) :: ((d0, v0) :: l)))) a' → wpList P ops Q rest a' W) (k0 : okB n l ops o0 d0 = true := by kernel_rfl) (x0 : (execOp (ev l) o0).run P W = .ok (.value v0) W := by kernel_rfl) (k1 : okB n ((d0, v0) :: l) ops o1 d1 = true := by kernel_rfl) (x1 : (execOp (ev ((d0, v0) :: l)) o1).run P W = .ok (.value v1) W := by kernel_rfl) (k2 : okB n ((d1, v1) :: ((d0, v0) :: l)) ops o2 d2 = true := by kernel_rfl) (x2 : (execOp (ev ((d1, v1) :: ((d0, v0) :: l))) o2).run P W = .ok (.value v2) W := by kernel_rfl) (k3 : okB n ((d2, v2) :: ((d1, v1) :: ((d0, v0) :: l))) ops o3 d3 = true := by kernel_rfl) (x3 : (execOp (ev ((d2, v2) :: ((d1, v1) :: ((d0, v0) :: l)))) o3).run P W = .ok (.value v3) W := by kernel_rfl) : wpList P ops Q (o0 :: o1 :: o2 :: o3 :: rest) a W := stepp ha d0 v0 k0 x0 fun _ h1 => stepp h1 d1 v1 k1 x1 fun _ h2 => stepp h2 d2 v2 k2 x2 fun _ h3 => stepp h3 d3 v3 k3 x3 h
theorem sp5 {o0 o1 o2 o3 o4 : Oper} (ha : Has n l a) (d0 : Nat) (v0 : Value) (d1 : Nat) (v1 : Value) (d2 : Nat) (v2 : Value) (d3 : Nat) (v3 : Value) (d4 : Nat) (v4 : Value) (h : ∀ a', Has n ((d4, v4) :: ((d3, v3) :: ((d2, v2) :: ((d1, v1) :: ((d0, v0) :: l))))) a' → wpList P ops Q rest a' W) (k0 : okB n l ops o0 d0 = true := by kernel_rfl) (x0 : (execOp (ev l) o0).run P W = .ok (.value v0) W := by kernel_rfl) (k1 : okB n ((d0, v0) :: l) ops o1 d1 = true := by kernel_rfl) (x1 : (execOp (ev ((d0, v0) :: l)) o1).run P W = .ok (.value v1) W := by kernel_rfl) (k2 : okB n ((d1, v1) :: ((d0, v0) :: l)) ops o2 d2 = true := by kernel_rfl) (x2 : (execOp (ev ((d1, v1) :: ((d0, v0) :: l))) o2).run P W = .ok (.value v2) W := by kernel_rfl) (k3 : okB n ((d2, v2) :: ((d1, v1) :: ((d0, v0) :: l))) ops o3 d3 = true := by kernel_rfl) (x3 : (execOp (ev ((d2, v2) :: ((d1, v1) :: ((d0, v0) :: l)))) o3).run P W = .ok (.value v3) W := by kernel_rfl) (k4 : okB n ((d3, v3) :: ((d2, v2) :: ((d1, v1) :: ((d0, v0) :: l)))) ops o4 d4 = true := by kernel_rfl) (x4 : (execOp (ev ((d3, v3) :: ((d2, v2) :: ((d1, v1) :: ((d0, v0) :: l))))) o4).run P W = .ok (.value v4) W := by kernel_rfl) : wpList P ops Q (o0 :: o1 :: o2 :: o3 :: o4 :: rest) a W := stepp ha d0 v0 k0 x0 fun _ h1 => stepp h1 d1 v1 k1 x1 fun _ h2 => stepp h2 d2 v2 k2 x2 fun _ h3 => stepp h3 d3 v3 k3 x3 fun _ h4 => stepp h4 d4 v4 k4 x4 h
theorem sp6 {o0 o1 o2 o3 o4 o5 : Oper} (ha : Has n l a) (d0 : Nat) (v0 : Value) (d1 : Nat) (v1 : Value) (d2 : Nat) (v2 : Value) (d3 : Nat) (v3 : Value) (d4 : Nat) (v4 : Value) (d5 : Nat) (v5 : Value) (h : ∀ a', Has n ((d5, v5) :: ((d4, v4) :: ((d3, v3) :: ((d2, v2) :: ((d1, v1) :: ((d0, v0) :: l)))))) a' → wpList P ops Q rest a' W) (k0 : okB n l ops o0 d0 = true := by kernel_rfl) (x0 : (execOp (ev l) o0).run P W = .ok (.value v0) W := by kernel_rfl) (k1 : okB n ((d0, v0) :: l) ops o1 d1 = true := by kernel_rfl) (x1 : (execOp (ev ((d0, v0) :: l)) o1).run P W = .ok (.value v1) W := by kernel_rfl) (k2 : okB n ((d1, v1) :: ((d0, v0) :: l)) ops o2 d2 = true := by kernel_rfl) (x2 : (execOp (ev ((d1, v1) :: ((d0, v0) :: l))) o2).run P W = .ok (.value v2) W := by kernel_rfl) (k3 : okB n ((d2, v2) :: ((d1, v1) :: ((d0, v0) :: l))) ops o3 d3 = true := by kernel_rfl) (x3 : (execOp (ev ((d2, v2) :: ((d1, v1) :: ((d0, v0) :: l)))) o3).run P W = .ok (.value v3) W := by kernel_rfl) (k4 : okB n ((d3, v3) :: ((d2, v2) :: ((d1, v1) :: ((d0, v0) :: l)))) ops o4 d4 = true := by kernel_rfl) (x4 : (execOp (ev ((d3, v3) :: ((d2, v2) :: ((d1, v1) :: ((d0, v0) :: l))))) o4).run P W = .ok (.value v4) W := by kernel_rfl) (k5 : okB n ((d4, v4) :: ((d3, v3) :: ((d2, v2) :: ((d1, v1) :: ((d0, v0) :: l))))) ops o5 d5 = true := by kernel_rfl) (x5 : (execOp (ev ((d4, v4) :: ((d3, v3) :: ((d2, v2) :: ((d1, v1) :: ((d0, v0) :: l)))))) o5).run P W = .ok (.value v5) W := by kernel_rfl) : wpList P ops Q (o0 :: o1 :: o2 :: o3 :: o4 :: o5 :: rest) a W := stepp ha d0 v0 k0 x0 fun _ h1 => stepp h1 d1 v1 k1 x1 fun _ h2 => stepp h2 d2 v2 k2 x2 fun _ h3 => stepp h3 d3 v3 k3 x3 fun _ h4 => stepp h4 d4 v4 k4 x4 fun _ h5 => stepp h5 d5 v5 k5 x5 h
theorem stepshl (ha : Has n l a) (d t t' : Nat) (x y : Operand) (k k' : IntKind) (i j : Int) (ho : o.op = .binOp .shl t x y t') (hx : ev l x = .int k i) (hy : ev l y = .int k' j) (h0 : 0 ≤ j) (hok : okB n l ops o d = true)
  (h : ∀ a', Has n ((d, .int k (sshl k i j)) :: l) a' → wpList P ops Q rest a' W) : wpList P ops Q (o :: rest) a W := by
 refine stepv (W' := W) ha d _ hok ?_ h
 unfold execOp
 simp only [ho, hx, hy, Sem.run_bind, eqGuard, binOp, Op.shift, if_neg (show ¬ j < 0 by omega)]
 rfl
theorem steprem (ha : Has n l a) (d t t' : Nat) (x y : Operand) (k : IntKind) (i j : Int) (ho : o.op = .binOp .rem t x y t') (hx : ev l x = .int k i) (hy : ev l y = .int k j) (h0 : ¬ j = 0) (hok : okB n l ops o d = true)
  (h : ∀ a', Has n ((d, .int k (Int.tmod i j)) :: l) a' → wpList P ops Q rest a' W) : wpList P ops Q (o :: rest) a W := by
 refine stepv (W' := W) ha d _ hok ?_ h
 unfold execOp
 simp only [ho, hx, hy, Sem.run_bind, eqGuard, binOp, Op.intDiv, if_neg h0, ne_eq, not_true_eq_false, if_false]
 rfl
theorem stepshr (ha : Has n l a) (d t t' : Nat) (x y : Operand) (k k' : IntKind) (i j : Int) (ho : o.op = .binOp .shr t x y t') (hx : ev l x = .int k i) (hy : ev l y = .int k' j) (h0 : 0 ≤ j) (hok : okB n l ops o d = true)
  (h : ∀ a', Has n ((d, .int k (sshr k i j)) :: l) a' → wpList P ops Q rest a' W) : wpList P ops Q (o :: rest) a W := by
 refine stepv (W' := W) ha d _ hok ?_ h
 unfold execOp
 simp only [ho, hx, hy, Sem.run_bind, eqGuard, binOp, Op.shift, if_neg (show ¬ j < 0 by omega)]
 rfl
inductive ResOk (P : Program) (W : World) (l : List (Nat × Value)) : List ResultVar → List Value → Prop
 | nil : ResOk P W l [] []
 | tmp {t : Nat} {v : Value} {rs : List ResultVar} {vs : List Value} (h : look l t = some v) (r : ResOk P W l rs vs) : ResOk P W l (.tmp t :: rs) (v :: vs)
 | cell {t ty : Nat} {ad : Addr} {v : Value} {rs : List ResultVar} {vs : List Value} (h : look l t = some (.pointer (some ad))) (hl : (loadVar ty ad).run P W = .ok v W) (r : ResOk P W l rs vs) : ResOk P W l (.cell t ty :: rs) (v :: vs)
def oneOf : List Value → Value
 | [v] => v
 | vs => .tuple vs.toArray
theorem finv {fn : Func} {R : Ending → World → Prop} (ha : Has n l a) (rs : List ResultVar) (vs : List Value) (hrs : fn.results = rs.toArray) (hres : ResOk P W l rs vs) (v : Value)
  (hv : oneOf vs = v) (hR : R (.returned v) W) : bodyPost P fn R .ret a W := by
 refine ⟨ha.defers, v, ?_, hR⟩
 have key : ∀ (rs : List ResultVar) (vs : List Value), ResOk P W l rs vs → (rs.mapM (fun x : ResultVar => match x with | .tmp t => (pure (a.tmps.getD t undef) : Sem Value) | .cell b t => do loadVar t (← asAddr (a.tmps.getD b undef)))).run P W = .ok vs W := by
  intro rs vs hr
  induction hr with
  | nil => simp
  | @tmp t v rs vs h r ih =>
   have hg : a.tmps.getD t undef = v := by rw [Array.getD_eq_getD_getElem?, ha.slot _ _ h]; rfl
   simp only [List.mapM_cons, Sem.run_bind, Sem.run_pure, Result.andThen_ok, ih, hg]
  | @cell t ty ad v rs vs h hl r ih =>
   have hg : a.tmps.getD t undef = .pointer (some ad) := by rw [Array.getD_eq_getD_getElem?, ha.slot _ _ h]; rfl
   have has : ∀ W : World, (asAddr (.pointer (some ad))).run P W = .ok ad W := fun _ => rfl
   simp only [List.mapM_cons, Sem.run_bind, Sem.run_pure, Result.andThen_ok, ih, hg, has, hl]
 unfold results
 rw [hrs, List.mapM_toArray, Sem.run_bind, Sem.run_map]
 refine (congrArg (fun z => Result.andThen (Result.andThen z _) _) (key rs vs hres)).trans ?_
 simp only [Result.andThen_ok, Sem.run_pure]
 congr 1
 subst hv
 match vs with
 | [] => rfl
 | [v] => rfl
 | u :: v :: r => simp [oneOf]
end
section
variable {P : Program} {n : Nat} {l : List (Nat × Value)} {a : Act} {ops : Array Oper} {o : Oper} {rest : List Oper} {Q : Exit → Act → World → Prop} {w0 W : World} {bs : List (Nat × Obj)} {os : List OwnA}
theorem stepmn (ha : Has n l a) (d : Nat) (ts : Array Nat) (x y : Operand) (k : IntKind) (i j : Int) (ho : o.op = .call { callee := .builtin .min, args := #[x, y], argTypes := ts }) (hx : ev l x = .int k i) (hy : ev l y = .int k j) (hok : okB n l ops o d = true)
  (h : ∀ a', Has n ((d, .int k (mn i j)) :: l) a' → wpList P ops Q rest a' W) : wpList P ops Q (o :: rest) a W := by
 refine stepv (W' := W) ha d _ hok ?_ h
 unfold execOp mn
 simp only [ho, resolve, invoke, builtin, Sem.run_bind, Sem.run_pure, Result.andThen_ok, List.map_toArray, List.map_cons, List.map_nil, hx, hy]
 by_cases hh : j < i
 ·simp [Builtin.min_, Builtin.min2, hh]
 ·simp [Builtin.min_, Builtin.min2, hh]
theorem stepmx (ha : Has n l a) (d : Nat) (ts : Array Nat) (x y : Operand) (k : IntKind) (i j : Int) (ho : o.op = .call { callee := .builtin .max, args := #[x, y], argTypes := ts }) (hx : ev l x = .int k i) (hy : ev l y = .int k j) (hok : okB n l ops o d = true)
  (h : ∀ a', Has n ((d, .int k (mx i j)) :: l) a' → wpList P ops Q rest a' W) : wpList P ops Q (o :: rest) a W := by
 refine stepv (W' := W) ha d _ hok ?_ h
 unfold execOp mx
 simp only [ho, resolve, invoke, builtin, Sem.run_bind, Sem.run_pure, Result.andThen_ok, List.map_toArray, List.map_cons, List.map_nil, hx, hy]
 by_cases hh : i < j
 ·simp [Builtin.max_, Builtin.max2, hh]
 ·simp [Builtin.max_, Builtin.max2, hh]
end
theorem Rd.piece {α : Type} {enc : α → List Value} {sz : Nat} (hsz : ∀ x, (enc x).length = sz) {A : Option Addr} {c i j : Nat} {xs : List α} (h1 : i ≤ j) (h2 : j ≤ xs.length) (w1 : World) (hr : Rd sz w1 (.slice A xs.length c) xs.length (encs enc xs)) :
  Rd sz w1 (.slice (if c = i then A else A.map (·.add (i * sz))) ((xs.take j).drop i).length (c - i)) ((xs.take j).drop i).length (encs enc ((xs.take j).drop i)) := by
 have hlen : ((xs.take j).drop i).length = j - i := by rw [List.length_drop, List.length_take, Nat.min_eq_left h2]
 refine ⟨by rw [q36 hsz], ?_⟩
 rcases hr.2 with ⟨hv, hn⟩ | ⟨b, off, cap, hv, hc, hcell⟩
 ·simp only [Value.slice.injEq] at hv
  obtain ⟨rfl, _, rfl⟩ := hv
  left
  have : j = 0 := by omega
  have : i = 0 := by omega
  refine ⟨?_, by omega⟩
  rw [hlen]
  subst_vars
  simp
 ·simp only [Value.slice.injEq, true_and] at hv
  obtain ⟨rfl, rfl⟩ := hv
  right
  by_cases hci : c = i
  ·refine ⟨b, off, c - i, by rw [if_pos hci], by omega, ?_⟩
   intro k u hu
   have hl0 : ((xs.take j).drop i).length = 0 := by omega
   rw [List.eq_nil_of_length_eq_zero hl0] at hu
   simp [encs] at hu
  ·refine ⟨b, off + i * sz, c - i, by rw [if_neg hci, Option.map_some, Addr.add_lit], by omega, ?_⟩
   intro k u hu
   rw [Nat.add_assoc]
   refine hcell _ u ?_
   have e1 : encs enc xs = encs enc (xs.take j) ++ encs enc (xs.drop j) := by rw [← q37, List.take_append_drop]
   have e2 : encs enc (xs.take j) = encs enc ((xs.take j).take i) ++ encs enc ((xs.take j).drop i) := by rw [← q37, List.take_append_drop]
   have hl1 : (encs enc ((xs.take j).take i)).length = i * sz := by rw [q36 hsz, List.length_take, List.length_take]; congr 1; omega
   have hk : k < (encs enc ((xs.take j).drop i)).length := (List.getElem?_eq_some_iff.1 hu).1
   rw [e1, e2, List.append_assoc, List.getElem?_append_right (by omega), hl1, Nat.add_sub_cancel_left, List.getElem?_append_left hk]
   exact hu
section
variable {P : Program} {n : Nat} {l : List (Nat × Value)} {a : Act} {ops : Array Oper} {o : Oper} {rest : List Oper} {Q : Exit → Act → World → Prop} {W : World}
theorem stepslo {α : Type} (enc : α → List Value) (ha : Has n l a) (d t e sz : Nat) (hsz : ∀ x, (enc x).length = sz) (x lo : Operand) (k : IntKind) (i : Int) {A : Option Addr} {c : Nat} (xs : List α) (ho : o.op = .slice t x (some lo) none none) (hx : ev l x = .slice A xs.length c) (hl : ev l lo = .int k i)
  (ht : P.underlying t = some (.slice e)) (hs : (P.info? e).map (·.size) = some sz) (hcap : xs.length ≤ c) (h0 : 0 ≤ i) (h2 : i ≤ xs.length) (hok : okB n l ops o d = true)
  (h : ∀ A' c' a', (∀ w1, Rd sz w1 (.slice A xs.length c) xs.length (encs enc xs) → Rd sz w1 (.slice A' (xs.drop i.toNat).length c') (xs.drop i.toNat).length (encs enc (xs.drop i.toNat))) →
   Has n ((d, .slice A' (xs.drop i.toNat).length c') :: l) a' → wpList P ops Q rest a' W) : wpList P ops Q (o :: rest) a W := by
 have hlen : (xs.drop i.toNat).length = xs.length - i.toNat := by rw [List.length_drop]
 refine stepv (W' := W) ha d (.slice (if c = i.toNat then A else A.map (·.add (i.toNat * sz))) (xs.drop i.toNat).length (c - i.toNat)) hok ?_ fun a' ha' => h _ _ a' (fun w1 hr => by
  have := Rd.piece hsz (i := i.toNat) (j := xs.length) (by omega) (Nat.le_refl _) w1 hr
  rwa [List.take_length] at this) ha'
 cases hie : P.info? e with
 | none => simp [hie] at hs
 | some ie =>
  have hsz' : ie.size = sz := by simpa [hie] using hs
  have he : P.elem t = e := by simp [Program.elem, ht]
  have ht' : P.underlying t = some (.slice (P.elem t)) := by rw [he]; exact ht
  unfold execOp
  simp only [ho, hx, hl, Option.map_some, Option.map_none, Sem.run_bind, run_sliceAt_slice W t _ _ _ _ ht', run_slice_l W t A xs.length c ht' k i h0 (by omega), he, sizeOf, typeInfo, run_program, Result.andThen_ok, hie, Sem.run_pure, hsz', sliced, hlen]
theorem CA.el {α : Type} (enc : α → List Value) (dfl : α) {sz : Nat} (hsz : ∀ x, (enc x).length = sz) {b off : Nat} {C : Array Value} (hC : CA W b off C) (xs : List α) (hx : (encs enc xs).toArray = C) {len : Nat} (hl : xs.length = len) {j : Int} (h0 : 0 ≤ j) (h1 : j < len) :
  CA W b (off + j.toNat * sz) (enc (rdL dfl xs j)).toArray := fun m u hu => by
 have hm : m < sz := by
  have := (Array.getElem?_eq_some_iff.1 hu).1
  rw [List.size_toArray, hsz] at this
  exact this
 rw [Nat.add_assoc]
 refine hC _ u ?_
 subst hx
 have := encs_get hsz dfl xs j.toNat m (by omega) hm
 rw [List.getElem?_toArray] at hu ⊢
 rw [this]
 simpa [rdL] using hu
theorem stepiw (ha : Has n l a) (d : Nat) {sz : Nat} (b off t len e : Nat) (x i : Operand) (k : IntKind) (j : Int)
  (ho : o.op = .indexAddr t x i) (hx : ev l x = .pointer (some ⟨b, off, none⟩)) (hi : ev l i = .int k j)
  (ht : P.underlying t = some (.array len e)) (hs : (P.info? e).map (·.size) = some sz) (h0 : 0 ≤ j) (h1 : j < len) (hok : okB n l ops o d = true)
  (h : ∀ a', Has n ((d, .pointer (some ⟨b, off + j.toNat * sz, none⟩)) :: l) a' → wpList P ops Q rest a' W) : wpList P ops Q (o :: rest) a W := by
 cases hie : P.info? e with
 | none => simp [hie] at hs
 | some ie =>
  have hsz' : ie.size = sz := by simpa [hie] using hs
  refine stepv (W' := W) ha d (.pointer (some ⟨b, off + j.toNat * sz, none⟩)) hok ?_ h
  have hcond : 0 ≤ j ∧ j < (len : Int) := ⟨h0, h1⟩
  unfold execOp
  simp only [ho, hx, hi, Instr.indexAt, Instr.sureAddr, asIntOf, Sem.run_bind, Sem.run_pure, Result.andThen_ok, run_underlying ht, if_pos hcond, sizeOf, typeInfo, run_program, hie, hsz', Addr.add_lit]
theorem Rd.cap {sz m c : Nat} {A : Option Addr} {cs : List Value} (hr : Rd sz W (.slice A m c) m cs) : m ≤ c := by
 rcases hr.2 with ⟨hv, _⟩ | ⟨b, off, cap, hv, hc, _⟩
 ·simp only [Value.slice.injEq] at hv; omega
 ·simp only [Value.slice.injEq] at hv; omega
end
end Go.Proofs.YtokdiacjcbolfaaDoor.X
namespace Go.Proofs.YtokdiacjcbolfaaDoor.X
open Go Go.RowKit
def waits (o : Oper) (m : Nat) : Bool := o.after.any fun e => Region.binds .any e && Nat.beq e.on m
def chkB (ops : Array Oper) : Bool := (List.range ops.size).all fun i => match ops[i]? with
 | none => true
 | some o => o.after.all (fun e => !Region.binds .any e || Nat.blt e.on i) && (List.range ops.size).all fun m => match ops[m]? with
  | none => true
  | some om => match om.dst with
   | none => true
   | some s => (Nat.beq i m || (match o.dst with | some d => !Nat.beq d s | none => true)) && (!((o.looksAt ops).any (Nat.beq s)) || waits o m || waits om i)
theorem q1q {ops : Array Oper} (h : chkB ops = true) {i : Nat} {o : Oper} (hi : ops[i]? = some o) :
  (∀ e ∈ o.after, Region.binds .any e = true → e.on < i) ∧
  (∀ m om s, ops[m]? = some om → om.dst = some s → (i ≠ m → o.dst ≠ some s) ∧ (s ∈ o.looksAt ops → waits o m = true ∨ waits om i = true)) := by
 have hlt : i < ops.size := (Array.getElem?_eq_some_iff.1 hi).1
 have h1 := List.all_eq_true.mp h i (List.mem_range.mpr hlt)
 simp only [hi, Bool.and_eq_true] at h1
 obtain ⟨h1, h2⟩ := h1
 refine ⟨fun e he hb => ?_, fun m om s hm hs => ?_⟩
 ·rw [Array.all_eq_true_iff_forall_mem] at h1
  have := h1 e he
  simp only [hb, Bool.not_true, Bool.false_or] at this
  exact Nat.le_of_ble_eq_true this
 ·have hml : m < ops.size := (Array.getElem?_eq_some_iff.1 hm).1
  have h3 := List.all_eq_true.mp h2 m (List.mem_range.mpr hml)
  simp only [hm, hs, Bool.and_eq_true, Bool.or_eq_true] at h3
  obtain ⟨h3, h4⟩ := h3
  refine ⟨fun hne hd => ?_, fun hl => ?_⟩
  ·rcases h3 with h3 | h3
   ·exact hne (Nat.eq_of_beq_eq_true h3)
   ·simp [hd] at h3
  ·rcases h4 with (h4 | h4) | h4
   ·exfalso
    have : (o.looksAt ops).any (Nat.beq s) = true := List.any_eq_true.mpr ⟨s, hl, by simp⟩
    simp [this] at h4
   ·exact .inl h4
   ·exact .inr h4
def srcOf (ops : Array Oper) (o : Oper) (s : Nat) : Option Nat :=
 (List.range ops.size).find? fun m => waits o m && (match (ops[m]?).bind (·.dst) with | some d => Nat.beq d s | none => false)
section
variable (P : Program) (n : Nat) (l : List (Nat × Value)) (F : Nat → Value → World → Prop) (ops : Array Oper) (w0 : World) (bs : List (Nat × Obj)) (os : List OwnA)
def Seen (o : Oper) (a : Act) (w : World) (s : Nat) : Prop :=
 match srcOf ops o s with
 | some m => ∃ v, a.tmps[s]? = some v ∧ F m v w
 | none => ∀ v, look l s = some v → a.tmps[s]? = some v
def OpOk (i : Nat) (o : Oper) : Prop := ∀ (a : Act) (w : World), a.tmps.size = n → a.defers = [] → Wd w0 w bs os → (∀ s, s ∈ o.looksAt ops → Seen l F ops o a w s) →
 (Region.wanted o (yielded ops a.tmps) = true ∧ o.wp P a w (fun a' w' => ∃ v, a' = a.put o.dst v ∧ F i v w' ∧ Below w.heap.size w w') (fun _ _ _ => False)) ∨
 (Region.wanted o (yielded ops a.tmps) = false ∧ F i undef w)
def Inv (listed : Array Bool) (a : Act) (w : World) : Prop :=
 a.tmps.size = n ∧ a.defers = [] ∧ Wd w0 w bs os ∧
 (∀ s v, look l s = some v → (∀ (j : Nat) (o : Oper), ops[j]? = some o → o.dst = some s → listed.getD j true = false) → a.tmps[s]? = some v) ∧
 (∀ (j : Nat) (o : Oper) (d : Nat), ops[j]? = some o → o.dst = some d → listed.getD j true = true → ∃ v, a.tmps[d]? = some v ∧ F j v w) ∧
 (∀ (j : Nat) (o : Oper), ops[j]? = some o → listed.getD j true = true → ∀ m, m < ops.size → waits o m = true → listed.getD m true = true)
end
theorem q1u {P : Program} {o : Oper} {a : Act} {w : World} {K K' : Act → World → Prop} {Q Q' : Exit → Act → World → Prop} (h : ∀ a w, K a w → K' a w) (hQ : ∀ e a w, ¬ Q e a w) (hh : o.wp P a w K Q) : o.wp P a w K' Q' := by
 unfold Oper.wp at *
 generalize (execOp a.eval o).run P w = r at *
 cases r with
 | ok n w' =>
  cases n <;> simp only [Oper.upon] at hh ⊢ <;>
   first
    | exact h _ _ hh
    | exact Calls.mono hh (fun e w'' he => by cases e <;> first | exact h _ _ he | exact (hQ _ _ _ he).elim | (obtain ⟨a1, w1, q⟩ := he; exact (hQ _ _ _ q).elim))
    | exact Rows.mono hh (fun _ _ he => h _ _ he)
 | halt x w' => cases x <;> simp only [Oper.upon] at hh ⊢ <;> first | exact hh | exact (hQ _ _ _ hh).elim
theorem wp_false_mono' {P : Program} {o : Oper} {a : Act} {w : World} {K K' : Act → World → Prop} {Q Q' : Exit → Act → World → Prop} (h : ∀ a w, K a w → K' a w) (hQ : ∀ e a w, e ≠ .normal → ¬ Q e a w) (hh : o.wp P a w K Q) : o.wp P a w K' Q' := by
 unfold Oper.wp at *
 generalize (execOp a.eval o).run P w = r at *
 cases r with
 | ok n w' =>
  cases n <;> simp only [Oper.upon] at hh ⊢ <;>
   first
    | exact h _ _ hh
    | exact Calls.mono hh (fun e w'' he => by cases e <;> first | exact h _ _ he | exact (hQ _ _ _ (by simp) he).elim | (obtain ⟨a1, w1, q⟩ := he; exact (hQ _ _ _ (by simp) q).elim))
    | exact Rows.mono hh (fun _ _ he => h _ _ he)
 | halt x w' => cases x <;> simp only [Oper.upon] at hh ⊢ <;> first | exact hh | exact (hQ _ _ _ (by simp) hh).elim
theorem q16 {A : Array Bool} {i j : Nat} (hi : i < A.size) : (A.setIfInBounds i true).getD j true = if i = j then true else A.getD j true := by
 simp only [Array.getD_eq_getD_getElem?, Array.getElem?_setIfInBounds]
 split
 ·rename_i h; subst h; simp
 ·rfl
section
variable {P : Program} {n : Nat} {l : List (Nat × Value)} {F : Nat → Value → World → Prop} {ops : Array Oper} {w0 W : World} {bs : List (Nat × Obj)} {os : List OwnA} {a : Act} {Q : Exit → Act → World → Prop}
def chkS (m : Nat) (ops : Array Oper) : Bool := (List.range ops.size).all fun j => Nat.blt j m || (match ops[j]? with
 | none => true
 | some o => (List.range j).all fun i => waits o i)
theorem chkS_spec {m : Nat} {ops : Array Oper} (h : chkS m ops = true) {j : Nat} {o : Oper} (hj : ops[j]? = some o) (hm : m ≤ j) : ∀ i, i < j → waits o i = true := by
 have hlt : j < ops.size := (Array.getElem?_eq_some_iff.1 hj).1
 have h1 := List.all_eq_true.mp h j (List.mem_range.mpr hlt)
 simp only [hj, Bool.or_eq_true] at h1
 rcases h1 with h1 | h1
 ·have := Nat.le_of_ble_eq_true h1; omega
 ·intro i hi
  exact List.all_eq_true.mp h1 i (List.mem_range.mpr hi)
theorem q1r {listed : Array Bool} {o : Oper} (hdeps : (o.after.all fun e => !Region.binds .any e || listed.getD e.on false) = true) (m : Nat) (hm' : waits o m = true) : listed.getD m true = true := by
 unfold waits at hm'
 obtain ⟨e, he, hb⟩ := Array.any_eq_true'.mp hm'
 simp only [Bool.and_eq_true] at hb
 rw [Array.all_eq_true_iff_forall_mem] at hdeps
 have h2 := hdeps e he
 simp only [hb.1, Bool.not_true, Bool.false_or] at h2
 have h3 : e.on = m := Nat.eq_of_beq_eq_true hb.2
 rw [h3] at h2
 simp only [Array.getD_eq_getD_getElem?] at h2 ⊢
 cases hg : listed[m]? with
 | none => rfl
 | some b => rw [hg] at h2; exact h2
theorem ready_of {listed : Array Bool} {j : Nat} {o : Oper} (hs : listed.size = ops.size) (ho : ops[j]? = some o) (hchk : chkB ops = true) (hb : listed.getD j true = false) (hlow : ∀ k, k < j → listed.getD k true = true) : j ∈ Region.ready .any ops listed := by
 have hj : j < ops.size := (Array.getElem?_eq_some_iff.1 ho).1
 unfold Region.ready
 refine List.mem_filter.mpr ⟨List.mem_range.mpr hj, ?_⟩
 simp only [hb, ho, Bool.not_false, Bool.true_and, Option.map_some, Option.getD_some]
 rw [Array.all_eq_true_iff_forall_mem]
 intro e he
 cases hbe : Region.binds .any e with
 | false => rfl
 | true =>
  have hlt := (q1q hchk ho).1 e he hbe
  have h2 := hlow e.on hlt
  have h3 : e.on < listed.size := by omega
  simp only [Array.getD_eq_getD_getElem?, Array.getElem?_eq_some_iff.2 ⟨h3, rfl⟩, Option.getD_some] at h2 ⊢
  simp [h2]
theorem tailF (hchk : chkB ops = true) {m : Nat} (hS : chkS m ops = true) : ∀ (r : Nat) (j : Nat) (listed : Array Bool) (a : Act) (w : World), m ≤ j → j + r = ops.size → listed.size = ops.size → (∀ i, i < j → listed.getD i true = true) → (∀ i, j ≤ i → i < ops.size → listed.getD i true = false) →
  wpList P ops Q (ops.toList.drop j) a w → wpAny P .any ops Q r listed a w := by
 intro r
 induction r with
 | zero =>
  intro j listed a w _ hr hs h1 h2 h
  have hj : j = ops.size := by omega
  subst hj
  rw [List.drop_of_length_le (by simp)] at h
  refine ⟨?_, h⟩
  unfold Region.ready
  refine List.filter_eq_nil_iff.mpr (fun k hk => ?_)
  rw [h1 k (List.mem_range.mp hk)]
  simp
 | succ r ih =>
  intro j listed a w hmj hr hs h1 h2 h
  have hj : j < ops.size := by omega
  obtain ⟨o, ho⟩ : ∃ o, ops[j]? = some o := ⟨ops[j], Array.getElem?_eq_some_iff.2 ⟨hj, rfl⟩⟩
  have hrd := ready_of hs ho hchk (h2 j (Nat.le_refl _) hj) h1
  refine ⟨fun hr' => absurd (hr' ▸ hrd) (by simp), fun i hi => ?_⟩
  have hi' := hi
  unfold Region.ready at hi'
  obtain ⟨hir, hic⟩ := List.mem_filter.mp hi'
  have hilt := List.mem_range.mp hir
  obtain ⟨oi, hoi⟩ : ∃ o, ops[i]? = some o := ⟨ops[i], Array.getElem?_eq_some_iff.2 ⟨hilt, rfl⟩⟩
  simp only [hoi, Option.map_some, Option.getD_some, Bool.and_eq_true] at hic
  obtain ⟨hib, hdeps⟩ := hic
  have hib' : listed.getD i true = false := by simpa using hib
  have hij : i = j := by
   rcases Nat.lt_trichotomy i j with hlt | heq | hgt
   ·rw [h1 i hlt] at hib'; cases hib'
   ·exact heq
   ·have hw := chkS_spec hS hoi (by omega) j hgt
    have := q1r hdeps j hw
    rw [h2 j (Nat.le_refl _) hj] at this
    cases this
  subst hij
  have hdrop : ops.toList.drop i = oi :: ops.toList.drop (i + 1) := by
   rw [List.drop_eq_getElem_cons (by simpa using hilt)]
   congr 1
   have := (Array.getElem?_eq_some_iff.1 hoi).2
   simpa using this
  rw [hdrop] at h
  have hli : i < listed.size := by omega
  have hnext : ∀ a' w', wpList P ops Q (ops.toList.drop (i + 1)) a' w' → wpAny P .any ops Q r (listed.setIfInBounds i true) a' w' := fun a' w' hh =>
   ih (i + 1) _ a' w' (by omega) (by omega) (by simpa using hs) (fun k hk => by
    rw [q16 hli]
    split
    ·rfl
    ·exact h1 k (by omega)) (fun k hk hk2 => by
    rw [q16 hli, if_neg (by omega)]
    exact h2 k (by omega) hk2) hh
  unfold wpOp
  unfold wpList at h
  simp only [hoi]
  split
  ·rename_i hw
   rw [if_pos hw] at h
   rcases h with h | h
   ·exact .inl (Oper.wp_mono hnext h)
   ·exact .inr h
  ·rename_i hw
   rw [if_neg hw] at h
   exact hnext _ _ h
theorem regionF {id : Nat} (m : Nat) (hmz : m ≤ ops.size) (hS : chkS m ops = true) (hm : P.follows .mixedOrders = true) (hchk : chkB ops = true) (ha : Has n l a) (HW : Wd w0 W bs os)
  (hop : ∀ (i : Nat) (o : Oper), i < m → ops[i]? = some o → OpOk P n l F ops w0 bs os i o)
  (hmono : ∀ (j : Nat) (v : Value) (w w' : World), Below w.heap.size w w' → F j v w → F j v w')
  (hdst : ∀ (i : Nat) (o : Oper) (d : Nat), ops[i]? = some o → o.dst = some d → d < n)
  (hend : ∀ (a : Act) (w : World), a.tmps.size = n → a.defers = [] → Wd w0 w bs os → (∀ s v, look l s = some v → (∀ (j : Nat) (o : Oper), j < m → ops[j]? = some o → o.dst ≠ some s) → a.tmps[s]? = some v) →
   (∀ (j : Nat) (o : Oper) (d : Nat), j < m → ops[j]? = some o → o.dst = some d → ∃ v, a.tmps[d]? = some v ∧ F j v w) → wpList P ops Q (ops.toList.drop m) a w) : (Code.region id ops true).wp P Q a W := by
 refine wp_region_any hm ?_
 have key : ∀ (fuel : Nat) (listed : Array Bool) (a : Act) (w : World), listed.size = ops.size → (∀ j, m ≤ j → j < ops.size → listed.getD j true = false) → ((List.range m).filter fun i => !listed.getD i true).length = fuel → Inv n l F ops w0 bs os listed a w → wpAny P .any ops Q (fuel + (ops.size - m)) listed a w := by
  intro fuel
  induction fuel with
  | zero =>
   intro listed a w hs hnb hc hI
   have hnil := List.eq_nil_of_length_eq_zero hc
   have hall : ∀ j, j < m → listed.getD j true = true := by
    intro j hj
    cases hb : listed.getD j true with
    | true => rfl
    | false =>
     have : j ∈ (List.range m).filter fun i => !listed.getD i true := List.mem_filter.mpr ⟨List.mem_range.mpr hj, by rw [hb]; rfl⟩
     rw [hnil] at this
     cases this
   obtain ⟨h1, h2, h3, h4, h5, _⟩ := hI
   rw [Nat.zero_add]
   refine tailF hchk hS (ops.size - m) m listed a w (Nat.le_refl _) (by omega) hs hall hnb ?_
   refine hend a w h1 h2 h3 (fun s v hv hno => h4 s v hv (fun j o hj hd => ?_)) (fun j o d hjm hj hd => h5 j o d hj hd (hall j hjm))
   by_cases hjm : j < m
   ·exact absurd hd (hno j o hjm hj)
   ·exact hnb j (by omega) (Array.getElem?_eq_some_iff.1 hj).1
  | succ fuel ih =>
   intro listed a w hs hnb hc hI
   have hmin : ∃ j, j < m ∧ listed.getD j true = false ∧ ∀ k, k < j → listed.getD k true = true := by
    have hex : ∃ j, j < m ∧ listed.getD j true = false := by
     cases hf : (List.range m).filter fun i => !listed.getD i true with
     | nil => rw [hf] at hc; cases hc
     | cons j r =>
      have : j ∈ (List.range m).filter fun i => !listed.getD i true := by rw [hf]; exact List.mem_cons_self
      obtain ⟨h1, h2⟩ := List.mem_filter.mp this
      exact ⟨j, List.mem_range.mp h1, by simpa using h2⟩
    obtain ⟨j, hj, hb⟩ := hex
    induction j using Nat.strongRecOn with
    | _ j ihj =>
     by_cases hall : ∀ k, k < j → listed.getD k true = true
     ·exact ⟨j, hj, hb, hall⟩
     ·simp only [Classical.not_forall] at hall
      obtain ⟨k, hk, hkb⟩ := hall
      exact ihj k hk (by omega) (by simpa using hkb)
   obtain ⟨jm, hjm, hjb, hlow⟩ := hmin
   rw [show fuel + 1 + (ops.size - m) = fuel + (ops.size - m) + 1 by omega]
   refine ⟨fun hr => ?_, fun i hi => ?_⟩
   ·exfalso
    obtain ⟨o, ho⟩ : ∃ o, ops[jm]? = some o := ⟨ops[jm]'(by omega), Array.getElem?_eq_some_iff.2 ⟨by omega, rfl⟩⟩
    have := ready_of hs ho hchk hjb hlow
    rw [hr] at this
    cases this
   ·have hi' := hi
    unfold Region.ready at hi'
    obtain ⟨hir, hic⟩ := List.mem_filter.mp hi'
    have hilt := List.mem_range.mp hir
    obtain ⟨o, ho⟩ : ∃ o, ops[i]? = some o := ⟨ops[i], Array.getElem?_eq_some_iff.2 ⟨hilt, rfl⟩⟩
    simp only [ho, Option.map_some, Option.getD_some, Bool.and_eq_true] at hic
    obtain ⟨hib, hdeps⟩ := hic
    have hib' : listed.getD i true = false := by simpa using hib
    have hw : ∀ m, waits o m = true → listed.getD m true = true := fun k hk => q1r hdeps k hk
    have him : i < m := by
     rcases Nat.lt_or_ge i m with h | h
     ·exact h
     ·have := hw jm (chkS_spec hS ho h jm (by omega))
      rw [hjb] at this
      cases this
    obtain ⟨h1, h2, h3, h4, h5, h9⟩ := hI
    have hseen : ∀ s, s ∈ o.looksAt ops → Seen l F ops o a w s := by
     intro s hs'
     unfold Seen
     cases hsrc : srcOf ops o s with
     | some m =>
      unfold srcOf at hsrc
      have h6 := List.find?_some hsrc
      have h7 := List.mem_of_find?_eq_some hsrc
      simp only [Bool.and_eq_true] at h6
      obtain ⟨om, hom⟩ : ∃ om, ops[m]? = some om := ⟨ops[m]'(List.mem_range.mp h7), Array.getElem?_eq_some_iff.2 ⟨List.mem_range.mp h7, rfl⟩⟩
      simp only [hom, Option.bind_some] at h6
      cases hd : om.dst with
      | none => simp [hd] at h6
      | some d =>
       simp only [hd] at h6
       have hds : d = s := Nat.eq_of_beq_eq_true h6.2
       subst hds
       exact h5 m om d hom hd (hw m h6.1)
     | none =>
      intro v hv
      refine h4 s v hv (fun j oj hj hd => ?_)
      have h6 := ((q1q hchk ho).2 j oj s hj hd).2 hs'
      have hjlt : j < ops.size := (Array.getElem?_eq_some_iff.1 hj).1
      rcases h6 with h6 | h6
      ·exfalso
       unfold srcOf at hsrc
       have := List.find?_eq_none.mp hsrc j (List.mem_range.mpr hjlt)
       simp [h6, hj, hd] at this
      ·
       cases hb : listed.getD j true with
       | false => rfl
       | true =>
        exfalso
        have h8 := h9 j oj hj hb i hilt h6
        rw [hib'] at h8
        cases h8
    have step : ∀ (v : Value) (w' : World), F i v w' → Below w.heap.size w w' → Inv n l F ops w0 bs os (listed.setIfInBounds i true) (a.put o.dst v) w' := by
     intro v w' hF hB
     have hli : i < listed.size := by omega
     refine ⟨?_, ?_, h3.call hB, ?_, ?_, ?_⟩
     ·cases hd : o.dst with
      | none => exact h1
      | some d => simp [Act.put, h1]
     ·cases hd : o.dst with
      | none => exact h2
      | some d => exact h2
     ·intro s u hu hno
      have hns : o.dst ≠ some s := by
       intro hd
       have := hno i o ho hd
       rw [q16 hli, if_pos rfl] at this
       cases this
      have hold := h4 s u hu (fun j oj hj hd => by
       have := hno j oj hj hd
       rw [q16 hli] at this
       split at this
       ·cases this
       ·exact this)
      cases hd : o.dst with
      | none => exact hold
      | some d =>
       show (a.tmps.setIfInBounds d v)[s]? = some u
       rw [Array.getElem?_setIfInBounds, if_neg (fun e => hns (by rw [hd, e]))]
       exact hold
     ·intro j oj d hj hd hb
      by_cases hij : i = j
      ·subst hij
       rw [ho] at hj
       cases hj
       refine ⟨v, ?_, hF⟩
       rw [hd]
       show (a.tmps.setIfInBounds d v)[d]? = some v
       rw [Array.getElem?_setIfInBounds, if_pos rfl, if_pos (by rw [h1]; exact hdst i o d ho hd)]
      ·rw [q16 hli, if_neg hij] at hb
       obtain ⟨u, hu, hFu⟩ := h5 j oj d hj hd hb
       refine ⟨u, ?_, hmono j u w w' hB hFu⟩
       have hne := ((q1q hchk ho).2 j oj d hj hd).1 hij
       cases hdo : o.dst with
       | none => exact hu
       | some d' =>
        show (a.tmps.setIfInBounds d' v)[d]? = some u
        rw [Array.getElem?_setIfInBounds, if_neg (fun e => hne (by rw [hdo, e]))]
        exact hu
     ·intro j oj hj hb m hm hwm
      rw [q16 hli]
      split
      ·rfl
      ·by_cases hij : i = j
       ·subst hij
        rw [ho] at hj
        cases hj
        exact hw m hwm
       ·rw [q16 hli, if_neg hij] at hb
        exact h9 j oj hj hb m hm hwm
    have hcount : ((List.range m).filter fun k => !(listed.setIfInBounds i true).getD k true).length = fuel := by
     have hli : i < listed.size := by omega
     have e1 : ((List.range m).filter fun k => !(listed.setIfInBounds i true).getD k true) = ((List.range m).filter fun k => !listed.getD k true).erase i := by
      rw [List.Nodup.erase_eq_filter (List.nodup_range.sublist List.filter_sublist), List.filter_filter]
      refine List.filter_congr (fun k _ => ?_)
      rw [q16 hli]
      by_cases hik : i = k
      ·subst hik; simp
      ·have : ¬ k = i := fun e => hik e.symm
       simp [hik, this]
     rw [e1, List.length_erase_of_mem (List.mem_filter.mpr ⟨List.mem_range.mpr him, by rw [hib']; rfl⟩), hc]
     rfl
    have hnb' : ∀ j, m ≤ j → j < ops.size → (listed.setIfInBounds i true).getD j true = false := by
     intro j hj1 hj2
     rw [q16 (by omega), if_neg (by omega)]
     exact hnb j hj1 hj2
    have rec_ : ∀ (v : Value) (w' : World), F i v w' → Below w.heap.size w w' → wpAny P .any ops Q (fuel + (ops.size - m)) (listed.setIfInBounds i true) (a.put o.dst v) w' :=
     fun v w' hF hB => ih _ _ _ (by simpa using hs) hnb' hcount (step v w' hF hB)
    unfold wpOp
    simp only [ho]
    rcases hop i o him ho a w h1 h2 h3 hseen with ⟨hwt, hwp⟩ | ⟨hwf, hF⟩
    ·rw [if_pos hwt]
     refine .inl (q1u (fun a' w' hx => ?_) (fun _ _ _ h => h) hwp)
     obtain ⟨v, rfl, hF, hB⟩ := hx
     exact rec_ v w' hF hB
    ·rw [if_neg (by rw [hwf]; simp)]
     exact rec_ undef w hF (Below.refl _ _)
 have hsz : m + (ops.size - m) = ops.size := by omega
 rw [← hsz]
 have h0 : ∀ j, j < ops.size → (Array.replicate ops.size false).getD j true = false := fun j hj => by simp [hj]
 rw [hsz]
 have := key m (Array.replicate ops.size false) a { W with drawn := W.drawn + 1 } (by simp) (fun j _ hj => h0 j hj) ?_ ⟨ha.size, ha.defers, HW.drew _, fun s v hv _ => ha.slot s v hv, ?_, ?_⟩
 ·rwa [hsz] at this
 ·have : (List.range m).filter (fun i => !(Array.replicate ops.size false).getD i true) = List.range m := by
   refine List.filter_eq_self.mpr (fun i hi => ?_)
   rw [h0 i (by have := List.mem_range.mp hi; omega)]
   rfl
  rw [this, List.length_range]
 ·intro j o d hj _ hb
  rw [h0 j (Array.getElem?_eq_some_iff.1 hj).1] at hb
  cases hb
 ·intro j o hj hb
  rw [h0 j (Array.getElem?_eq_some_iff.1 hj).1] at hb
  cases hb
end
theorem q0a {n : Nat} {a : Act} (h1 : a.tmps.size = n) (h2 : a.defers = []) : Has n [] a := ⟨h1, h2, fun _ _ h => by cases h⟩
theorem Has.add {n : Nat} {l : List (Nat × Value)} {a : Act} (h : Has n l a) {s : Nat} {v : Value} (hs : a.tmps[s]? = some v) : Has n ((s, v) :: l) a := by
 refine ⟨h.size, h.defers, ?_⟩
 intro i u hu
 simp only [look] at hu
 cases hd : Nat.beq s i with
 | true =>
  simp only [hd] at hu
  have e : s = i := Nat.eq_of_beq_eq_true hd
  subst e
  rw [← hu]
  exact hs
 | false =>
  simp only [hd] at hu
  exact h.slot i u hu
section
variable {P : Program} {n : Nat} {l : List (Nat × Value)} {a : Act} {ops : Array Oper} {o : Oper} {w w' w0 : World} {G : Value → World → Prop} {bs : List (Nat × Obj)} {os : List OwnA}
def Yields (P : Program) (ops : Array Oper) (o : Oper) (a : Act) (w : World) (G : Value → World → Prop) : Prop :=
 (Region.wanted o (yielded ops a.tmps) = true ∧ o.wp P a w (fun a' w' => ∃ v, a' = a.put o.dst v ∧ G v w' ∧ Below w.heap.size w w') (fun _ _ _ => False)) ∨
 (Region.wanted o (yielded ops a.tmps) = false ∧ G undef w)
theorem yo (ha : Has n l a) (hok : offB l ops o.guard = true) (hG : G undef w) : Yields P ops o a w G := .inr ⟨ha.off ops o hok, hG⟩
end
abbrev Lt := List (Option Addr) × List Nat × List (List (Nat × Obj))
inductive Fact where
 | ws (f : Lt → Value) (w0 : World) (bs : Lt → List (Nat × Obj)) (os : Lt → List OwnA) (Q : Lt → Prop)
 | fix (u : Value)
 | rd (sz m : Nat) (cs : List Value)
 | blk (w0 : World) (C : Array Value) (T : Nat) (bs : List (Nat × Obj)) (os : List OwnA)
 | lit (w0 : World) (e n : Nat) (C : Array Value) (bs : List (Nat × Obj)) (os : List OwnA)
 | any
 | ptr
 | pr (Q : Value → Prop)
 | wd (f : List (Option Addr) → List Nat → Value) (w0 : World) (bs : List (Option Addr) → List Nat → List (Nat × Obj)) (os : List (Option Addr) → List Nat → List OwnA)
def Fact.holds : Fact → Value → World → Prop
 | .ws f w0 bs os Q, v, w => ∃ x, v = f x ∧ Wd w0 w (bs x) (os x) ∧ Q x
 | .fix u, v, _ => v = u
 | .rd sz m cs, v, w => Rd sz w v m cs
 | .blk w0 C T bs os, v, w => ∃ b, v = .pointer (some ⟨b, 0, none⟩) ∧ Wd w0 w ((b, .cells C T (0, 0)) :: bs) os
 | .lit w0 e n C bs os, v, w => ∃ b, v = .slice (some ⟨b, 0, none⟩) n n ∧ Wd w0 w ((b, .cells C e (0, 0)) :: bs) os
 | .any, _, _ => True
 | .ptr, v, _ => ∃ a, v = .pointer a
 | .pr Q, v, _ => Q v
 | .wd f w0 bs os, v, w => ∃ As ns, v = f As ns ∧ Wd w0 w (bs As ns) (os As ns)
def facts (L : List Fact) (j : Nat) (v : Value) (w : World) : Prop := (L.getD j .any).holds v w
theorem q35 (L : List Fact) (j : Nat) (v : Value) (w w' : World) (hb : Below w.heap.size w w') (h : facts L j v w) : facts L j v w' := by
 unfold facts at *
 cases hf : L.getD j .any with
 | fix u => rw [hf] at h; exact h
 | rd sz m cs => rw [hf] at h; exact Rd.below h hb
 | blk w0 C T bs os => rw [hf] at h; obtain ⟨b, e, hw⟩ := h; exact ⟨b, e, hw.call hb⟩
 | lit w0 e n C bs os => rw [hf] at h; obtain ⟨b, e, hw⟩ := h; exact ⟨b, e, hw.call hb⟩
 | any => trivial
 | ptr => rw [hf] at h; exact h
 | ws f w0 bs os Q => rw [hf] at h; obtain ⟨x, e, hw, hq⟩ := h; exact ⟨x, e, hw.call hb, hq⟩
 | pr Q => rw [hf] at h; exact h
 | wd f w0 bs os => rw [hf] at h; obtain ⟨As, ns, e, hw⟩ := h; exact ⟨As, ns, e, hw.call hb⟩
def OpsOk (P : Program) (n : Nat) (l : List (Nat × Value)) (L : List Fact) (ops : Array Oper) (w0 : World) (bs : List (Nat × Obj)) (os : List OwnA) : Nat → List Oper → Prop
 | _, [] => True
 | i, o :: r => OpOk P n l (facts L) ops w0 bs os i o ∧ OpsOk P n l L ops w0 bs os (i + 1) r
theorem OpsOk.get {P : Program} {n : Nat} {l : List (Nat × Value)} {L : List Fact} {ops : Array Oper} {w0 : World} {bs : List (Nat × Obj)} {os : List OwnA} : ∀ (r : List Oper) (i : Nat), OpsOk P n l L ops w0 bs os i r → ∀ (j : Nat) (o : Oper), r[j]? = some o → OpOk P n l (facts L) ops w0 bs os (i + j) o
 | [], _, _, j, o, h => by simp at h
 | x :: r, i, hx, 0, o, h => by
  simp only [List.getElem?_cons_zero, Option.some.injEq] at h
  subst h
  exact hx.1
 | x :: r, i, hx, j + 1, o, h => by
  have := OpsOk.get r (i + 1) hx.2 j o (by simpa using h)
  rw [show i + (j + 1) = i + 1 + j by omega]
  exact this
def dstB (n : Nat) (ops : Array Oper) : Bool := ops.all fun o => match o.dst with
 | some d => Nat.blt d n
 | none => true
def freeB (m : Nat) (ops : Array Oper) (s : Nat) : Bool := (ops.toList.take m).all fun o => match o.dst with
 | some d => !Nat.beq d s
 | none => true
section
variable {P : Program} {n : Nat} {l : List (Nat × Value)} {ops : Array Oper} {w0 W : World} {bs : List (Nat × Obj)} {os : List OwnA} {a : Act} {Q : Exit → Act → World → Prop} {L : List Fact}
theorem q2z {id : Nat} (m : Nat) (hm : P.follows .mixedOrders = true) (hchk : (chkB ops && dstB n ops && Nat.ble m ops.size && chkS m ops) = true) (ha : Has n l a) (HW : Wd w0 W bs os) (L : List Fact)
  (hop : OpsOk P n l L ops w0 bs os 0 (ops.toList.take m))
  (hend : ∀ (a : Act) (w : World), Has n [] a → Wd w0 w bs os → (∀ s v, look l s = some v → freeB m ops s = true → a.tmps[s]? = some v) →
   (∀ (j d : Nat), Nat.blt j m = true → (ops[j]?).bind (·.dst) = some d → ∃ v, a.tmps[d]? = some v ∧ facts L j v w) → wpList P ops Q (ops.toList.drop m) a w) : (Code.region id ops true).wp P Q a W := by
 simp only [Bool.and_eq_true] at hchk
 obtain ⟨⟨⟨hc1, hc2⟩, hc3⟩, hc4⟩ := hchk
 have hmz := Nat.le_of_ble_eq_true hc3
 refine regionF (F := facts L) m hmz hc4 hm hc1 ha HW (fun i o him hi => ?_) (q35 L) (fun i o d hi hd => ?_) (fun a w h1 h2 h3 h4 h5 => ?_)
 ·have := OpsOk.get (ops.toList.take m) 0 hop i o (by rw [List.getElem?_take, if_pos him]; simpa using hi)
  rwa [Nat.zero_add] at this
 ·unfold dstB at hc2
  rw [Array.all_eq_true_iff_forall_mem] at hc2
  have := hc2 o (Array.mem_of_getElem? hi)
  simp only [hd] at this
  exact Nat.le_of_ble_eq_true this
 ·refine hend a w (q0a h1 h2) h3 (fun s v hv hf => h4 s v hv (fun j o hjm hj hd => ?_)) (fun j d hjm hj => ?_)
  ·unfold freeB at hf
   have hmem : o ∈ ops.toList.take m := by
    refine List.mem_of_getElem? (i := j) ?_
    rw [List.getElem?_take, if_pos hjm]
    simpa using hj
   have := List.all_eq_true.mp hf o hmem
   simp [hd] at this
  ·cases ho : ops[j]? with
   | none => simp [ho] at hj
   | some o => exact h5 j o d (Nat.le_of_ble_eq_true hjm) ho (by simpa [ho] using hj)
variable {o : Oper} {w : World} {G : Value → World → Prop} {E : List (Nat × Value)}
theorem seeE (hs : ∀ s, s ∈ o.looksAt ops → Seen l (facts L) ops o a w s) (s : Nat) (v : Value) (h : ((o.looksAt ops).any (Nat.beq s), srcOf ops o s) = (true, none)) (hl : look l s = some v) : a.tmps[s]? = some v := by
 simp only [Prod.mk.injEq, List.any_eq_true] at h
 obtain ⟨⟨x, hx, hb⟩, h2⟩ := h
 have e := Nat.eq_of_beq_eq_true hb
 subst e
 have := hs s hx
 unfold Seen at this
 rw [h2] at this
 exact this v hl
theorem seeF (hs : ∀ s, s ∈ o.looksAt ops → Seen l (facts L) ops o a w s) (s m : Nat) (v : Value) (h : ((o.looksAt ops).any (Nat.beq s), srcOf ops o s) = (true, some m)) (hL : L.getD m .any = .fix v) : a.tmps[s]? = some v := by
 simp only [Prod.mk.injEq, List.any_eq_true] at h
 obtain ⟨⟨x, hx, hb⟩, h2⟩ := h
 have e := Nat.eq_of_beq_eq_true hb
 subst e
 have := hs s hx
 unfold Seen at this
 rw [h2] at this
 obtain ⟨u, hu, hf⟩ := this
 unfold facts at hf
 rw [hL] at hf
 rw [hu, show u = v from hf]
theorem gotK {m j d : Nat} {f : Fact} (h : ∀ (j d : Nat), Nat.blt j m = true → (ops[j]?).bind (·.dst) = some d → ∃ v, a.tmps[d]? = some v ∧ facts L j v w) (hjm : Nat.blt j m = true) (hj : (ops[j]?).bind (·.dst) = some d) (hL : L.getD j .any = f) : ∃ v, a.tmps[d]? = some v ∧ f.holds v w := by
 obtain ⟨u, hu, hf⟩ := h j d hjm hj
 unfold facts at hf
 rw [hL] at hf
 exact ⟨u, hu, hf⟩
theorem seeR (hs : ∀ s, s ∈ o.looksAt ops → Seen l (facts L) ops o a w s) (s m sz k : Nat) (cs : List Value) (h : ((o.looksAt ops).any (Nat.beq s), srcOf ops o s) = (true, some m)) (hL : L.getD m .any = .rd sz k cs) :
  ∃ A c, a.tmps[s]? = some (.slice A k c) ∧ Rd sz w (.slice A k c) k cs := by
 simp only [Prod.mk.injEq, List.any_eq_true] at h
 obtain ⟨⟨x, hx, hb⟩, h2⟩ := h
 have e := Nat.eq_of_beq_eq_true hb
 subst e
 have := hs s hx
 unfold Seen at this
 rw [h2] at this
 obtain ⟨u, hu, hf⟩ := this
 unfold facts at hf
 rw [hL] at hf
 have hf : Rd sz w u k cs := hf
 obtain ⟨A, c, rfl⟩ := hf.shape
 exact ⟨A, c, hu, hf⟩
theorem rd_blk {α : Type} {enc : α → List Value} {w0 W : World} {bs : List (Nat × Obj)} {os : List OwnA} (h : Wd w0 W bs os) {i b sz T : Nat} {C : Array Value} (hi : bs[i]? = some (b, .cells C T (0, 0))) (hsz : ∀ x, (enc x).length = sz) (xs : List α) (hC : C = (encs enc xs).toArray) :
  Rd sz W (.slice (some ⟨b, 0, none⟩) xs.length xs.length) xs.length (encs enc xs) := by
 refine ⟨?_, .inr ⟨b, 0, xs.length, rfl, Nat.le_refl _, fun j u hu => ?_⟩⟩
 ·clear hC
  induction xs with
  | nil => simp [encs]
  | cons x r ih =>
   have : encs enc (x :: r) = enc x ++ encs enc r := by simp [encs]
   rw [this, List.length_append, ih, hsz, List.length_cons, Nat.succ_mul]
   omega
 ·refine h.ca hi j u ?_
  rw [hC]
  simpa using hu
theorem seeL {α : Type} {enc : α → List Value} (hs : ∀ s, s ∈ o.looksAt ops → Seen l (facts L) ops o a w s) (s m sz e : Nat) (C : Array Value) (xs : List α) {w1 : World} {bs1 : List (Nat × Obj)} {os1 : List OwnA} (h : ((o.looksAt ops).any (Nat.beq s), srcOf ops o s) = (true, some m)) (hL : L.getD m .any = .lit w1 e xs.length C bs1 os1) (hsz : ∀ x, (enc x).length = sz) (hC : C = (encs enc xs).toArray) :
  ∃ b, a.tmps[s]? = some (.slice (some ⟨b, 0, none⟩) xs.length xs.length) ∧ Rd sz w (.slice (some ⟨b, 0, none⟩) xs.length xs.length) xs.length (encs enc xs) := by
 simp only [Prod.mk.injEq, List.any_eq_true] at h
 obtain ⟨⟨x, hx, hb⟩, h2⟩ := h
 have e := Nat.eq_of_beq_eq_true hb
 subst e
 have := hs s hx
 unfold Seen at this
 rw [h2] at this
 obtain ⟨u, hu, hf⟩ := this
 unfold facts at hf
 rw [hL] at hf
 obtain ⟨b, rfl, hw⟩ := hf
 exact ⟨b, hu, rd_blk hw (i := 0) rfl hsz xs hC⟩
theorem gotF {m j d : Nat} {v : Value} (h : ∀ (j d : Nat), Nat.blt j m = true → (ops[j]?).bind (·.dst) = some d → ∃ v, a.tmps[d]? = some v ∧ facts L j v w) (hjm : Nat.blt j m = true) (hj : (ops[j]?).bind (·.dst) = some d) (hL : L.getD j .any = .fix v) : a.tmps[d]? = some v := by
 obtain ⟨u, hu, hf⟩ := h j d hjm hj
 unfold facts at hf
 rw [hL] at hf
 rw [hu, show u = v from hf]
def YQ (a : Act) (w : World) (d : Nat) (G : Value → World → Prop) : Exit → Act → World → Prop := fun e a' w' => e = .normal ∧ ∃ v, a' = a.put (some d) v ∧ G v w' ∧ Below w.heap.size w w'
def fullL (n : Nat) (a : Act) : List (Nat × Value) := (List.range n).map fun i => (i, a.tmps.getD i undef)
theorem look_append (E l : List (Nat × Value)) (i : Nat) : look (E ++ l) i = (look E i).or (look l i) := by
 induction E with
 | nil => simp [look]
 | cons p r ih =>
  show look (p :: (r ++ l)) i = _
  simp only [look]
  cases Nat.beq p.1 i with
  | true => rfl
  | false => exact ih
theorem look_full (n : Nat) (a : Act) (i : Nat) : look (fullL n a) i = if i < n then some (a.tmps.getD i undef) else none := by
 have gen : ∀ (r : List Nat), look (r.map fun i => (i, a.tmps.getD i undef)) i = if i ∈ r then some (a.tmps.getD i undef) else none := by
  intro r
  induction r with
  | nil => simp [look]
  | cons x r ih =>
   simp only [List.map_cons, look]
   cases hb : Nat.beq x i with
   | true =>
    have e := Nat.eq_of_beq_eq_true hb
    subst e
    simp
   | false =>
    have e : ¬ i = x := fun e => Nat.ne_of_beq_eq_false hb e.symm
    simp only [ih, List.mem_cons, e, false_or]
 unfold fullL
 rw [gen]
 simp [List.mem_range]
theorem Has.full (h : Has n E a) : Has n (E ++ fullL n a) a := by
 refine ⟨h.size, h.defers, fun i v hv => ?_⟩
 rw [look_append] at hv
 cases he : look E i with
 | some u =>
  rw [he] at hv
  have : u = v := by simpa using hv
  subst this
  exact h.slot i u he
 | none =>
  rw [he, look_full] at hv
  by_cases hi : i < n
  ·simp only [hi, if_true, Option.none_or, Option.some.injEq] at hv
   rw [← hv, Array.getD_eq_getD_getElem?, Array.getElem?_eq_getElem (by rw [h.size]; exact hi)]
   rfl
  ·simp [hi] at hv
theorem yStep (ha : Has n E a) (d : Nat) (hok : okB n E ops o d = true)
  (h : ∀ l, Has n (E ++ l) a → (∀ a' v w', Has n ((d, v) :: (E ++ l)) a' → G v w' → Below w.heap.size w w' → wpList P ops (YQ a w d G) [] a' w') → wpList P ops (YQ a w d G) [o] a w) : Yields P ops o a w G := by
 obtain ⟨h1, h2, h3, h4⟩ := okB_spec hok
 have hw := ha.on ops o h2
 have key := h (fullL n a) ha.full (fun a' v w' ha' hg hb => by
  refine ⟨rfl, v, ?_, hg, hb⟩
  have he : a'.tmps = (a.put (some d) v).tmps := by
   apply Array.ext_getElem?
   intro i
   show a'.tmps[i]? = (a.tmps.setIfInBounds d v)[i]?
   by_cases hi : i < n
   ·rw [Array.getElem?_setIfInBounds]
    by_cases hid : d = i
    ·subst hid
     rw [if_pos rfl, if_pos (by rw [ha.size]; exact h3)]
     exact ha'.slot d v (by simp [look])
    ·rw [if_neg hid]
     have hl : ∃ u, look (E ++ fullL n a) i = some u := by
      rw [look_append, look_full, if_pos hi]
      cases look E i <;> simp
     obtain ⟨u, hu⟩ := hl
     have e1 := ha.full.slot i u hu
     have e2 := ha'.slot i u (by
      simp only [look]
      cases hb : Nat.beq d i with
      | true => exact absurd (Nat.eq_of_beq_eq_true hb) hid
      | false => exact hu)
     rw [e1, e2]
   ·rw [Array.getElem?_eq_none (by rw [ha'.size]; omega), Array.getElem?_eq_none (by rw [Array.size_setIfInBounds, ha.size]; omega)]
  have hd' : a'.defers = (a.put (some d) v).defers := ha'.defers.trans ha.defers.symm
  cases a'
  simp only at he hd'
  show Act.mk _ _ = Act.mk _ _
  rw [he, hd']
  rfl)
 unfold wpList at key
 rw [if_pos hw] at key
 rcases key with key | ⟨_, a1, w1, hq⟩
 ·refine .inl ⟨hw, ?_⟩
  refine wp_false_mono' (fun a' w' hx => ?_) (fun e a' w' hne hq => ?_) key
  ·obtain ⟨_, v, h5, h6, h7⟩ := hx
   exact ⟨v, by rw [h4]; exact h5, h6, h7⟩
  ·exact hne hq.1
 ·cases hq.1
theorem stepif {rest : List Oper} (ha : Has n l a) (d : Nat) {sz len : Nat} {b off c : Nat} (t e : Nat) (x i : Operand) (k : IntKind) (j : Int) (ho : o.op = .indexAddr t x i) (hx : ev l x = .slice (some ⟨b, off, none⟩) len c) (hi : ev l i = .int k j)
  (ht : P.underlying t = some (.slice e)) (hs : (P.info? e).map (·.size) = some sz) (h0 : 0 ≤ j) (h1 : j < len) (hok : okB n l ops o d = true)
  (h : ∀ a', Has n ((d, .pointer (some ⟨b, off + j.toNat * sz, none⟩)) :: l) a' → wpList P ops Q rest a' W) : wpList P ops Q (o :: rest) a W := by
 cases hie : P.info? e with
 | none => simp [hie] at hs
 | some ie =>
  have hsz : ie.size = sz := by simpa [hie] using hs
  refine stepv (W' := W) ha d (.pointer (some ⟨b, off + j.toNat * sz, none⟩)) hok ?_ h
  have hcond : 0 ≤ j ∧ j < (len : Int) := ⟨h0, h1⟩
  unfold execOp
  simp only [ho, hx, hi, Instr.indexAt, asIntOf, Sem.run_bind, Sem.run_pure, Result.andThen_ok, run_underlying ht, if_pos hcond, sizeOf, typeInfo, run_program, hie, hsz, Addr.add_lit]
theorem Rd.ca {α : Type} (enc : α → List Value) (dfl : α) {sz : Nat} (hsz : ∀ x, (enc x).length = sz) {b off c : Nat} {xs : List α} (hr : Rd sz W (.slice (some ⟨b, off, none⟩) xs.length c) xs.length (encs enc xs)) {j : Int} (h0 : 0 ≤ j) (h1 : j < xs.length) :
  CA W b (off + j.toNat * sz) (enc (rdL dfl xs j)).toArray := by
 intro m u hu
 have hm : m < sz := by
  have := (Array.getElem?_eq_some_iff.1 hu).1
  rw [List.size_toArray, hsz] at this
  exact this
 rcases hr.2 with ⟨hv, _⟩ | ⟨b', off', cap', hv, _, hcell⟩
 ·cases hv
 ·simp only [Value.slice.injEq, Option.some.injEq, Addr.mk.injEq, and_true, true_and] at hv
  obtain ⟨⟨rfl, rfl⟩, rfl⟩ := hv
  rw [Nat.add_assoc]
  refine hcell _ u ?_
  rw [encs_get hsz dfl xs j.toNat m (by omega) hm]
  simpa [rdL] using hu
theorem Rd.addr {sz len c : Nat} {A : Option Addr} {cs : List Value} (hr : Rd sz W (.slice A len c) len cs) {j : Int} (h0 : 0 ≤ j) (h1 : j < len) : ∃ b off, A = some ⟨b, off, none⟩ := by
 rcases hr.2 with ⟨_, hn⟩ | ⟨b, off, cap, hv, _⟩
 ·omega
 ·simp only [Value.slice.injEq] at hv
  exact ⟨b, off, hv.1⟩
end
end Go.Proofs.YtokdiacjcbolfaaDoor.X
namespace Go.Proofs.YtokdiacjcbolfaaDoor.X
open Go Go.RowKit
section
variable {P : Program} {n : Nat} {l : List (Nat × Value)} {a : Act} {ops : Array Oper} {o : Oper} {rest : List Oper} {Q : Exit → Act → World → Prop} {W : World}
end
end Go.Proofs.YtokdiacjcbolfaaDoor.X
namespace Go.Proofs.YtokdiacjcbolfaaDoor.X
open Go Go.RowKit
section
variable {P : Program} {n : Nat} {l : List (Nat × Value)} {a : Act} {ops : Array Oper} {o : Oper} {rest : List Oper} {Q : Exit → Act → World → Prop} {W : World}
end
section
variable (P : Program) (n : Nat) (l : List (Nat × Value)) (F : Nat → Value → World → Prop) (ops : Array Oper) (J : Array Bool → World → Prop)
end
section
variable {P : Program} {n : Nat} {l : List (Nat × Value)} {F : Nat → Value → World → Prop} {ops : Array Oper} {W : World} {a : Act} {Q : Exit → Act → World → Prop}
end
section
variable {P : Program} {n : Nat} {l : List (Nat × Value)} {ops : Array Oper} {w0 W : World} {bs bs2 bsC : List (Nat × Obj)} {os os2 osC : List OwnA} {a : Act} {Q : Exit → Act → World → Prop} {L : List Fact}
abbrev Sta := List (Nat × Obj) × List OwnA
variable {o : Oper} {w : World} {E : List (Nat × Value)}
end
end Go.Proofs.YtokdiacjcbolfaaDoor.X
namespace Go.Proofs.YtokdiacjcbolfaaDoor.X
open Go Go.RowKit
inductive TFact where
 | fix (u : Value)
 | lit (e n : Nat) (C : Array Value)
 | new (T k : Nat)
 | any
section
variable (P : Program) (n : Nat) (l : List (Nat × Value)) (L : List TFact) (ops : Array Oper) (W : World)
end
section
variable {P : Program} {n : Nat} {l : List (Nat × Value)} {ops : Array Oper} {W w0 : World} {bs : List (Nat × Obj)} {os : List OwnA} {a : Act} {Q : Exit → Act → World → Prop}
variable {o : Oper} {w : World} {E : List (Nat × Value)} {L : List TFact}
end
section
variable {n : Nat} {l : List (Nat × Value)} {ops : Array Oper} {W w : World} {a : Act} {o : Oper} {L : List TFact}
end
end Go.Proofs.YtokdiacjcbolfaaDoor.X
namespace Go.Proofs.YtokdiacjcbolfaaDoor.X
open Go Go.RowKit
set_option linter.unusedVariables false
set_option linter.unusedSimpArgs false
theorem all_iff {α : Type} {p : α → Prop} {l : List α} : (∀ (i : Nat) (x : α), l[i]? = some x → p x) ↔ ∀ x ∈ l, p x :=
 ⟨fun h x hx => by obtain ⟨i, hi⟩ := List.getElem?_of_mem hx; exact h i x hi, fun h i x hi => h x (List.mem_of_getElem? hi)⟩
theorem pw_iff {α : Type} {R : α → α → Prop} (hs : ∀ a b, R a b → R b a) {l : List α} : (∀ (i j : Nat) (p q : α), l[i]? = some p → l[j]? = some q → i ≠ j → R p q) ↔ l.Pairwise R := by
 rw [List.pairwise_iff_getElem]
 refine ⟨fun h i j hi hj hij => h i j _ _ (List.getElem?_eq_getElem hi) (List.getElem?_eq_getElem hj) (by omega), fun h i j p q hp hq hne => ?_⟩
 obtain ⟨hi, rfl⟩ := List.getElem?_eq_some_iff.1 hp
 obtain ⟨hj, rfl⟩ := List.getElem?_eq_some_iff.1 hq
 rcases Nat.lt_or_gt_of_ne hne with h1 | h1
 ·exact h i j hi hj h1
 ·exact hs _ _ (h j i hj hi h1)
def NeB (p q : Nat × Obj) : Prop := p.1 ≠ q.1
def NeO (p q : OwnA) : Prop := ∀ k, p.v.ownBlock = some k → q.v.ownBlock ≠ some k
theorem NeB.symm (a b : Nat × Obj) (h : NeB a b) : NeB b a := fun e => h e.symm
theorem NeO.symm (a b : OwnA) (h : NeO a b) : NeO b a := fun k hk hb => h k hb hk
section
variable {w0 W : World} {bs bs' bs1 bs2 : List (Nat × Obj)} {os os' os1 os2 : List OwnA}
theorem Wd.iff : Wd w0 W bs os ↔ Below w0.heap.size w0 W ∧ (∀ p ∈ bs, w0.heap.size ≤ p.1 ∧ W.heap[p.1]? = some p.2) ∧ (∀ q ∈ os, ownG W w0.heap.size q.e q.sz q.v q.n q.cs) ∧ bs.Pairwise NeB ∧ os.Pairwise NeO ∧ (∀ p ∈ bs, ∀ q ∈ os, q.v.ownBlock ≠ some p.1) := by
 constructor
 ·intro h
  refine ⟨h.below, all_iff.mp h.blk, all_iff.mp h.own, (pw_iff NeB.symm).mp h.dbb, (pw_iff NeO.symm).mp h.doo, fun p hp q hq => ?_⟩
  obtain ⟨i, hi⟩ := List.getElem?_of_mem hp
  obtain ⟨j, hj⟩ := List.getElem?_of_mem hq
  exact h.dbo i j p q hi hj
 ·rintro ⟨h1, h2, h3, h4, h5, h6⟩
  exact ⟨h1, all_iff.mpr h2, all_iff.mpr h3, (pw_iff NeB.symm).mpr h4, (pw_iff NeO.symm).mpr h5, fun i j p q hp hq => h6 p (List.mem_of_getElem? hp) q (List.mem_of_getElem? hq)⟩
theorem Wd.perm (h : Wd w0 W bs os) (hb : bs.Perm bs') (ho : os.Perm os') : Wd w0 W bs' os' := by
 obtain ⟨h1, h2, h3, h4, h5, h6⟩ := Wd.iff.mp h
 exact Wd.iff.mpr ⟨h1, fun p hp => h2 p (hb.mem_iff.mpr hp), fun q hq => h3 q (ho.mem_iff.mpr hq), (hb.pairwise_iff (NeB.symm _ _)).mp h4, (ho.pairwise_iff (NeO.symm _ _)).mp h5, fun p hp q hq => h6 p (hb.mem_iff.mpr hp) q (ho.mem_iff.mpr hq)⟩
theorem Wd.less (h : Wd w0 W bs os) (hb : bs'.Sublist bs) (ho : os'.Sublist os) : Wd w0 W bs' os' := by
 obtain ⟨h1, h2, h3, h4, h5, h6⟩ := Wd.iff.mp h
 exact Wd.iff.mpr ⟨h1, fun p hp => h2 p (hb.subset hp), fun q hq => h3 q (ho.subset hq), h4.sublist hb, h5.sublist ho, fun p hp q hq => h6 p (hb.subset hp) q (ho.subset hq)⟩
def RowO (e sz : Nat) (v : Value) (n : Nat) (cs : List Value) (g : Nat) (o : Obj) : Prop :=
 cs.length = n * sz ∧ ∃ cap cur fz, v = .slice (some ⟨g, 0, none⟩) n cap ∧ o = .cells cur e fz ∧ (∀ i, i < cur.size → ¬ (fz.1 ≤ i ∧ i < fz.2)) ∧ n ≤ cap ∧ cap ≤ maxLen ∧ cur.size = cap * sz ∧ cur.toList.take (n * sz) = cs
theorem Wd.toRow {g : Nat} {o : Obj} {e sz n : Nat} {v : Value} {cs : List Value} (h : Wd w0 W ((g, o) :: bs) os) (hr : RowO e sz v n cs g o) : Wd w0 W bs (⟨e, sz, v, n, cs⟩ :: os) := by
 obtain ⟨h1, h2, h3, h4, h5, h6⟩ := Wd.iff.mp h
 obtain ⟨hl, cap, cur, fz, hv, ho, r⟩ := hr
 subst hv ho
 have hg := h2 _ List.mem_cons_self
 obtain ⟨h4a, h4b⟩ := List.pairwise_cons.mp h4
 refine Wd.iff.mpr ⟨h1, fun p hp => h2 p (List.mem_cons_of_mem _ hp), fun q hq => ?_, h4b, List.pairwise_cons.mpr ⟨fun q hq k hk hx => ?_, h5⟩, fun p hp q hq => ?_⟩
 ·rcases List.mem_cons.mp hq with rfl | hq
  ·exact ⟨hl, .inr ⟨g, cap, cur, fz, rfl, hg.1, hg.2, r⟩⟩
  ·exact h3 q hq
 ·simp only [Value.ownBlock, Option.some.injEq] at hk
  subst hk
  exact h6 _ List.mem_cons_self q hq hx
 ·rcases List.mem_cons.mp hq with rfl | hq
  ·simp only [Value.ownBlock, ne_eq, Option.some.injEq]
   exact h4a p hp
  ·exact h6 p (List.mem_cons_of_mem _ hp) q hq
theorem Wd.ofRow {e sz n : Nat} {v : Value} {cs : List Value} (h : Wd w0 W bs (⟨e, sz, v, n, cs⟩ :: os)) : (v = .slice none 0 0 ∧ n = 0 ∧ cs = [] ∧ Wd w0 W bs os) ∨ ∃ g o, RowO e sz v n cs g o ∧ Wd w0 W ((g, o) :: bs) os := by
 obtain ⟨h1, h2, h3, h4, h5, h6⟩ := Wd.iff.mp h
 obtain ⟨h5a, h5b⟩ := List.pairwise_cons.mp h5
 have hq := h3 _ List.mem_cons_self
 have hrest : Wd w0 W bs os := Wd.iff.mpr ⟨h1, h2, fun q hq => h3 q (List.mem_cons_of_mem _ hq), h4, h5b, fun p hp q hq => h6 p hp q (List.mem_cons_of_mem _ hq)⟩
 obtain ⟨hl, hc⟩ := hq
 simp only at hl hc
 rcases hc with ⟨hv, hn⟩ | ⟨g, cap, cur, fz, hv, hg0, hg, r⟩
 ·refine .inl ⟨hv, hn, List.eq_nil_of_length_eq_zero (by rw [hl, hn]; simp), hrest⟩
 ·refine .inr ⟨g, _, ⟨hl, cap, cur, fz, hv, rfl, r⟩, Wd.iff.mpr ⟨h1, fun p hp => ?_, fun q hq => h3 q (List.mem_cons_of_mem _ hq), List.pairwise_cons.mpr ⟨fun p hp => ?_, h4⟩, h5b, fun p hp q hq => ?_⟩⟩
  ·rcases List.mem_cons.mp hp with rfl | hp
   ·exact ⟨hg0, hg⟩
   ·exact h2 p hp
  ·intro e
   have := h6 p hp _ List.mem_cons_self
   rw [hv] at this
   exact this (by simp only [Value.ownBlock]; rw [← e])
  ·rcases List.mem_cons.mp hp with rfl | hp
   ·exact h5a q hq g (by rw [hv]; rfl)
   ·exact h6 p hp q (List.mem_cons_of_mem _ hq)
theorem mem_of_map {α : Type} {l l' : List α} {is : List Nat} (hb : is.map (fun i => l[i]?) = l'.map some) : ∀ x ∈ l', x ∈ l := by
 intro x hx
 have : some x ∈ l'.map some := List.mem_map.mpr ⟨x, hx, rfl⟩
 rw [← hb] at this
 obtain ⟨i, _, hi⟩ := List.mem_map.mp this
 exact List.mem_of_getElem? hi
theorem Wd.pickT {l l' bt : List (Nat × Obj)} {m m' ot : List OwnA} (h : Wd w0 W (l ++ bt) (m ++ ot)) (is js : List Nat) (hi : is.Nodup) (hj : js.Nodup) (hb : is.map (fun i => l[i]?) = l'.map some) (ho : js.map (fun i => m[i]?) = m'.map some) :
  Wd w0 W (l' ++ bt) (m' ++ ot) := by
 have h' := (h.less (List.sublist_append_left l bt) (List.sublist_append_left m ot)).pick is js hi hj hb ho
 obtain ⟨h1, h2, h3, h4, h5, h6⟩ := Wd.iff.mp h
 obtain ⟨g1, g2, g3, g4, g5, g6⟩ := Wd.iff.mp h'
 obtain ⟨a1, a2, a3⟩ := List.pairwise_append.mp h4
 obtain ⟨c1, c2, c3⟩ := List.pairwise_append.mp h5
 have mb := mem_of_map hb
 have mo := mem_of_map ho
 have ib : ∀ p ∈ l' ++ bt, p ∈ l ++ bt := fun p hp => by
  rcases List.mem_append.mp hp with h | h
  ·exact List.mem_append_left _ (mb p h)
  ·exact List.mem_append_right _ h
 have io : ∀ p ∈ m' ++ ot, p ∈ m ++ ot := fun p hp => by
  rcases List.mem_append.mp hp with h | h
  ·exact List.mem_append_left _ (mo p h)
  ·exact List.mem_append_right _ h
 exact Wd.iff.mpr ⟨h1, fun p hp => h2 p (ib p hp), fun q hq => h3 q (io q hq), List.pairwise_append.mpr ⟨g4, a2, fun p hp q hq => a3 p (mb p hp) q hq⟩, List.pairwise_append.mpr ⟨g5, c2, fun p hp q hq => c3 p (mo p hp) q hq⟩, fun p hp q hq => h6 p (ib p hp) q (io q hq)⟩
end
end Go.Proofs.YtokdiacjcbolfaaDoor.X
namespace Go.Proofs.YtokdiacjcbolfaaDoor.X
open Go Go.RowKit
set_option linter.unusedVariables false
set_option linter.unusedSimpArgs false
inductive F2 {α β : Type} (R : α → β → Prop) : List α → List β → Prop
 | nil : F2 R [] []
 | cons {a b l m} : R a b → F2 R l m → F2 R (a :: l) (b :: m)
theorem finn {P : Program} {n : Nat} {l : List (Nat × Value)} {a : Act} {W : World} {fn : Func} {R : Ending → World → Prop} (ha : Has n l a) (rs : List ResultVar) (vs : List Value) (hrs : fn.results = rs.toArray) (hres : ResOk P W l rs vs) (v : Value)
  (hv : oneOf vs = v) (hR : R (.returned v) W) : bodyPost P fn R .normal a W := finv ha rs vs hrs hres v hv hR
abbrev Blks := List (Nat × Obj)
def flatT (ss : List Blks) (bt : Blks) : Blks := ss.foldr (· ++ ·) bt
theorem flatT_eq (ss : List Blks) (bt : Blks) : flatT ss bt = ss.flatten ++ bt := by
 induction ss with
 | nil => rfl
 | cons s r ih =>
  show s ++ flatT r bt = _
  rw [ih, List.flatten_cons, List.append_assoc]
def permB (is : List Nat) (n : Nat) : Bool := is.isPerm (List.range n)
theorem perm_of {is : List Nat} {ss : List Blks} (h : permB is ss.length = true) : ss.Perm (is.map fun i => ss.getD i []) := by
 have h1 := List.isPerm_iff.mp h
 have h2 := (h1.map fun i => ss.getD i []).symm
 refine List.Perm.trans (List.Perm.of_eq ?_) h2
 apply List.ext_getElem?
 intro i
 by_cases hi : i < ss.length
 ·simp [hi]
 ·simp [hi]
section
variable {w0 W : World} {bt : Blks} {os m m' ot : List OwnA}
theorem Wd.segs {ss : List Blks} (ss' : List Blks) (m' : List OwnA) (h : Wd w0 W (flatT ss bt) (m ++ ot)) (is ir js : List Nat) (hp : permB (is ++ ir) ss.length = true) (hs : (is.map fun i => ss.getD i []) = ss') (hj : js.Nodup) (ho : js.map (fun i => m[i]?) = m'.map some) :
  Wd w0 W (flatT ss' bt) (m' ++ ot) := by
 rw [flatT_eq] at h ⊢
 have hq := perm_of hp
 rw [List.map_append, hs] at hq
 have hf : ss.flatten.Perm (ss'.flatten ++ (ir.map fun i => ss.getD i []).flatten) := by
  rw [← List.flatten_append]
  exact hq.flatten
 have h2 : Wd w0 W (([] : Blks) ++ (ss.flatten ++ bt)) (m ++ ot) := h
 have h3 := h2.pickT [] js List.nodup_nil hj (l' := []) (m' := m') rfl ho
 refine (h3.perm (bs' := ss'.flatten ++ ((ir.map fun i => ss.getD i []).flatten ++ bt)) ?_ (List.Perm.refl _)).less ?_ (List.Sublist.refl _)
 ·show (ss.flatten ++ bt).Perm _
  rw [← List.append_assoc]
  exact hf.append_right _
 ·exact List.Sublist.append_left (List.sublist_append_right _ _) _
theorem Wd.sg {w0 W : World} (ss : List Blks) (bt : Blks) (m ot : List OwnA) (ss' : List Blks) (m' : List OwnA) (h : Wd w0 W (flatT ss bt) (m ++ ot)) (is ir js : List Nat) (hp : permB (is ++ ir) ss.length = true) (hs : (is.map fun i => ss.getD i []) = ss') (hj : js.Nodup) (ho : js.map (fun i => m[i]?) = m'.map some) : Wd w0 W (flatT ss' bt) (m' ++ ot) := Wd.segs ss' m' h is ir js hp hs hj ho
theorem Wd.si {w0 W : World} (ss : List Blks) (bt : Blks) (m ot : List OwnA) (h : Wd w0 W (flatT ss bt) (m ++ ot)) (is ir js : List Nat) (hp : permB (is ++ ir) ss.length = true) (hs : (is.map fun i => ss.getD i []) = ss) (hj : js.Nodup) (ho : js.map (fun i => m[i]?) = m.map some) : Wd w0 W (flatT ss bt) (m ++ ot) := Wd.segs ss m h is ir js hp hs hj ho
theorem Wd.joinHead {N P r : Blks} {os : List OwnA} (h : Wd w0 W (N ++ (P ++ r)) os) : Wd w0 W ((N ++ P) ++ r) os := by rw [List.append_assoc]; exact h
def RowSeg (q : OwnA) (U : Blks) : Prop := (q.v = .slice none 0 0 ∧ q.n = 0 ∧ q.cs = [] ∧ U = []) ∨ ∃ g o, RowO q.e q.sz q.v q.n q.cs g o ∧ U = [(g, o)]
theorem Wd.rowFold {bs : Blks} {q : OwnA} (h : Wd w0 W bs (q :: os)) : ∃ U, RowSeg q U ∧ Wd w0 W (U ++ bs) os := by
 obtain ⟨e, sz, v, n, cs⟩ := q
 rcases h.ofRow with ⟨h1, h2, h3, h4⟩ | ⟨g, o, h1, h2⟩
 ·exact ⟨[], .inl ⟨h1, h2, h3, rfl⟩, h4⟩
 ·exact ⟨[(g, o)], .inr ⟨g, o, h1, rfl⟩, h2⟩
theorem Wd.rowUnfold {bs U : Blks} {q : OwnA} (h : Wd w0 W (U ++ bs) os) (hr : RowSeg q U) : Wd w0 W bs (q :: os) := by
 obtain ⟨e, sz, v, n, cs⟩ := q
 rcases hr with ⟨h1, h2, h3, rfl⟩ | ⟨g, o, h1, rfl⟩
 ·simp only at h1 h2 h3
  subst h1 h2 h3
  exact h.nilo e sz
 ·exact h.toRow h1
def RdF (w0 : World) (F : Blks) (sz : Nat) (v : Value) (n : Nat) (cs : List Value) : Prop := ∀ (W : World) (bs : Blks) (os : List OwnA), Wd w0 W bs os → (∀ p ∈ F, p ∈ bs) → Rd sz W v n cs
theorem RdF.old {F : Blks} {sz n : Nat} {v : Value} {cs : List Value} (h : Rd sz w0 v n cs) : RdF w0 F sz v n cs := fun W bs os h1 _ => h1.rd0 h
theorem RdF.rd {F bs : Blks} {sz n : Nat} {v : Value} {cs : List Value} (h : RdF w0 F sz v n cs) (HW : Wd w0 W bs os) (hs : ∀ p ∈ F, p ∈ bs) : Rd sz W v n cs := h W bs os HW hs
theorem RdF.own {F U : Blks} {q : OwnA} (h : RowSeg q U) : RdF w0 (U ++ F) q.sz q.v q.n q.cs := by
 intro W bs os HW hs
 rcases h with ⟨h1, h2, h3, rfl⟩ | ⟨g, o, ⟨hl, cap, cur, fz, hv, ho, hz, hn, hm, hc, ht⟩, rfl⟩
 ·exact ⟨by rw [h3, h2]; simp, .inl ⟨h1, h2⟩⟩
 ·have hb := (Wd.iff.mp HW).2.1 (g, o) (hs _ List.mem_cons_self)
  refine ⟨hl, .inr ⟨g, 0, cap, hv, hn, fun j u hu => ?_⟩⟩
  rw [Nat.zero_add, cell_of_row W g j cur q.e fz (by rw [← ho]; exact hb.2)]
  rw [← ht, List.getElem?_take] at hu
  split at hu
  ·rw [← Array.getElem?_toList]; exact hu
  ·cases hu
theorem mem_flat {ss : List Blks} {F : Blks} (i : Nat) (h : ss[i]? = some F) : ∀ p ∈ F, p ∈ flatT ss bt := by
 intro p hp
 rw [flatT_eq]
 exact List.mem_append_left _ (List.mem_flatten.mpr ⟨F, List.mem_of_getElem? h, hp⟩)
def OptAt {T : Type} (At : Nat → T → Blks → Prop) (r : Option T) (v : Value) (U : Blks) : Prop := match r with
 | none => v = .pointer none ∧ U = []
 | some x => ∃ p, v = .pointer (some ⟨p, 0, none⟩) ∧ At p x U
end
end Go.Proofs.YtokdiacjcbolfaaDoor.X
namespace Go.Proofs.YtokdiacjcbolfaaDoor.X
open Go Go.RowKit
set_option linter.unusedVariables false
set_option linter.unusedSimpArgs false
section
variable {b off : Nat} {x y : Int} {W : World}
theorem atom_load (hc : W.cell? ⟨b, off, none⟩ = some (.int .i64 x)) : Calls Tryd.prog 45 #[.pointer (some ⟨b, off, none⟩)] W (fun e W' => e = .returned (.int .i64 x) ∧ W' = W) := by
 refine q17 (n := 7) (l := [(0, .pointer (some ⟨b, off, none⟩))]) Tryd.func45 rfl rfl (Nat.le_of_ble_eq_true KR) (q07 rfl (q0q _)) ?_
 intro a ha
 refine wp_seq_k (fun K hK => ?_)
 refine wp_region_lit ?_
 refine stepp ha 2 (.int .i64 0) KR KR ?_; clear ha a; intro a ha
 refine endl ?_
 refine thenN (hK _ _ ?_); clear hK
 refine wp_seq_k (fun K hK => ?_)
 refine wp_region_lit ?_
 refine stepp ha 3 (.pointer (some ⟨b, off, none⟩)) KR KR ?_; clear ha a; intro a ha
 refine stepp ha 4 (.pointer (some ⟨b, off, none⟩)) KR KR ?_; clear ha a; intro a ha
 refine stepp ha 5 (.pointer (some ⟨b, off, none⟩)) KR KR ?_; clear ha a; intro a ha
 refine stepv (W' := W) ha 6 (.int .i64 x) KR ?_ ?_
 ·refine Eq.trans (b := (callFunc 59 #[.pointer (some ⟨b, off, none⟩)]).run Tryd.prog W) (by kernel_rfl) ?_
  exact run_call_load (P := Tryd.prog) (f := 59) (fn := Tryd.f59) (by kernel_rfl) (by kernel_rfl) (by kernel_rfl) (by kernel_rfl) .i64 (by kernel_rfl) hc
 clear ha a; intro a ha
 refine stepp ha 2 (.int .i64 x) KR KR ?_; clear ha a; intro a ha
 refine endl ?_
 refine thenN (hK _ _ ?_); clear hK
 refine wp_ret ?_
 exact finv ha _ _ rfl (.tmp (v := .int .i64 x) KR .nil) (.int .i64 x) rfl ⟨rfl, rfl⟩
theorem atom_store {u : Value} (hc : W.cell? ⟨b, off, none⟩ = some u) (hz : W.frozen? ⟨b, off, none⟩ = false) : Calls Tryd.prog 31 #[.pointer (some ⟨b, off, none⟩), .int .i64 y] W (fun e W' => e = .returned (.tuple #[]) ∧ W' = W.setCell ⟨b, off, none⟩ (.int .i64 y)) := by
 refine q17 (n := 9) (l := [(0, .pointer (some ⟨b, off, none⟩)), (1, .int .i64 y)]) Tryd.func31 rfl rfl (Nat.le_of_ble_eq_true KR) (q07 rfl (q07 rfl (q0q _))) ?_
 intro a ha
 refine wp_region_lit ?_
 refine stepp ha 4 (.pointer (some ⟨b, off, none⟩)) KR KR ?_; clear ha a; intro a ha
 refine stepp ha 5 (.pointer (some ⟨b, off, none⟩)) KR KR ?_; clear ha a; intro a ha
 refine stepp ha 6 (.pointer (some ⟨b, off, none⟩)) KR KR ?_; clear ha a; intro a ha
 refine stepp ha 7 (.int .i64 y) KR KR ?_; clear ha a; intro a ha
 refine stepv (W' := W.setCell ⟨b, off, none⟩ (.int .i64 y)) ha 8 (.tuple #[]) KR ?_ ?_
 ·refine Eq.trans (b := (callFunc 50 #[.pointer (some ⟨b, off, none⟩), .int .i64 y]).run Tryd.prog W) (by kernel_rfl) ?_
  exact run_call_store (P := Tryd.prog) (f := 50) (fn := Tryd.f50) (by kernel_rfl) (by kernel_rfl) (by kernel_rfl) (by kernel_rfl) (by kernel_rfl) hc hz
 clear ha a; intro a ha
 refine endl ?_
 exact finn ha [] [] rfl .nil (.tuple #[]) rfl ⟨rfl, rfl⟩
theorem atom_add (hc : W.cell? ⟨b, off, none⟩ = some (.int .i64 x)) (hz : W.frozen? ⟨b, off, none⟩ = false) : Calls Tryd.prog 53 #[.pointer (some ⟨b, off, none⟩), .int .i64 y] W (fun e W' => e = .returned (.int .i64 (IntKind.wrap .i64 (x + y))) ∧ W' = W.setCell ⟨b, off, none⟩ (.int .i64 (IntKind.wrap .i64 (x + y)))) := by
 refine q17 (n := 10) (l := [(0, .pointer (some ⟨b, off, none⟩)), (1, .int .i64 y)]) Tryd.func53 rfl rfl (Nat.le_of_ble_eq_true KR) (q07 rfl (q07 rfl (q0q _))) ?_
 intro a ha
 refine wp_seq_k (fun K hK => ?_)
 refine wp_region_lit ?_
 refine stepp ha 4 (.int .i64 0) KR KR ?_; clear ha a; intro a ha
 refine endl ?_
 refine thenN (hK _ _ ?_); clear hK
 refine wp_seq_k (fun K hK => ?_)
 refine wp_region_lit ?_
 refine stepp ha 5 (.pointer (some ⟨b, off, none⟩)) KR KR ?_; clear ha a; intro a ha
 refine stepp ha 6 (.pointer (some ⟨b, off, none⟩)) KR KR ?_; clear ha a; intro a ha
 refine stepp ha 7 (.pointer (some ⟨b, off, none⟩)) KR KR ?_; clear ha a; intro a ha
 refine stepp ha 8 (.int .i64 y) KR KR ?_; clear ha a; intro a ha
 refine stepv (W' := W.setCell ⟨b, off, none⟩ (.int .i64 (IntKind.wrap .i64 (x + y)))) ha 9 (.int .i64 (IntKind.wrap .i64 (x + y))) KR ?_ ?_
 ·refine Eq.trans (b := (callFunc 67 #[.pointer (some ⟨b, off, none⟩), .int .i64 y]).run Tryd.prog W) (by kernel_rfl) ?_
  exact run_call_add (P := Tryd.prog) (f := 67) (fn := Tryd.f67) (by kernel_rfl) (by kernel_rfl) (by kernel_rfl) (by kernel_rfl) .i64 (by kernel_rfl) hc hz (by kernel_rfl)
 clear ha a; intro a ha
 refine stepp ha 4 (.int .i64 (IntKind.wrap .i64 (x + y))) KR KR ?_; clear ha a; intro a ha
 refine endl ?_
 refine thenN (hK _ _ ?_); clear hK
 refine wp_ret ?_
 exact finv ha _ _ rfl (.tmp (v := .int .i64 (IntKind.wrap .i64 (x + y))) KR .nil) (.int .i64 (IntKind.wrap .i64 (x + y))) rfl ⟨rfl, rfl⟩
end
section
variable {w0 W : World} {bs : Blks} {os : List OwnA} {i b : Nat} {C : Array Value} {T : Nat}
theorem Wd.cellAt (h : Wd w0 W bs os) (hi : bs[i]? = some (b, .cells C T (0, 0))) (off : Nat) {v : Value} (hv : C[off]? = some v) : W.cell? ⟨b, off, none⟩ = some v := by
 have := h.ca hi off v hv
 rwa [Nat.zero_add] at this
theorem Wd.notFrozen (h : Wd w0 W bs os) (hi : bs[i]? = some (b, .cells C T (0, 0))) (off : Nat) : W.frozen? ⟨b, off, none⟩ = false := by
 have := (h.blk i _ hi).2
 simp [World.frozen?, this]
theorem Wd.setAt (h : Wd w0 W bs os) (hi : bs[i]? = some (b, .cells C T (0, 0))) (off : Nat) (v : Value) {C' : Array Value} (hC : C.setIfInBounds off v = C') : Wd w0 (W.setCell ⟨b, off, none⟩ v) (bs.set i (b, .cells C' T (0, 0))) os := by
 have hb := (h.blk i _ hi).2
 rw [setCell_eq_setRow W b off C T (0, 0) v hb, hC]
 exact h.turnb hi (setRow_heap W b C C' T (0, 0) hb) (q3s W b C')
end
end Go.Proofs.YtokdiacjcbolfaaDoor.X
namespace Go.Proofs.YtokdiacjcbolfaaDoor.F
open Go Go.RowKit Go.Proofs.YtokdiacjcbolfaaDoor.X
set_option linter.unusedVariables false
set_option linter.unusedSimpArgs false
structure q01 where
 f0 : Int
 f1 : ByteArray
def q01.z : q01 := ⟨0, ⟨#[]⟩⟩
def q01.enc (x : q01) : List Value := [.int .i64 x.f0, .string x.f1]
structure q01.ok (x : q01) : Prop where
 f0 : (-9223372036854775808) ≤ x.f0 ∧ x.f0 ≤ 9223372036854775807
 f1 : x.f1.size ≤ 140737488351232
structure q03 where
 f0 : Unit
 f1 : Unit
 f2 : Int
structure q03.ok (x : q03) : Prop where
 f0 : True
 f1 : True
 f2 : (-9223372036854775808) ≤ x.f2 ∧ x.f2 ≤ 9223372036854775807
structure q04 where
 f0 : List ByteArray
 f1 : List ByteArray
 f2 : List q01
 f3 : q03
 f4 : Bool
 f5 : Int
 f6 : Bool
structure q04.ok (x : q04) : Prop where
 f0 : x.f0.length * 16 ≤ 140737488351232 ∧ ∀ y ∈ x.f0, y.size ≤ 140737488351232
 f1 : x.f1.length * 16 ≤ 140737488351232 ∧ ∀ y ∈ x.f1, y.size ≤ 140737488351232
 f2 : x.f2.length * 24 ≤ 140737488351232 ∧ ∀ y ∈ x.f2, y.ok
 f3 : x.f3.ok
 f4 : True
 f5 : (-9223372036854775808) ≤ x.f5 ∧ x.f5 ≤ 9223372036854775807
 f6 : True
def q04.At (p : Nat) (x : q04) (U : Blks) : Prop := ∃ (A0 : Option Addr) (c0 : Nat) (A1 : Option Addr) (c1 : Nat) (A2 : Option Addr) (c2 : Nat) (R0 : Blks) (R1 : Blks) (R2 : Blks), RowSeg ⟨9, 1, .slice A0 x.f0.length c0, x.f0.length, encs encS x.f0⟩ R0 ∧ RowSeg ⟨9, 1, .slice A1 x.f1.length c1, x.f1.length, encs encS x.f1⟩ R1 ∧ RowSeg ⟨62, 2, .slice A2 x.f2.length c2, x.f2.length, encs q01.enc x.f2⟩ R2 ∧ U = (p, .cells #[.slice A0 x.f0.length c0, .slice A1 x.f1.length c1, .slice A2 x.f2.length c2, .int .i64 x.f3.f2, .bool x.f4, .int .i64 x.f5, .bool x.f6] 53 (0, 0)) :: (R0 ++ (R1 ++ (R2 ++ ([]))))
theorem q04.unfold {w0 W : World} {bs U : Blks} {os : List OwnA} {p : Nat} {x : q04} (h : q04.At p  x U) (HW : Wd w0 W (U ++ bs) os) : ∃ (A0 : Option Addr) (c0 : Nat) (A1 : Option Addr) (c1 : Nat) (A2 : Option Addr) (c2 : Nat), Wd w0 W ((p, .cells #[.slice A0 x.f0.length c0, .slice A1 x.f1.length c1, .slice A2 x.f2.length c2, .int .i64 x.f3.f2, .bool x.f4, .int .i64 x.f5, .bool x.f6] 53 (0, 0)) :: bs) (⟨9, 1, .slice A0 x.f0.length c0, x.f0.length, encs encS x.f0⟩ :: ⟨9, 1, .slice A1 x.f1.length c1, x.f1.length, encs encS x.f1⟩ :: ⟨62, 2, .slice A2 x.f2.length c2, x.f2.length, encs q01.enc x.f2⟩ :: os) := by
 obtain ⟨A0, c0, A1, c1, A2, c2, R0, R1, R2, h0, h1, h2, rfl⟩ := h
 simp only [List.cons_append, List.append_assoc, List.nil_append] at HW
 have H := Wd.sg [[(p, .cells #[.slice A0 x.f0.length c0, .slice A1 x.f1.length c1, .slice A2 x.f2.length c2, .int .i64 x.f3.f2, .bool x.f4, .int .i64 x.f5, .bool x.f6] 53 (0, 0))], R0, R1, R2] bs [] os [R2, R1, R0, [(p, .cells #[.slice A0 x.f0.length c0, .slice A1 x.f1.length c1, .slice A2 x.f2.length c2, .int .i64 x.f3.f2, .bool x.f4, .int .i64 x.f5, .bool x.f6] 53 (0, 0))]] [] HW [3, 2, 1, 0] [] [] KR KR (by decide) KR
 exact ⟨A0, c0, A1, c1, A2, c2, (Wd.rowUnfold (Wd.rowUnfold (Wd.rowUnfold H h2) h1) h0)⟩
theorem q04.fold {w0 W : World} {bs : Blks} {os : List OwnA} {p : Nat} {x : q04} {A0 : Option Addr} {c0 : Nat} {A1 : Option Addr} {c1 : Nat} {A2 : Option Addr} {c2 : Nat} (h : Wd w0 W ((p, .cells #[.slice A0 x.f0.length c0, .slice A1 x.f1.length c1, .slice A2 x.f2.length c2, .int .i64 x.f3.f2, .bool x.f4, .int .i64 x.f5, .bool x.f6] 53 (0, 0)) :: bs) (⟨9, 1, .slice A0 x.f0.length c0, x.f0.length, encs encS x.f0⟩ :: ⟨9, 1, .slice A1 x.f1.length c1, x.f1.length, encs encS x.f1⟩ :: ⟨62, 2, .slice A2 x.f2.length c2, x.f2.length, encs q01.enc x.f2⟩ :: os)) : ∃ U, q04.At p  x U ∧ Wd w0 W (U ++ bs) os := by
 obtain ⟨R0, h0, H0⟩ := Wd.rowFold h
 obtain ⟨R1, h1, H1⟩ := Wd.rowFold H0
 obtain ⟨R2, h2, H2⟩ := Wd.rowFold H1
 have H := Wd.sg [R2, R1, R0, [(p, .cells #[.slice A0 x.f0.length c0, .slice A1 x.f1.length c1, .slice A2 x.f2.length c2, .int .i64 x.f3.f2, .bool x.f4, .int .i64 x.f5, .bool x.f6] 53 (0, 0))]] bs [] os [[(p, .cells #[.slice A0 x.f0.length c0, .slice A1 x.f1.length c1, .slice A2 x.f2.length c2, .int .i64 x.f3.f2, .bool x.f4, .int .i64 x.f5, .bool x.f6] 53 (0, 0))], R0, R1, R2] [] H2 [3, 2, 1, 0] [] [] KR KR (by decide) KR
 refine ⟨_, ⟨A0, c0, A1, c1, A2, c2, R0, R1, R2, h0, h1, h2, rfl⟩, ?_⟩
 simp only [List.cons_append, List.append_assoc, List.nil_append]
 exact H
structure q00 where
 f0 : Unit
 f1 : Int
 f2 : Int
 f3 : Int
 f4 : q03
 f5 : ByteArray
 f6 : List ByteArray
 f7 : Int
 f8 : Bool
 f9 : Bool
structure q00.ok (x : q00) : Prop where
 f0 : True
 f1 : (-9223372036854775808) ≤ x.f1 ∧ x.f1 ≤ 9223372036854775807
 f2 : (-9223372036854775808) ≤ x.f2 ∧ x.f2 ≤ 9223372036854775807
 f3 : (-9223372036854775808) ≤ x.f3 ∧ x.f3 ≤ 9223372036854775807
 f4 : x.f4.ok
 f5 : x.f5.size ≤ 140737488351232
 f6 : x.f6.length * 16 ≤ 140737488351232 ∧ ∀ y ∈ x.f6, y.size ≤ 140737488351232
 f7 : (-9223372036854775808) ≤ x.f7 ∧ x.f7 ≤ 9223372036854775807
 f8 : True
 f9 : True
def q00.At (p : Nat) (d0 : Nat) (x : q00) (U : Blks) : Prop := ∃ (A0 : Option Addr) (c0 : Nat) (R0 : Blks), RowSeg ⟨9, 1, .slice A0 x.f6.length c0, x.f6.length, encs encS x.f6⟩ R0 ∧ U = (p, .cells #[.pointer (some ⟨d0, 0, none⟩), .int .i64 x.f1, .int .i64 x.f2, .int .i64 x.f3, .int .i64 x.f4.f2, .string x.f5, .slice A0 x.f6.length c0, .int .i64 x.f7, .bool x.f8, .bool x.f9] 57 (0, 0)) :: (R0 ++ ([]))
theorem q00.unfold {w0 W : World} {bs U : Blks} {os : List OwnA} {p : Nat} {d0 : Nat} {x : q00} (h : q00.At p d0 x U) (HW : Wd w0 W (U ++ bs) os) : ∃ (A0 : Option Addr) (c0 : Nat), Wd w0 W ((p, .cells #[.pointer (some ⟨d0, 0, none⟩), .int .i64 x.f1, .int .i64 x.f2, .int .i64 x.f3, .int .i64 x.f4.f2, .string x.f5, .slice A0 x.f6.length c0, .int .i64 x.f7, .bool x.f8, .bool x.f9] 57 (0, 0)) :: bs) (⟨9, 1, .slice A0 x.f6.length c0, x.f6.length, encs encS x.f6⟩ :: os) := by
 obtain ⟨A0, c0, R0, h0, rfl⟩ := h
 simp only [List.cons_append, List.append_assoc, List.nil_append] at HW
 have H := Wd.sg [[(p, .cells #[.pointer (some ⟨d0, 0, none⟩), .int .i64 x.f1, .int .i64 x.f2, .int .i64 x.f3, .int .i64 x.f4.f2, .string x.f5, .slice A0 x.f6.length c0, .int .i64 x.f7, .bool x.f8, .bool x.f9] 57 (0, 0))], R0] bs [] os [R0, [(p, .cells #[.pointer (some ⟨d0, 0, none⟩), .int .i64 x.f1, .int .i64 x.f2, .int .i64 x.f3, .int .i64 x.f4.f2, .string x.f5, .slice A0 x.f6.length c0, .int .i64 x.f7, .bool x.f8, .bool x.f9] 57 (0, 0))]] [] HW [1, 0] [] [] KR KR (by decide) KR
 exact ⟨A0, c0, (Wd.rowUnfold H h0)⟩
theorem q00.fold {w0 W : World} {bs : Blks} {os : List OwnA} {p : Nat} {d0 : Nat} {x : q00} {A0 : Option Addr} {c0 : Nat} (h : Wd w0 W ((p, .cells #[.pointer (some ⟨d0, 0, none⟩), .int .i64 x.f1, .int .i64 x.f2, .int .i64 x.f3, .int .i64 x.f4.f2, .string x.f5, .slice A0 x.f6.length c0, .int .i64 x.f7, .bool x.f8, .bool x.f9] 57 (0, 0)) :: bs) (⟨9, 1, .slice A0 x.f6.length c0, x.f6.length, encs encS x.f6⟩ :: os)) : ∃ U, q00.At p d0 x U ∧ Wd w0 W (U ++ bs) os := by
 obtain ⟨R0, h0, H0⟩ := Wd.rowFold h
 have H := Wd.sg [R0, [(p, .cells #[.pointer (some ⟨d0, 0, none⟩), .int .i64 x.f1, .int .i64 x.f2, .int .i64 x.f3, .int .i64 x.f4.f2, .string x.f5, .slice A0 x.f6.length c0, .int .i64 x.f7, .bool x.f8, .bool x.f9] 57 (0, 0))]] bs [] os [[(p, .cells #[.pointer (some ⟨d0, 0, none⟩), .int .i64 x.f1, .int .i64 x.f2, .int .i64 x.f3, .int .i64 x.f4.f2, .string x.f5, .slice A0 x.f6.length c0, .int .i64 x.f7, .bool x.f8, .bool x.f9] 57 (0, 0))], R0] [] H0 [1, 0] [] [] KR KR (by decide) KR
 refine ⟨_, ⟨A0, c0, R0, h0, rfl⟩, ?_⟩
 simp only [List.cons_append, List.append_assoc, List.nil_append]
 exact H
structure q1k where
 f0 : Int
 f1 : Int
def q1k.enc (x : q1k) : List Value := [.int .u8 x.f0, .int .u8 x.f1]
structure q1k.ok (x : q1k) : Prop where
 f0 : 0 ≤ x.f0 ∧ x.f0 ≤ 255
 f1 : 0 ≤ x.f1 ∧ x.f1 ≤ 255
def q0h : List Int := [0, 274646895, 549293790, 820201905, 1098587580, 1361435347, 1640403810, 1905808397, 2197175160, 2460548119, 2722870694, 2987750089, 3280807620, 3553878443, 3811616794, 4084100981]
def G_utf8_first : List Int := [240, 240, 240, 240, 240, 240, 240, 240, 240, 240, 240, 240, 240, 240, 240, 240, 240, 240, 240, 240, 240, 240, 240, 240, 240, 240, 240, 240, 240, 240, 240, 240, 240, 240, 240, 240, 240, 240, 240, 240, 240, 240, 240, 240, 240, 240, 240, 240, 240, 240, 240, 240, 240, 240, 240, 240, 240, 240, 240, 240, 240, 240, 240, 240, 240, 240, 240, 240, 240, 240, 240, 240, 240, 240, 240, 240, 240, 240, 240, 240, 240, 240, 240, 240, 240, 240, 240, 240, 240, 240, 240, 240, 240, 240, 240, 240, 240, 240, 240, 240, 240, 240, 240, 240, 240, 240, 240, 240, 240, 240, 240, 240, 240, 240, 240, 240, 240, 240, 240, 240, 240, 240, 240, 240, 240, 240, 240, 240, 241, 241, 241, 241, 241, 241, 241, 241, 241, 241, 241, 241, 241, 241, 241, 241, 241, 241, 241, 241, 241, 241, 241, 241, 241, 241, 241, 241, 241, 241, 241, 241, 241, 241, 241, 241, 241, 241, 241, 241, 241, 241, 241, 241, 241, 241, 241, 241, 241, 241, 241, 241, 241, 241, 241, 241, 241, 241, 241, 241, 241, 241, 241, 241, 241, 241, 2, 2, 2, 2, 2, 2, 2, 2, 2, 2, 2, 2, 2, 2, 2, 2, 2, 2, 2, 2, 2, 2, 2, 2, 2, 2, 2, 2, 2, 2, 19, 3, 3, 3, 3, 3, 3, 3, 3, 3, 3, 3, 3, 35, 3, 3, 52, 4, 4, 4, 68, 241, 241, 241, 241, 241, 241, 241, 241, 241, 241, 241]
def G_utf8_acceptRanges : List q1k := [⟨128, 191⟩, ⟨160, 191⟩, ⟨128, 159⟩, ⟨144, 191⟩, ⟨128, 143⟩, ⟨0, 0⟩, ⟨0, 0⟩, ⟨0, 0⟩, ⟨0, 0⟩, ⟨0, 0⟩, ⟨0, 0⟩, ⟨0, 0⟩, ⟨0, 0⟩, ⟨0, 0⟩, ⟨0, 0⟩, ⟨0, 0⟩]
abbrev rw0 (A : Option Addr) (x : List ByteArray) (c : Nat) : OwnA := ⟨9, 1, .slice A x.length c, x.length, encs encS x⟩
abbrev rw1 (A : Option Addr) (x : List q01) (c : Nat) : OwnA := ⟨62, 2, .slice A x.length c, x.length, encs q01.enc x⟩
abbrev rw2 (A : Option Addr) (x : List Int) (c : Nat) : OwnA := ⟨3, 1, .slice A x.length c, x.length, encs (encIK .i64) x⟩
abbrev rw3 (A : Option Addr) (x : List Int) (c : Nat) : OwnA := ⟨5, 1, .slice A x.length c, x.length, encs (encIK .u8) x⟩
abbrev ptr (b : Nat) : Value := .pointer (some ⟨b, 0, none⟩)
abbrev ar0 (A0 : Option Addr) (l0 c0 : Nat) (A1 : Option Addr) (l1 c1 : Nat) (A2 : Option Addr) (l2 c2 : Nat) (b3 : Int) (b4 : Bool) (b5 : Int) (b6 : Bool) : Array Value := #[.slice A0 l0 c0, .slice A1 l1 c1, .slice A2 l2 c2, .int .i64 b3, .bool b4, .int .i64 b5, .bool b6]
abbrev ar1 (b0 : Nat) (b1 : Int) (b2 : Int) (b3 : Int) (b4 : Int) (b5 : ByteArray) (A6 : Option Addr) (l6 c6 : Nat) (b7 : Int) (b8 : Bool) (b9 : Bool) : Array Value := #[ptr b0, .int .i64 b1, .int .i64 b2, .int .i64 b3, .int .i64 b4, .string b5, .slice A6 l6 c6, .int .i64 b7, .bool b8, .bool b9]
end Go.Proofs.YtokdiacjcbolfaaDoor.F
namespace Go.Proofs.YtokdiacjcbolfaaDoor.X
open Go Go.RowKit
section
variable {P : Program} {n : Nat} {l : List (Nat × Value)} {a : Act} {ops : Array Oper} {o : Oper} {rest : List Oper} {Q : Exit → Act → World → Prop} {W : World}
theorem stepcP (ha : Has n l a) (d : Nat) {f : FuncId} {args : Array Value} {R : Ending → World → Prop} (hok : okB n l ops o d = true) (hx : (execOp (ev l) o).run P W = .ok (.enter f args) W)
  (hc : Calls P f args W R) (h : ∀ e W', R e W' → (∃ v, e = .returned v ∧ ∀ a', Has n ((d, v) :: l) a' → wpList P ops Q rest a' W') ∨ (∃ c, e = .panicked c ∧ Q (.panic c) a W')) : wpList P ops Q (o :: rest) a W := by
 obtain ⟨h1, h2, h3, h4⟩ := okB_spec hok
 unfold wpList
 rw [if_pos (ha.on ops o h2)]
 refine .inl ?_
 unfold Oper.wp
 rw [exec_eq ha o h1, hx, Oper.upon_enter]
 refine hc.mono fun e W1 hR => ?_
 rcases h e W1 hR with ⟨v, rfl, hv⟩ | ⟨c, rfl, hq⟩
 ·show wpList P ops Q rest (a.put o.dst v) W1
  rw [h4]
  exact hv _ (ha.put h3 v)
 ·exact hq
theorem stepcP0 (ha : Has n l a) {f : FuncId} {args : Array Value} {R : Ending → World → Prop} (hok : okS l ops o = true) (hx : (execOp (ev l) o).run P W = .ok (.enter f args) W)
  (hc : Calls P f args W R) (h : ∀ e W', R e W' → (∃ v, e = .returned v ∧ ∀ a', Has n l a' → wpList P ops Q rest a' W') ∨ (∃ c, e = .panicked c ∧ Q (.panic c) a W')) : wpList P ops Q (o :: rest) a W := by
 simp only [okS, Bool.and_eq_true, Option.isNone_iff_eq_none] at hok
 obtain ⟨⟨h1, h2⟩, h3⟩ := hok
 unfold wpList
 rw [if_pos (ha.on ops o h2)]
 refine .inl ?_
 unfold Oper.wp
 rw [exec_eq ha o h1, hx, Oper.upon_enter]
 refine hc.mono fun e W1 hR => ?_
 rcases h e W1 hR with ⟨v, rfl, hv⟩ | ⟨c, rfl, hq⟩
 ·show wpList P ops Q rest (a.put o.dst v) W1
  rw [h3]
  exact hv _ ha
 ·exact hq
theorem steppan (ha : Has n l a) (v : Value) (hok : okS l ops o = true) (hx : (execOp (ev l) o).run P W = .halt (.panic v) W) (h : Q (.panic [{ v := v, recovered := false }]) a W) : wpList P ops Q (o :: rest) a W := by
 simp only [okS, Bool.and_eq_true, Option.isNone_iff_eq_none] at hok
 obtain ⟨⟨h1, h2⟩, h3⟩ := hok
 unfold wpList
 rw [if_pos (ha.on ops o h2)]
 refine .inl ?_
 unfold Oper.wp
 rw [exec_eq ha o h1, hx]
 exact h
end
end Go.Proofs.YtokdiacjcbolfaaDoor.X
namespace Go.Proofs.YtokdiacjcbolfaaDoor.X
open Go Go.RowKit
def waitsT (ops : Array Oper) : Nat → Oper → Nat → Bool
 | 0, o, i => waits o i
 | f + 1, o, i => waits o i || (List.range ops.size).any fun k => waits o k && (match ops[k]? with
  | some ok => waitsT ops f ok i
  | none => false)
theorem q2x {ops : Array Oper} {listed : Array Bool} (h9 : ∀ (j : Nat) (o : Oper), ops[j]? = some o → listed.getD j true = true → ∀ m, m < ops.size → waits o m = true → listed.getD m true = true) :
  ∀ (f : Nat) (o : Oper) (i : Nat), i < ops.size → (∀ m, m < ops.size → waits o m = true → listed.getD m true = true) → waitsT ops f o i = true → listed.getD i true = true
 | 0, o, i, hi, hw, h => hw i hi h
 | f + 1, o, i, hi, hw, h => by
  unfold waitsT at h
  rcases Bool.or_eq_true_iff.mp h with h | h
  ·exact hw i hi h
  ·obtain ⟨k, hk, hb⟩ := List.any_eq_true.mp h
   have hk' := List.mem_range.mp hk
   simp only [Bool.and_eq_true] at hb
   obtain ⟨hb1, hb2⟩ := hb
   split at hb2
   ·rename_i ok hok
    exact q2x h9 f ok i hi (h9 k ok hok (hw k hk' hb1)) hb2
   ·cases hb2
theorem waitsT_lt {ops : Array Oper} (hchk : chkB ops = true) : ∀ (f j : Nat) (o : Oper) (i : Nat), ops[j]? = some o → waitsT ops f o i = true → i < j := by
 have one : ∀ (j : Nat) (o : Oper) (i : Nat), ops[j]? = some o → waits o i = true → i < j := by
  intro j o i ho h
  unfold waits at h
  obtain ⟨e, he, hb⟩ := Array.any_eq_true'.mp h
  simp only [Bool.and_eq_true] at hb
  have := (q1q hchk ho).1 e he hb.1
  rw [Nat.eq_of_beq_eq_true hb.2] at this
  exact this
 intro f
 induction f with
 | zero => exact fun j o i ho h => one j o i ho h
 | succ f ih =>
  intro j o i ho h
  unfold waitsT at h
  rcases Bool.or_eq_true_iff.mp h with h | h
  ·exact one j o i ho h
  ·obtain ⟨k, _, hb⟩ := List.any_eq_true.mp h
   simp only [Bool.and_eq_true] at hb
   obtain ⟨hb1, hb2⟩ := hb
   split at hb2
   ·rename_i ok hok
    have h1 := one j o k ho hb1
    have h2 := ih k ok i hok hb2
    omega
   ·cases hb2
def chkT (m : Nat) (ops : Array Oper) : Bool := (List.range ops.size).all fun j => Nat.blt j m || (match ops[j]? with
 | none => true
 | some o => (List.range j).all fun i => waitsT ops 8 o i)
theorem chkT_spec {m : Nat} {ops : Array Oper} (h : chkT m ops = true) {j : Nat} {o : Oper} (hj : ops[j]? = some o) (hm : m ≤ j) : ∀ i, i < j → waitsT ops 8 o i = true := by
 have hlt : j < ops.size := (Array.getElem?_eq_some_iff.1 hj).1
 have h1 := List.all_eq_true.mp h j (List.mem_range.mpr hlt)
 simp only [hj, Bool.or_eq_true] at h1
 rcases h1 with h1 | h1
 ·have := Nat.le_of_ble_eq_true h1; omega
 ·intro i hi
  exact List.all_eq_true.mp h1 i (List.mem_range.mpr hi)
section
variable {P : Program} {n : Nat} {l : List (Nat × Value)} {F : Nat → Value → World → Prop} {ops : Array Oper} {w0 W : World} {bs : List (Nat × Obj)} {os : List OwnA} {a : Act} {Q : Exit → Act → World → Prop}
theorem tailT (hchk : chkB ops = true) {m : Nat} (hS : chkT m ops = true) : ∀ (r : Nat) (j : Nat) (listed : Array Bool) (a : Act) (w : World), m ≤ j → j + r = ops.size → listed.size = ops.size → (∀ i, i < j → listed.getD i true = true) → (∀ i, j ≤ i → i < ops.size → listed.getD i true = false) →
  wpList P ops Q (ops.toList.drop j) a w → wpAny P .any ops Q r listed a w := by
 intro r
 induction r with
 | zero =>
  intro j listed a w _ hr hs h1 h2 h
  have hj : j = ops.size := by omega
  subst hj
  rw [List.drop_of_length_le (by simp)] at h
  refine ⟨?_, h⟩
  unfold Region.ready
  refine List.filter_eq_nil_iff.mpr (fun k hk => ?_)
  rw [h1 k (List.mem_range.mp hk)]
  simp
 | succ r ih =>
  intro j listed a w hmj hr hs h1 h2 h
  have hj : j < ops.size := by omega
  obtain ⟨o, ho⟩ : ∃ o, ops[j]? = some o := ⟨ops[j], Array.getElem?_eq_some_iff.2 ⟨hj, rfl⟩⟩
  have hrd := ready_of hs ho hchk (h2 j (Nat.le_refl _) hj) h1
  refine ⟨fun hr' => absurd (hr' ▸ hrd) (by simp), fun i hi => ?_⟩
  have hi' := hi
  unfold Region.ready at hi'
  obtain ⟨hir, hic⟩ := List.mem_filter.mp hi'
  have hilt := List.mem_range.mp hir
  obtain ⟨oi, hoi⟩ : ∃ o, ops[i]? = some o := ⟨ops[i], Array.getElem?_eq_some_iff.2 ⟨hilt, rfl⟩⟩
  simp only [hoi, Option.map_some, Option.getD_some, Bool.and_eq_true] at hic
  obtain ⟨hib, hdeps⟩ := hic
  have hib' : listed.getD i true = false := by simpa using hib
  have hij : i = j := by
   rcases Nat.lt_trichotomy i j with hlt | heq | hgt
   ·rw [h1 i hlt] at hib'; cases hib'
   ·exact heq
   ·have hw := chkT_spec hS hoi (by omega) j hgt
    have := q2x (listed := listed) (fun q oq hoq hq k hk hwk => by
     have hkq : k < q := waitsT_lt hchk 0 q oq k hoq hwk
     have hqj : q < j := by
      rcases Nat.lt_or_ge q j with h | h
      ·exact h
      ·rw [h2 q h (Array.getElem?_eq_some_iff.1 hoq).1] at hq; cases hq
     exact h1 k (by omega)) 8 oi j hj (fun k _ hk => q1r hdeps k hk) hw
    rw [h2 j (Nat.le_refl _) hj] at this
    cases this
  subst hij
  have hdrop : ops.toList.drop i = oi :: ops.toList.drop (i + 1) := by
   rw [List.drop_eq_getElem_cons (by simpa using hilt)]
   congr 1
   have := (Array.getElem?_eq_some_iff.1 hoi).2
   simpa using this
  rw [hdrop] at h
  have hli : i < listed.size := by omega
  have hnext : ∀ a' w', wpList P ops Q (ops.toList.drop (i + 1)) a' w' → wpAny P .any ops Q r (listed.setIfInBounds i true) a' w' := fun a' w' hh =>
   ih (i + 1) _ a' w' (by omega) (by omega) (by simpa using hs) (fun k hk => by
    rw [q16 hli]
    split
    ·rfl
    ·exact h1 k (by omega)) (fun k hk hk2 => by
    rw [q16 hli, if_neg (by omega)]
    exact h2 k (by omega) hk2) hh
  unfold wpOp
  unfold wpList at h
  simp only [hoi]
  split
  ·rename_i hw
   rw [if_pos hw] at h
   rcases h with h | h
   ·exact .inl (Oper.wp_mono hnext h)
   ·exact .inr h
  ·rename_i hw
   rw [if_neg hw] at h
   exact hnext _ _ h
theorem regionFT {id : Nat} (m : Nat) (hmz : m ≤ ops.size) (hS : chkT m ops = true) (hm : P.follows .mixedOrders = true) (hchk : chkB ops = true) (ha : Has n l a) (HW : Wd w0 W bs os)
  (hop : ∀ (i : Nat) (o : Oper), i < m → ops[i]? = some o → OpOk P n l F ops w0 bs os i o)
  (hmono : ∀ (j : Nat) (v : Value) (w w' : World), Below w.heap.size w w' → F j v w → F j v w')
  (hdst : ∀ (i : Nat) (o : Oper) (d : Nat), ops[i]? = some o → o.dst = some d → d < n)
  (hend : ∀ (a : Act) (w : World), a.tmps.size = n → a.defers = [] → Wd w0 w bs os → (∀ s v, look l s = some v → (∀ (j : Nat) (o : Oper), j < m → ops[j]? = some o → o.dst ≠ some s) → a.tmps[s]? = some v) →
   (∀ (j : Nat) (o : Oper) (d : Nat), j < m → ops[j]? = some o → o.dst = some d → ∃ v, a.tmps[d]? = some v ∧ F j v w) → wpList P ops Q (ops.toList.drop m) a w) : (Code.region id ops true).wp P Q a W := by
 refine wp_region_any hm ?_
 have key : ∀ (fuel : Nat) (listed : Array Bool) (a : Act) (w : World), listed.size = ops.size → (∀ j, m ≤ j → j < ops.size → listed.getD j true = false) → ((List.range m).filter fun i => !listed.getD i true).length = fuel → Inv n l F ops w0 bs os listed a w → wpAny P .any ops Q (fuel + (ops.size - m)) listed a w := by
  intro fuel
  induction fuel with
  | zero =>
   intro listed a w hs hnb hc hI
   have hnil := List.eq_nil_of_length_eq_zero hc
   have hall : ∀ j, j < m → listed.getD j true = true := by
    intro j hj
    cases hb : listed.getD j true with
    | true => rfl
    | false =>
     have : j ∈ (List.range m).filter fun i => !listed.getD i true := List.mem_filter.mpr ⟨List.mem_range.mpr hj, by rw [hb]; rfl⟩
     rw [hnil] at this
     cases this
   obtain ⟨h1, h2, h3, h4, h5, _⟩ := hI
   rw [Nat.zero_add]
   refine tailT hchk hS (ops.size - m) m listed a w (Nat.le_refl _) (by omega) hs hall hnb ?_
   refine hend a w h1 h2 h3 (fun s v hv hno => h4 s v hv (fun j o hj hd => ?_)) (fun j o d hjm hj hd => h5 j o d hj hd (hall j hjm))
   by_cases hjm : j < m
   ·exact absurd hd (hno j o hjm hj)
   ·exact hnb j (by omega) (Array.getElem?_eq_some_iff.1 hj).1
  | succ fuel ih =>
   intro listed a w hs hnb hc hI
   have hmin : ∃ j, j < m ∧ listed.getD j true = false ∧ ∀ k, k < j → listed.getD k true = true := by
    have hex : ∃ j, j < m ∧ listed.getD j true = false := by
     cases hf : (List.range m).filter fun i => !listed.getD i true with
     | nil => rw [hf] at hc; cases hc
     | cons j r =>
      have : j ∈ (List.range m).filter fun i => !listed.getD i true := by rw [hf]; exact List.mem_cons_self
      obtain ⟨h1, h2⟩ := List.mem_filter.mp this
      exact ⟨j, List.mem_range.mp h1, by simpa using h2⟩
    obtain ⟨j, hj, hb⟩ := hex
    induction j using Nat.strongRecOn with
    | _ j ihj =>
     by_cases hall : ∀ k, k < j → listed.getD k true = true
     ·exact ⟨j, hj, hb, hall⟩
     ·simp only [Classical.not_forall] at hall
      obtain ⟨k, hk, hkb⟩ := hall
      exact ihj k hk (by omega) (by simpa using hkb)
   obtain ⟨jm, hjm, hjb, hlow⟩ := hmin
   rw [show fuel + 1 + (ops.size - m) = fuel + (ops.size - m) + 1 by omega]
   refine ⟨fun hr => ?_, fun i hi => ?_⟩
   ·exfalso
    obtain ⟨o, ho⟩ : ∃ o, ops[jm]? = some o := ⟨ops[jm]'(by omega), Array.getElem?_eq_some_iff.2 ⟨by omega, rfl⟩⟩
    have := ready_of hs ho hchk hjb hlow
    rw [hr] at this
    cases this
   ·have hi' := hi
    unfold Region.ready at hi'
    obtain ⟨hir, hic⟩ := List.mem_filter.mp hi'
    have hilt := List.mem_range.mp hir
    obtain ⟨o, ho⟩ : ∃ o, ops[i]? = some o := ⟨ops[i], Array.getElem?_eq_some_iff.2 ⟨hilt, rfl⟩⟩
    simp only [ho, Option.map_some, Option.getD_some, Bool.and_eq_true] at hic
    obtain ⟨hib, hdeps⟩ := hic
    have hib' : listed.getD i true = false := by simpa using hib
    have hw : ∀ m, waits o m = true → listed.getD m true = true := fun k hk => q1r hdeps k hk
    have him : i < m := by
     rcases Nat.lt_or_ge i m with h | h
     ·exact h
     ·have := q2x (listed := listed) hI.2.2.2.2.2 8 o jm (by omega) (fun k _ hk => hw k hk) (chkT_spec hS ho h jm (by omega))
      rw [hjb] at this
      cases this
    obtain ⟨h1, h2, h3, h4, h5, h9⟩ := hI
    have hseen : ∀ s, s ∈ o.looksAt ops → Seen l F ops o a w s := by
     intro s hs'
     unfold Seen
     cases hsrc : srcOf ops o s with
     | some m =>
      unfold srcOf at hsrc
      have h6 := List.find?_some hsrc
      have h7 := List.mem_of_find?_eq_some hsrc
      simp only [Bool.and_eq_true] at h6
      obtain ⟨om, hom⟩ : ∃ om, ops[m]? = some om := ⟨ops[m]'(List.mem_range.mp h7), Array.getElem?_eq_some_iff.2 ⟨List.mem_range.mp h7, rfl⟩⟩
      simp only [hom, Option.bind_some] at h6
      cases hd : om.dst with
      | none => simp [hd] at h6
      | some d =>
       simp only [hd] at h6
       have hds : d = s := Nat.eq_of_beq_eq_true h6.2
       subst hds
       exact h5 m om d hom hd (hw m h6.1)
     | none =>
      intro v hv
      refine h4 s v hv (fun j oj hj hd => ?_)
      have h6 := ((q1q hchk ho).2 j oj s hj hd).2 hs'
      have hjlt : j < ops.size := (Array.getElem?_eq_some_iff.1 hj).1
      rcases h6 with h6 | h6
      ·exfalso
       unfold srcOf at hsrc
       have := List.find?_eq_none.mp hsrc j (List.mem_range.mpr hjlt)
       simp [h6, hj, hd] at this
      ·
       cases hb : listed.getD j true with
       | false => rfl
       | true =>
        exfalso
        have h8 := h9 j oj hj hb i hilt h6
        rw [hib'] at h8
        cases h8
    have step : ∀ (v : Value) (w' : World), F i v w' → Below w.heap.size w w' → Inv n l F ops w0 bs os (listed.setIfInBounds i true) (a.put o.dst v) w' := by
     intro v w' hF hB
     have hli : i < listed.size := by omega
     refine ⟨?_, ?_, h3.call hB, ?_, ?_, ?_⟩
     ·cases hd : o.dst with
      | none => exact h1
      | some d => simp [Act.put, h1]
     ·cases hd : o.dst with
      | none => exact h2
      | some d => exact h2
     ·intro s u hu hno
      have hns : o.dst ≠ some s := by
       intro hd
       have := hno i o ho hd
       rw [q16 hli, if_pos rfl] at this
       cases this
      have hold := h4 s u hu (fun j oj hj hd => by
       have := hno j oj hj hd
       rw [q16 hli] at this
       split at this
       ·cases this
       ·exact this)
      cases hd : o.dst with
      | none => exact hold
      | some d =>
       show (a.tmps.setIfInBounds d v)[s]? = some u
       rw [Array.getElem?_setIfInBounds, if_neg (fun e => hns (by rw [hd, e]))]
       exact hold
     ·intro j oj d hj hd hb
      by_cases hij : i = j
      ·subst hij
       rw [ho] at hj
       cases hj
       refine ⟨v, ?_, hF⟩
       rw [hd]
       show (a.tmps.setIfInBounds d v)[d]? = some v
       rw [Array.getElem?_setIfInBounds, if_pos rfl, if_pos (by rw [h1]; exact hdst i o d ho hd)]
      ·rw [q16 hli, if_neg hij] at hb
       obtain ⟨u, hu, hFu⟩ := h5 j oj d hj hd hb
       refine ⟨u, ?_, hmono j u w w' hB hFu⟩
       have hne := ((q1q hchk ho).2 j oj d hj hd).1 hij
       cases hdo : o.dst with
       | none => exact hu
       | some d' =>
        show (a.tmps.setIfInBounds d' v)[d]? = some u
        rw [Array.getElem?_setIfInBounds, if_neg (fun e => hne (by rw [hdo, e]))]
        exact hu
     ·intro j oj hj hb m hm hwm
      rw [q16 hli]
      split
      ·rfl
      ·by_cases hij : i = j
       ·subst hij
        rw [ho] at hj
        cases hj
        exact hw m hwm
       ·rw [q16 hli, if_neg hij] at hb
        exact h9 j oj hj hb m hm hwm
    have hcount : ((List.range m).filter fun k => !(listed.setIfInBounds i true).getD k true).length = fuel := by
     have hli : i < listed.size := by omega
     have e1 : ((List.range m).filter fun k => !(listed.setIfInBounds i true).getD k true) = ((List.range m).filter fun k => !listed.getD k true).erase i := by
      rw [List.Nodup.erase_eq_filter (List.nodup_range.sublist List.filter_sublist), List.filter_filter]
      refine List.filter_congr (fun k _ => ?_)
      rw [q16 hli]
      by_cases hik : i = k
      ·subst hik; simp
      ·have : ¬ k = i := fun e => hik e.symm
       simp [hik, this]
     rw [e1, List.length_erase_of_mem (List.mem_filter.mpr ⟨List.mem_range.mpr him, by rw [hib']; rfl⟩), hc]
     rfl
    have hnb' : ∀ j, m ≤ j → j < ops.size → (listed.setIfInBounds i true).getD j true = false := by
     intro j hj1 hj2
     rw [q16 (by omega), if_neg (by omega)]
     exact hnb j hj1 hj2
    have rec_ : ∀ (v : Value) (w' : World), F i v w' → Below w.heap.size w w' → wpAny P .any ops Q (fuel + (ops.size - m)) (listed.setIfInBounds i true) (a.put o.dst v) w' :=
     fun v w' hF hB => ih _ _ _ (by simpa using hs) hnb' hcount (step v w' hF hB)
    unfold wpOp
    simp only [ho]
    rcases hop i o him ho a w h1 h2 h3 hseen with ⟨hwt, hwp⟩ | ⟨hwf, hF⟩
    ·rw [if_pos hwt]
     refine .inl (q1u (fun a' w' hx => ?_) (fun _ _ _ h => h) hwp)
     obtain ⟨v, rfl, hF, hB⟩ := hx
     exact rec_ v w' hF hB
    ·rw [if_neg (by rw [hwf]; simp)]
     exact rec_ undef w hF (Below.refl _ _)
 have hsz : m + (ops.size - m) = ops.size := by omega
 rw [← hsz]
 have h0 : ∀ j, j < ops.size → (Array.replicate ops.size false).getD j true = false := fun j hj => by simp [hj]
 rw [hsz]
 have := key m (Array.replicate ops.size false) a { W with drawn := W.drawn + 1 } (by simp) (fun j _ hj => h0 j hj) ?_ ⟨ha.size, ha.defers, HW.drew _, fun s v hv _ => ha.slot s v hv, ?_, ?_⟩
 ·rwa [hsz] at this
 ·have : (List.range m).filter (fun i => !(Array.replicate ops.size false).getD i true) = List.range m := by
   refine List.filter_eq_self.mpr (fun i hi => ?_)
   rw [h0 i (by have := List.mem_range.mp hi; omega)]
   rfl
  rw [this, List.length_range]
 ·intro j o d hj _ hb
  rw [h0 j (Array.getElem?_eq_some_iff.1 hj).1] at hb
  cases hb
 ·intro j o hj hb
  rw [h0 j (Array.getElem?_eq_some_iff.1 hj).1] at hb
  cases hb
end
section
variable {P : Program} {n : Nat} {l : List (Nat × Value)} {ops : Array Oper} {w0 W : World} {bs : List (Nat × Obj)} {os : List OwnA} {a : Act} {Q : Exit → Act → World → Prop} {L : List Fact}
theorem regionGT {id : Nat} (m : Nat) (hm : P.follows .mixedOrders = true) (hchk : (chkB ops && dstB n ops && Nat.ble m ops.size && chkT m ops) = true) (ha : Has n l a) (HW : Wd w0 W bs os) (L : List Fact)
  (hop : OpsOk P n l L ops w0 bs os 0 (ops.toList.take m))
  (hend : ∀ (a : Act) (w : World), Has n [] a → Wd w0 w bs os → (∀ s v, look l s = some v → freeB m ops s = true → a.tmps[s]? = some v) →
   (∀ (j d : Nat), Nat.blt j m = true → (ops[j]?).bind (·.dst) = some d → ∃ v, a.tmps[d]? = some v ∧ facts L j v w) → wpList P ops Q (ops.toList.drop m) a w) : (Code.region id ops true).wp P Q a W := by
 simp only [Bool.and_eq_true] at hchk
 obtain ⟨⟨⟨hc1, hc2⟩, hc3⟩, hc4⟩ := hchk
 have hmz := Nat.le_of_ble_eq_true hc3
 refine regionFT (F := facts L) m hmz hc4 hm hc1 ha HW (fun i o him hi => ?_) (q35 L) (fun i o d hi hd => ?_) (fun a w h1 h2 h3 h4 h5 => ?_)
 ·have := OpsOk.get (ops.toList.take m) 0 hop i o (by rw [List.getElem?_take, if_pos him]; simpa using hi)
  rwa [Nat.zero_add] at this
 ·unfold dstB at hc2
  rw [Array.all_eq_true_iff_forall_mem] at hc2
  have := hc2 o (Array.mem_of_getElem? hi)
  simp only [hd] at this
  exact Nat.le_of_ble_eq_true this
 ·refine hend a w (q0a h1 h2) h3 (fun s v hv hf => h4 s v hv (fun j o hjm hj hd => ?_)) (fun j d hjm hj => ?_)
  ·unfold freeB at hf
   have hmem : o ∈ ops.toList.take m := by
    refine List.mem_of_getElem? (i := j) ?_
    rw [List.getElem?_take, if_pos hjm]
    simpa using hj
   have := List.all_eq_true.mp hf o hmem
   simp [hd] at this
  ·cases ho : ops[j]? with
   | none => simp [ho] at hj
   | some o => exact h5 j o d (Nat.le_of_ble_eq_true hjm) ho (by simpa [ho] using hj)
end
section
variable {K : Act → World → Prop} {Q : Exit → Act → World → Prop} {c : List PanicEntry} {a : Act} {W : World}
theorem thenP (h : Q (.panic c) a W) : Exit.then K Q (.panic c) a W := h
theorem finP {P : Program} {fn : Func} {R : Ending → World → Prop} {n : Nat} {l : List (Nat × Value)} (ha : Has n l a) (h : R (.panicked c) W) : bodyPost P fn R (.panic c) a W := ⟨ha.defers, h⟩
end
end Go.Proofs.YtokdiacjcbolfaaDoor.X
namespace Go.Proofs.YtokdiacjcbolfaaDoor.X
open Go Go.RowKit
section
variable (P : Program) (n : Nat) (l : List (Nat × Value)) (F : Nat → Value → World → Prop) (ops : Array Oper) (J : Array Bool → World → Prop)
end
section
variable {P : Program} {n : Nat} {l : List (Nat × Value)} {F : Nat → Value → World → Prop} {ops : Array Oper} {W : World} {a : Act} {Q : Exit → Act → World → Prop}
end
section
variable {P : Program} {n : Nat} {l : List (Nat × Value)} {ops : Array Oper} {w0 W : World} {a : Act} {Q : Exit → Act → World → Prop}
def YA (a : Act) (d : Nat) (G : Value → World → Prop) : Exit → Act → World → Prop := fun e a' w' => e = .normal ∧ ∃ v, a' = a.put (some d) v ∧ G v w'
variable {o : Oper} {w : World} {E : List (Nat × Value)} {G : Value → World → Prop}
theorem yStepA (ha : Has n E a) (d : Nat) (hok : okB n E ops o d = true)
  (h : ∀ l, Has n (E ++ l) a → (∀ a' v w', Has n ((d, v) :: (E ++ l)) a' → G v w' → wpList P ops (YA a d G) [] a' w') → wpList P ops (YA a d G) [o] a w) :
  Region.wanted o (yielded ops a.tmps) = true ∧ o.wp P a w (fun a' w' => ∃ v, a' = a.put o.dst v ∧ G v w') (fun _ _ _ => False) := by
 obtain ⟨h1, h2, h3, h4⟩ := okB_spec hok
 have hw := ha.on ops o h2
 have key := h (fullL n a) ha.full (fun a' v w' ha' hg => by
  refine ⟨rfl, v, ?_, hg⟩
  have he : a'.tmps = (a.put (some d) v).tmps := by
   apply Array.ext_getElem?
   intro i
   show a'.tmps[i]? = (a.tmps.setIfInBounds d v)[i]?
   by_cases hi : i < n
   ·rw [Array.getElem?_setIfInBounds]
    by_cases hid : d = i
    ·subst hid
     rw [if_pos rfl, if_pos (by rw [ha.size]; exact h3)]
     exact ha'.slot d v (by simp [look])
    ·rw [if_neg hid]
     have hl : ∃ u, look (E ++ fullL n a) i = some u := by
      rw [look_append, look_full, if_pos hi]
      cases look E i <;> simp
     obtain ⟨u, hu⟩ := hl
     have e1 := ha.full.slot i u hu
     have e2 := ha'.slot i u (by
      simp only [look]
      cases hb : Nat.beq d i with
      | true => exact absurd (Nat.eq_of_beq_eq_true hb) hid
      | false => exact hu)
     rw [e1, e2]
   ·rw [Array.getElem?_eq_none (by rw [ha'.size]; omega), Array.getElem?_eq_none (by rw [Array.size_setIfInBounds, ha.size]; omega)]
  have hd' : a'.defers = (a.put (some d) v).defers := ha'.defers.trans ha.defers.symm
  cases a'
  simp only at he hd'
  show Act.mk _ _ = Act.mk _ _
  rw [he, hd']
  rfl)
 unfold wpList at key
 rw [if_pos hw] at key
 rcases key with key | ⟨_, a1, w1, hq⟩
 ·refine ⟨hw, ?_⟩
  refine wp_false_mono' (fun a' w' hx => ?_) (fun e a' w' hne hq => ?_) key
  ·obtain ⟨_, v, h5, h6⟩ := hx
   exact ⟨v, by rw [h4]; exact h5, h6⟩
  ·exact hne hq.1
 ·cases hq.1
end
end Go.Proofs.YtokdiacjcbolfaaDoor.X
set_option linter.unusedVariables false
set_option linter.unusedSimpArgs false
namespace Go.Proofs.YtokdiacjcbolfaaDoor.X
open Go Go.RowKit
section
variable (P : Program) (n : Nat) (l : List (Nat × Value)) (F : Array Bool → Nat → Value → World → Prop) (ops : Array Oper) (J : Array Bool → Act → World → Prop)
def OpKT (i : Nat) (o : Oper) : Prop := ∀ (a : Act) (w : World) (listed : Array Bool), listed.size = ops.size → listed.getD i true = false → (∀ m, waits o m = true → listed.getD m true = true) →
 (∀ (j : Nat) (oj : Oper), ops[j]? = some oj → listed.getD j true = true → ∀ m, m < ops.size → waits oj m = true → listed.getD m true = true) → a.tmps.size = n → a.defers = [] → J listed a w → (∀ s, s ∈ o.looksAt ops → Seen l (F listed) ops o a w s) →
 (Region.wanted o (yielded ops a.tmps) = true ∧ o.wp P a w (fun a' w' => ∃ v, a' = a.put o.dst v ∧ F (listed.setIfInBounds i true) i v w' ∧ J (listed.setIfInBounds i true) (a.put o.dst v) w' ∧ ∀ j u, j ≠ i → F listed j u w → F (listed.setIfInBounds i true) j u w') (fun _ _ _ => False)) ∨
 (Region.wanted o (yielded ops a.tmps) = false ∧ F (listed.setIfInBounds i true) i undef w ∧ J (listed.setIfInBounds i true) (a.put o.dst undef) w ∧ ∀ j u, j ≠ i → F listed j u w → F (listed.setIfInBounds i true) j u w)
end
section
variable (n : Nat) (l : List (Nat × Value)) (F : Array Bool → Nat → Value → World → Prop) (ops : Array Oper) (J : Array Bool → Act → World → Prop)
def InvK (listed : Array Bool) (a : Act) (w : World) : Prop :=
 a.tmps.size = n ∧ a.defers = [] ∧ J listed a w ∧
 (∀ s v, look l s = some v → (∀ (j : Nat) (o : Oper), ops[j]? = some o → o.dst = some s → listed.getD j true = false) → a.tmps[s]? = some v) ∧
 (∀ (j : Nat) (o : Oper) (d : Nat), ops[j]? = some o → o.dst = some d → listed.getD j true = true → ∃ v, a.tmps[d]? = some v ∧ F listed j v w) ∧
 (∀ (j : Nat) (o : Oper), ops[j]? = some o → listed.getD j true = true → ∀ m, m < ops.size → waits o m = true → listed.getD m true = true)
end
section
variable {P : Program} {n : Nat} {l : List (Nat × Value)} {F : Array Bool → Nat → Value → World → Prop} {ops : Array Oper} {W : World} {a : Act} {Q : Exit → Act → World → Prop}
theorem regionKT {id : Nat} (J : Array Bool → Act → World → Prop) (m : Nat) (hmz : m ≤ ops.size) (hS : chkT m ops = true) (hm : P.follows .mixedOrders = true) (hchk : chkB ops = true) (ha : Has n l a) (HJ : ∀ k, J (Array.replicate ops.size false) a { W with drawn := k })
  (hop : ∀ (i : Nat) (o : Oper), i < m → ops[i]? = some o → OpKT P n l F ops J i o)
  (hdst : ∀ (i : Nat) (o : Oper) (d : Nat), ops[i]? = some o → o.dst = some d → d < n)
  (hend : ∀ (a : Act) (w : World), a.tmps.size = n → a.defers = [] → ∀ listed : Array Bool, listed.size = ops.size → (∀ j, j < m → listed.getD j true = true) → J listed a w → (∀ s v, look l s = some v → (∀ (j : Nat) (o : Oper), j < m → ops[j]? = some o → o.dst ≠ some s) → a.tmps[s]? = some v) →
   (∀ (j : Nat) (o : Oper) (d : Nat), j < m → ops[j]? = some o → o.dst = some d → ∃ v, a.tmps[d]? = some v ∧ F listed j v w) → wpList P ops Q (ops.toList.drop m) a w) : (Code.region id ops true).wp P Q a W := by
 refine wp_region_any hm ?_
 have key : ∀ (fuel : Nat) (listed : Array Bool) (a : Act) (w : World), listed.size = ops.size → (∀ j, m ≤ j → j < ops.size → listed.getD j true = false) → ((List.range m).filter fun i => !listed.getD i true).length = fuel → InvK n l F ops J listed a w → wpAny P .any ops Q (fuel + (ops.size - m)) listed a w := by
  intro fuel
  induction fuel with
  | zero =>
   intro listed a w hs hnb hc hI
   have hnil := List.eq_nil_of_length_eq_zero hc
   have hall : ∀ j, j < m → listed.getD j true = true := by
    intro j hj
    cases hb : listed.getD j true with
    | true => rfl
    | false =>
     have : j ∈ (List.range m).filter fun i => !listed.getD i true := List.mem_filter.mpr ⟨List.mem_range.mpr hj, by rw [hb]; rfl⟩
     rw [hnil] at this
     cases this
   obtain ⟨h1, h2, h3, h4, h5, _⟩ := hI
   rw [Nat.zero_add]
   refine tailT hchk hS (ops.size - m) m listed a w (Nat.le_refl _) (by omega) hs hall hnb ?_
   refine hend a w h1 h2 listed hs hall h3 (fun s v hv hno => h4 s v hv (fun j o hj hd => ?_)) (fun j o d hjm hj hd => h5 j o d hj hd (hall j hjm))
   by_cases hjm : j < m
   ·exact absurd hd (hno j o hjm hj)
   ·exact hnb j (by omega) (Array.getElem?_eq_some_iff.1 hj).1
  | succ fuel ih =>
   intro listed a w hs hnb hc hI
   have hmin : ∃ j, j < m ∧ listed.getD j true = false ∧ ∀ k, k < j → listed.getD k true = true := by
    have hex : ∃ j, j < m ∧ listed.getD j true = false := by
     cases hf : (List.range m).filter fun i => !listed.getD i true with
     | nil => rw [hf] at hc; cases hc
     | cons j r =>
      have : j ∈ (List.range m).filter fun i => !listed.getD i true := by rw [hf]; exact List.mem_cons_self
      obtain ⟨h1, h2⟩ := List.mem_filter.mp this
      exact ⟨j, List.mem_range.mp h1, by simpa using h2⟩
    obtain ⟨j, hj, hb⟩ := hex
    induction j using Nat.strongRecOn with
    | _ j ihj =>
     by_cases hall : ∀ k, k < j → listed.getD k true = true
     ·exact ⟨j, hj, hb, hall⟩
     ·simp only [Classical.not_forall] at hall
      obtain ⟨k, hk, hkb⟩ := hall
      exact ihj k hk (by omega) (by simpa using hkb)
   obtain ⟨jm, hjm, hjb, hlow⟩ := hmin
   rw [show fuel + 1 + (ops.size - m) = fuel + (ops.size - m) + 1 by omega]
   refine ⟨fun hr => ?_, fun i hi => ?_⟩
   ·exfalso
    obtain ⟨o, ho⟩ : ∃ o, ops[jm]? = some o := ⟨ops[jm]'(by omega), Array.getElem?_eq_some_iff.2 ⟨by omega, rfl⟩⟩
    have := ready_of hs ho hchk hjb hlow
    rw [hr] at this
    cases this
   ·have hi' := hi
    unfold Region.ready at hi'
    obtain ⟨hir, hic⟩ := List.mem_filter.mp hi'
    have hilt := List.mem_range.mp hir
    obtain ⟨o, ho⟩ : ∃ o, ops[i]? = some o := ⟨ops[i], Array.getElem?_eq_some_iff.2 ⟨hilt, rfl⟩⟩
    simp only [ho, Option.map_some, Option.getD_some, Bool.and_eq_true] at hic
    obtain ⟨hib, hdeps⟩ := hic
    have hib' : listed.getD i true = false := by simpa using hib
    have hw : ∀ m, waits o m = true → listed.getD m true = true := fun k hk => q1r hdeps k hk
    have him : i < m := by
     rcases Nat.lt_or_ge i m with h | h
     ·exact h
     ·have := q2x (listed := listed) hI.2.2.2.2.2 8 o jm (by omega) (fun k _ hk => hw k hk) (chkT_spec hS ho h jm (by omega))
      rw [hjb] at this
      cases this
    obtain ⟨h1, h2, h3, h4, h5, h9⟩ := hI
    have hseen : ∀ s, s ∈ o.looksAt ops → Seen l (F listed) ops o a w s := by
     intro s hs'
     unfold Seen
     cases hsrc : srcOf ops o s with
     | some m =>
      unfold srcOf at hsrc
      have h6 := List.find?_some hsrc
      have h7 := List.mem_of_find?_eq_some hsrc
      simp only [Bool.and_eq_true] at h6
      obtain ⟨om, hom⟩ : ∃ om, ops[m]? = some om := ⟨ops[m]'(List.mem_range.mp h7), Array.getElem?_eq_some_iff.2 ⟨List.mem_range.mp h7, rfl⟩⟩
      simp only [hom, Option.bind_some] at h6
      cases hd : om.dst with
      | none => simp [hd] at h6
      | some d =>
       simp only [hd] at h6
       have hds : d = s := Nat.eq_of_beq_eq_true h6.2
       subst hds
       exact h5 m om d hom hd (hw m h6.1)
     | none =>
      intro v hv
      refine h4 s v hv (fun j oj hj hd => ?_)
      have h6 := ((q1q hchk ho).2 j oj s hj hd).2 hs'
      have hjlt : j < ops.size := (Array.getElem?_eq_some_iff.1 hj).1
      rcases h6 with h6 | h6
      ·exfalso
       unfold srcOf at hsrc
       have := List.find?_eq_none.mp hsrc j (List.mem_range.mpr hjlt)
       simp [h6, hj, hd] at this
      ·
       cases hb : listed.getD j true with
       | false => rfl
       | true =>
        exfalso
        have h8 := h9 j oj hj hb i hilt h6
        rw [hib'] at h8
        cases h8
    have step : ∀ (v : Value) (w' : World), F (listed.setIfInBounds i true) i v w' → J (listed.setIfInBounds i true) (a.put o.dst v) w' → (∀ j u, j ≠ i → F listed j u w → F (listed.setIfInBounds i true) j u w') → InvK n l F ops J (listed.setIfInBounds i true) (a.put o.dst v) w' := by
     intro v w' hF hB hM
     have hli : i < listed.size := by omega
     refine ⟨?_, ?_, ?_, ?_, ?_, ?_⟩
     ·cases hd : o.dst with
      | none => exact h1
      | some d => simp [Act.put, h1]
     ·cases hd : o.dst with
      | none => exact h2
      | some d => exact h2
     ·exact hB
     ·intro s u hu hno
      have hns : o.dst ≠ some s := by
       intro hd
       have := hno i o ho hd
       rw [q16 hli, if_pos rfl] at this
       cases this
      have hold := h4 s u hu (fun j oj hj hd => by
       have := hno j oj hj hd
       rw [q16 hli] at this
       split at this
       ·cases this
       ·exact this)
      cases hd : o.dst with
      | none => exact hold
      | some d =>
       show (a.tmps.setIfInBounds d v)[s]? = some u
       rw [Array.getElem?_setIfInBounds, if_neg (fun e => hns (by rw [hd, e]))]
       exact hold
     ·intro j oj d hj hd hb
      by_cases hij : i = j
      ·subst hij
       rw [ho] at hj
       cases hj
       refine ⟨v, ?_, hF⟩
       rw [hd]
       show (a.tmps.setIfInBounds d v)[d]? = some v
       rw [Array.getElem?_setIfInBounds, if_pos rfl, if_pos (by rw [h1]; exact hdst i o d ho hd)]
      ·rw [q16 hli, if_neg hij] at hb
       obtain ⟨u, hu, hFu⟩ := h5 j oj d hj hd hb
       refine ⟨u, ?_, hM j u (fun e => hij e.symm) hFu⟩
       have hne := ((q1q hchk ho).2 j oj d hj hd).1 hij
       cases hdo : o.dst with
       | none => exact hu
       | some d' =>
        show (a.tmps.setIfInBounds d' v)[d]? = some u
        rw [Array.getElem?_setIfInBounds, if_neg (fun e => hne (by rw [hdo, e]))]
        exact hu
     ·intro j oj hj hb m hm hwm
      rw [q16 hli]
      split
      ·rfl
      ·by_cases hij : i = j
       ·subst hij
        rw [ho] at hj
        cases hj
        exact hw m hwm
       ·rw [q16 hli, if_neg hij] at hb
        exact h9 j oj hj hb m hm hwm
    have hcount : ((List.range m).filter fun k => !(listed.setIfInBounds i true).getD k true).length = fuel := by
     have hli : i < listed.size := by omega
     have e1 : ((List.range m).filter fun k => !(listed.setIfInBounds i true).getD k true) = ((List.range m).filter fun k => !listed.getD k true).erase i := by
      rw [List.Nodup.erase_eq_filter (List.nodup_range.sublist List.filter_sublist), List.filter_filter]
      refine List.filter_congr (fun k _ => ?_)
      rw [q16 hli]
      by_cases hik : i = k
      ·subst hik; simp
      ·have : ¬ k = i := fun e => hik e.symm
       simp [hik, this]
     rw [e1, List.length_erase_of_mem (List.mem_filter.mpr ⟨List.mem_range.mpr him, by rw [hib']; rfl⟩), hc]
     rfl
    have hnb' : ∀ j, m ≤ j → j < ops.size → (listed.setIfInBounds i true).getD j true = false := by
     intro j hj1 hj2
     rw [q16 (by omega), if_neg (by omega)]
     exact hnb j hj1 hj2
    have rec_ : ∀ (v : Value) (w' : World), F (listed.setIfInBounds i true) i v w' → J (listed.setIfInBounds i true) (a.put o.dst v) w' → (∀ j u, j ≠ i → F listed j u w → F (listed.setIfInBounds i true) j u w') → wpAny P .any ops Q (fuel + (ops.size - m)) (listed.setIfInBounds i true) (a.put o.dst v) w' :=
     fun v w' hF hB hM => ih _ _ _ (by simpa using hs) hnb' hcount (step v w' hF hB hM)
    unfold wpOp
    simp only [ho]
    rcases hop i o him ho a w listed hs hib' hw h9 h1 h2 h3 hseen with ⟨hwt, hwp⟩ | ⟨hwf, hF, hB, hM⟩
    ·rw [if_pos hwt]
     refine .inl (q1u (fun a' w' hx => ?_) (fun _ _ _ h => h) hwp)
     obtain ⟨v, rfl, hF, hB, hM⟩ := hx
     exact rec_ v w' hF hB hM
    ·rw [if_neg (by rw [hwf]; simp)]
     exact rec_ undef w hF hB hM
 have hsz : m + (ops.size - m) = ops.size := by omega
 rw [← hsz]
 have h0 : ∀ j, j < ops.size → (Array.replicate ops.size false).getD j true = false := fun j hj => by simp [hj]
 rw [hsz]
 have := key m (Array.replicate ops.size false) a { W with drawn := W.drawn + 1 } (by simp) (fun j _ hj => h0 j hj) ?_ ⟨ha.size, ha.defers, HJ _, fun s v hv _ => ha.slot s v hv, ?_, ?_⟩
 ·rwa [hsz] at this
 ·have : (List.range m).filter (fun i => !(Array.replicate ops.size false).getD i true) = List.range m := by
   refine List.filter_eq_self.mpr (fun i hi => ?_)
   rw [h0 i (by have := List.mem_range.mp hi; omega)]
   rfl
  rw [this, List.length_range]
 ·intro j o d hj _ hb
  rw [h0 j (Array.getElem?_eq_some_iff.1 hj).1] at hb
  cases hb
 ·intro j o hj hb
  rw [h0 j (Array.getElem?_eq_some_iff.1 hj).1] at hb
  cases hb
end
def hideX (X : List Bool) (L : List Fact) : List Fact := (List.range L.length).map fun i => match X.getD i false with
 | true => .any
 | false => L.getD i .any
theorem hideX_get (X : List Bool) (L : List Fact) (j : Nat) : (hideX X L).getD j .any = match X.getD j false with | true => .any | false => L.getD j .any := by
 unfold hideX
 by_cases hj : j < L.length
 ·simp [List.getD_eq_getElem?_getD, hj]
 ·have h1 : L.getD j .any = .any := by simp [List.getD_eq_getElem?_getD, hj]
  rw [h1]
  have h2 : ((List.range L.length).map fun i => match X.getD i false with | true => Fact.any | false => L.getD i .any).getD j .any = .any := by
   simp [List.getD_eq_getElem?_getD, hj]
  rw [h2]
  cases X.getD j false <;> rfl
def freeF : Fact → Bool
 | .fix _ => true
 | .any => true
 | .ptr => true
 | .pr _ => true
 | _ => false
theorem freeF_holds {f : Fact} (h : freeF f = true) {v : Value} {w w' : World} (hf : f.holds v w) : f.holds v w' := by
 cases f with
 | fix u => exact hf
 | any => trivial
 | ptr => exact hf
 | pr => exact hf
 | rd => cases h
 | blk => cases h
 | lit => cases h
 | wd => cases h
 | ws => cases h
def fixX (q : Nat) (X : List Bool) (L : List Fact) : Bool := (List.range L.length).all fun i => Nat.beq i q || X.getD i false || freeF (L.getD i .any)
theorem fixX_get {q : Nat} {X : List Bool} {L : List Fact} (h : fixX q X L = true) (j : Nat) (hj : j ≠ q) : X.getD j false = true ∨ freeF (L.getD j .any) = true := by
 by_cases hl : j < L.length
 ·have h1 := List.all_eq_true.mp h j (List.mem_range.mpr hl)
  simp only [Bool.or_eq_true] at h1
  rcases h1 with (h1 | h1) | h1
  ·exact absurd (Nat.eq_of_beq_eq_true h1) hj
  ·exact .inl h1
  ·exact .inr h1
 ·right
  have h1 : L.getD j .any = .any := by simp [List.getD_eq_getElem?_getD, hl]
  rw [h1]
  rfl
def OpOkX (P : Program) (n : Nat) (l : List (Nat × Value)) (L : List Fact) (X : List Bool) (ops : Array Oper) (w0 : World) (C : Sta) (i : Nat) (o : Oper) : Prop := ∀ (a : Act) (w : World), a.tmps.size = n → a.defers = [] → Wd w0 w C.1 C.2 → (∀ s, s ∈ o.looksAt ops → Seen l (facts (hideX X L)) ops o a w s) →
 (Region.wanted o (yielded ops a.tmps) = true ∧ o.wp P a w (fun a' w' => ∃ v, a' = a.put o.dst v ∧ facts L i v w' ∧ Below w.heap.size w w') (fun _ _ _ => False)) ∨
 (Region.wanted o (yielded ops a.tmps) = false ∧ facts L i undef w)
def EffOkX (P : Program) (n : Nat) (l : List (Nat × Value)) (L : List Fact) (ops : Array Oper) (w0 : World) (S : Sta) (f : Fact) (o : Oper) : Prop :=
 ∀ (a : Act) (w : World), a.tmps.size = n → a.defers = [] → Wd w0 w S.1 S.2 → (∀ s, s ∈ o.looksAt ops → Seen l (facts L) ops o a w s) →
 Region.wanted o (yielded ops a.tmps) = true ∧ o.wp P a w (fun a' w' => ∃ v, a' = a.put o.dst v ∧ f.holds v w') (fun _ _ _ => False)
def OpsOkX (P : Program) (n : Nat) (l : List (Nat × Value)) (L : List Fact) (X : List Bool) (ops : Array Oper) (w0 : World) (C S : Sta) (q : Nat) (f : Fact) : Nat → List Oper → Prop
 | _, [] => True
 | i, o :: r => (match Nat.beq i q with
  | true => EffOkX P n l L ops w0 S f o
  | false => OpOkX P n l L X ops w0 C i o) ∧ OpsOkX P n l L X ops w0 C S q f (i + 1) r
theorem OpsOkX.get {P : Program} {n : Nat} {l : List (Nat × Value)} {L : List Fact} {X : List Bool} {ops : Array Oper} {w0 : World} {C S : Sta} {q : Nat} {f : Fact} : ∀ (r : List Oper) (i : Nat), OpsOkX P n l L X ops w0 C S q f i r → ∀ (j : Nat) (o : Oper), r[j]? = some o →
  (i + j = q ∧ EffOkX P n l L ops w0 S f o) ∨ (i + j ≠ q ∧ OpOkX P n l L X ops w0 C (i + j) o)
 | [], _, _, j, o, h => by simp at h
 | x :: r, i, hx, 0, o, h => by
  simp only [List.getElem?_cons_zero, Option.some.injEq] at h
  subst h
  have h1 := hx.1
  cases hb : Nat.beq i q with
  | true => rw [hb] at h1; exact .inl ⟨Nat.eq_of_beq_eq_true hb, h1⟩
  | false => rw [hb] at h1; exact .inr ⟨fun e => Nat.ne_of_beq_eq_false hb e, h1⟩
 | x :: r, i, hx, j + 1, o, h => by
  have := OpsOkX.get r (i + 1) hx.2 j o (by simpa using h)
  rw [show i + (j + 1) = i + 1 + j by omega]
  exact this
def FX (L : List Fact) (X : List Bool) (q : Nat) (listed : Array Bool) (j : Nat) (v : Value) (w : World) : Prop := (X.getD j false = true ∧ listed.getD q true = true) ∨ facts L j v w
section
variable {P : Program} {n : Nat} {l : List (Nat × Value)} {ops : Array Oper} {w0 W : World} {a : Act} {Q : Exit → Act → World → Prop}
theorem regionE {id : Nat} (m q : Nat) (hm : P.follows .mixedOrders = true) (L : List Fact) (X : List Bool) (hchk : (chkB ops && dstB n ops && Nat.ble m ops.size && chkT m ops && fixX q X L && !X.getD q false) = true) (C S : Sta) (ha : Has n l a) (HW : Wd w0 W S.1 S.2) (f : Fact) (hL : L.getD q .any = f)
  (hC : ∀ w, Wd w0 w S.1 S.2 → Wd w0 w C.1 C.2) (hC2 : ∀ v w, f.holds v w → Wd w0 w C.1 C.2) (hq : Nat.blt q m = true)
  (hop : OpsOkX P n l L X ops w0 C S q f 0 (ops.toList.take m))
  (hend : ∀ (a : Act) (w : World), Has n [] a → (∃ v, f.holds v w) → (∀ s v, look l s = some v → freeB m ops s = true → a.tmps[s]? = some v) →
   (∀ (j d : Nat), Nat.blt j m = true → (ops[j]?).bind (·.dst) = some d → ∃ v, a.tmps[d]? = some v ∧ facts (hideX X L) j v w) → wpList P ops Q (ops.toList.drop m) a w) : (Code.region id ops true).wp P Q a W := by
 simp only [Bool.and_eq_true, Bool.not_eq_true'] at hchk
 obtain ⟨⟨⟨⟨⟨hc1, hc2⟩, hc3⟩, hc4⟩, hc5⟩, hc6⟩ := hchk
 have hmz := Nat.le_of_ble_eq_true hc3
 have hqm : q < m := Nat.le_of_ble_eq_true hq
 have hide : ∀ (listed : Array Bool) (j : Nat) (v : Value) (w : World), FX L X q listed j v w → facts (hideX X L) j v w := by
  intro listed j v w h
  unfold facts
  rw [hideX_get]
  cases hx : X.getD j false with
  | true => trivial
  | false =>
   rcases h with ⟨h, _⟩ | h
   ·rw [hx] at h; cases h
   ·exact h
 refine regionKT (F := FX L X q) (fun listed _ w => Wd w0 w C.1 C.2 ∧ (listed.getD q true = false → Wd w0 w S.1 S.2) ∧ (listed.getD q true = true → ∃ v, f.holds v w)) m hmz hc4 hm hc1 ha (fun k => ⟨hC _ (HW.drew k), fun _ => HW.drew k, fun h => ?_⟩) (fun i o him hi => ?_) (fun i o d hi hd => ?_) (fun a w h1 h2 listed hls hall hJ h4 h5 => ?_)
 ·exfalso
  have : q < ops.size := by omega
  simp [this] at h
 ·intro a w listed hsz hib hws _ h1 h2 hJ hseen
  have hli : i < listed.size := by rw [hsz]; exact (Array.getElem?_eq_some_iff.1 hi).1
  rcases OpsOkX.get (ops.toList.take m) 0 hop i o (by rw [List.getElem?_take, if_pos him]; simpa using hi) with ⟨hq, he⟩ | ⟨hq, he⟩
  ·rw [Nat.zero_add] at hq
   subst hq
   obtain ⟨hw, hwp⟩ := he a w h1 h2 (hJ.2.1 hib) (fun s hs => by
    have := hseen s hs
    unfold Seen at this ⊢
    cases hsrc : srcOf ops o s with
    | none => rw [hsrc] at this; exact this
    | some k =>
     rw [hsrc] at this
     obtain ⟨v, hv, hf⟩ := this
     refine ⟨v, hv, ?_⟩
     rcases hf with ⟨_, hf⟩ | hf
     ·rw [hib] at hf; cases hf
     ·exact hf)
   refine .inl ⟨hw, q1u (fun a' w' hx => ?_) (fun _ _ _ h => h) hwp⟩
   obtain ⟨v, rfl, hv⟩ := hx
   have hq' : (listed.setIfInBounds i true).getD i true = true := by rw [q16 hli, if_pos rfl]
   refine ⟨v, rfl, .inr (by unfold facts; rw [hL]; exact hv), ⟨hC2 v w' hv, fun hf => ?_, fun _ => ⟨v, hv⟩⟩, fun j u hj hf => ?_⟩
   ·rw [hq'] at hf; cases hf
   ·rcases fixX_get hc5 j hj with hx | hx
    ·exact .inl ⟨hx, hq'⟩
    ·right
     rcases hf with ⟨_, hf⟩ | hf
     ·rw [hib] at hf; cases hf
     ·exact freeF_holds hx hf
  ·rw [Nat.zero_add] at hq he
   have hkeep : (listed.setIfInBounds i true).getD q true = listed.getD q true := by rw [q16 hli, if_neg hq]
   have hs' : ∀ s, s ∈ o.looksAt ops → Seen l (facts (hideX X L)) ops o a w s := fun s hs => by
    have := hseen s hs
    unfold Seen at this ⊢
    cases hsrc : srcOf ops o s with
    | none => rw [hsrc] at this; exact this
    | some k =>
     rw [hsrc] at this
     obtain ⟨v, hv, hf⟩ := this
     exact ⟨v, hv, hide _ _ _ _ hf⟩
   rcases he a w h1 h2 hJ.1 hs' with ⟨hw, hwp⟩ | ⟨hw, hF⟩
   ·refine .inl ⟨hw, q1u (fun a' w' hx => ?_) (fun _ _ _ h => h) hwp⟩
    obtain ⟨v, rfl, hF, hb⟩ := hx
    refine ⟨v, rfl, .inr hF, ⟨hJ.1.call hb, fun hf => (hJ.2.1 (hkeep ▸ hf)).call hb, fun hf => ?_⟩, fun j u _ hf => ?_⟩
    ·obtain ⟨v1, hv1⟩ := hJ.2.2 (hkeep ▸ hf)
     exact ⟨v1, by
      have := q35 L q v1 w w' hb (by unfold facts; rw [hL]; exact hv1)
      unfold facts at this
      rw [hL] at this
      exact this⟩
    ·rcases hf with ⟨h1, h2⟩ | hf
     ·exact .inl ⟨h1, by rw [hkeep]; exact h2⟩
     ·exact .inr (q35 L j u w w' hb hf)
   ·refine .inr ⟨hw, .inr hF, ⟨hJ.1, fun hf => hJ.2.1 (hkeep ▸ hf), fun hf => hJ.2.2 (hkeep ▸ hf)⟩, fun j u _ hf => ?_⟩
    rcases hf with ⟨h1, h2⟩ | hf
    ·exact .inl ⟨h1, by rw [hkeep]; exact h2⟩
    ·exact .inr hf
 ·unfold dstB at hc2
  rw [Array.all_eq_true_iff_forall_mem] at hc2
  have := hc2 o (Array.mem_of_getElem? hi)
  simp only [hd] at this
  exact Nat.le_of_ble_eq_true this
 ·refine hend a w (q0a h1 h2) (hJ.2.2 (hall q hqm)) (fun s v hv hf => h4 s v hv (fun j o hjm hj hd => ?_)) (fun j d hjm hj => ?_)
  ·unfold freeB at hf
   have hmem : o ∈ ops.toList.take m := by
    refine List.mem_of_getElem? (i := j) ?_
    rw [List.getElem?_take, if_pos hjm]
    simpa using hj
   have := List.all_eq_true.mp hf o hmem
   simp [hd] at this
  ·cases ho : ops[j]? with
   | none => simp [ho] at hj
   | some o =>
    obtain ⟨v, hv, hf⟩ := h5 j o d (Nat.le_of_ble_eq_true hjm) ho (by simpa [ho] using hj)
    exact ⟨v, hv, hide _ _ _ _ hf⟩
end
theorem getD_some {a : Act} {d : Nat} {v : Value} (h : a.tmps[d]? = some v) : a.tmps.getD d undef = v := by
 rw [Array.getD_eq_getD_getElem?, h]
 rfl
structure MkRow where
 e : Nat
 sz : Nat
 n : Nat
 cs : List Value
def MkRow.own (r : MkRow) (v : Value) : OwnA := ⟨r.e, r.sz, v, r.n, r.cs⟩
def q24 (mk : List (Nat × Nat × MkRow)) (listed : Array Bool) (a : Act) : List OwnA := (mk.filter fun p => listed.getD p.1 true).map fun p => p.2.2.own (a.tmps.getD p.2.1 undef)
def mkB (ops : Array Oper) (mk : List (Nat × Nat × MkRow)) (m : Nat) : Bool := mk.all (fun p => Nat.blt p.1 m && (match (ops[p.1]?).bind (·.dst) with | some d => Nat.beq d p.2.1 | none => false)) && decide ((mk.map (·.1)).Nodup)
def isMk (mk : List (Nat × Nat × MkRow)) (i : Nat) : Option MkRow := (mk.find? fun p => Nat.beq p.1 i).map (·.2.2)
def MakeOk (P : Program) (n : Nat) (l : List (Nat × Value)) (L : List Fact) (ops : Array Oper) (w0 : World) (C : Sta) (r : MkRow) (o : Oper) : Prop :=
 ∀ (a : Act) (w : World), a.tmps.size = n → a.defers = [] → Wd w0 w C.1 C.2 → (∀ s, s ∈ o.looksAt ops → Seen l (facts L) ops o a w s) →
 Region.wanted o (yielded ops a.tmps) = true ∧ o.wp P a w (fun a' w' => ∃ v, a' = a.put o.dst v ∧ (∃ A c, v = .slice A r.n c) ∧ Wd w w' [] [r.own v]) (fun _ _ _ => False)
def OpsOkM (P : Program) (n : Nat) (l : List (Nat × Value)) (L : List Fact) (ops : Array Oper) (w0 : World) (C : Sta) (mk : List (Nat × Nat × MkRow)) : Nat → List Oper → Prop
 | _, [] => True
 | i, o :: r => (match isMk mk i with
  | some q => MakeOk P n l L ops w0 C q o
  | none => OpOk P n l (facts L) ops w0 C.1 C.2 i o) ∧ OpsOkM P n l L ops w0 C mk (i + 1) r
theorem OpsOkM.get {P : Program} {n : Nat} {l : List (Nat × Value)} {L : List Fact} {ops : Array Oper} {w0 : World} {C : Sta} {mk : List (Nat × Nat × MkRow)} : ∀ (r : List Oper) (i : Nat), OpsOkM P n l L ops w0 C mk i r → ∀ (j : Nat) (o : Oper), r[j]? = some o →
  (match isMk mk (i + j) with
  | some q => MakeOk P n l L ops w0 C q o
  | none => OpOk P n l (facts L) ops w0 C.1 C.2 (i + j) o)
 | [], _, _, j, o, h => by simp at h
 | x :: r, i, hx, 0, o, h => by
  simp only [List.getElem?_cons_zero, Option.some.injEq] at h
  subst h
  exact hx.1
 | x :: r, i, hx, j + 1, o, h => by
  have := OpsOkM.get r (i + 1) hx.2 j o (by simpa using h)
  rw [show i + (j + 1) = i + 1 + j by omega]
  exact this
theorem put_getD {a : Act} {o : Option Nat} {v : Value} {d : Nat} (h : o ≠ some d) : (a.put o v).tmps.getD d undef = a.tmps.getD d undef := by
 cases o with
 | none => rfl
 | some e =>
  have : e ≠ d := fun x => h (by rw [x])
  show (a.tmps.setIfInBounds e v).getD d undef = _
  simp [Array.getD_eq_getD_getElem?, Array.getElem?_setIfInBounds, this]
theorem rowsOf_same {mk : List (Nat × Nat × MkRow)} {listed : Array Bool} {a : Act} {o : Option Nat} {v : Value} {i : Nat} (hi : i < listed.size) (h1 : ∀ p ∈ mk, p.1 ≠ i) (h2 : ∀ p ∈ mk, o ≠ some p.2.1) : q24 mk (listed.setIfInBounds i true) (a.put o v) = q24 mk listed a := by
 unfold q24
 have e1 : (mk.filter fun p => (listed.setIfInBounds i true).getD p.1 true) = mk.filter fun p => listed.getD p.1 true := by
  refine List.filter_congr fun p hp => ?_
  rw [q16 hi, if_neg (fun e => h1 p hp e.symm)]
 rw [e1]
 refine List.map_congr_left fun p hp => ?_
 exact congrArg p.2.2.own (put_getD (h2 p (List.mem_filter.mp hp).1))
theorem rowsOf_more {listed : Array Bool} {a : Act} {v : Value} {i d : Nat} {r : MkRow} (hi : i < listed.size) (hib : listed.getD i true = false) (hd : d < a.tmps.size) : ∀ (mk : List (Nat × Nat × MkRow)), (mk.map (·.1)).Nodup → (∀ p ∈ mk, p.1 ≠ i → p.2.1 ≠ d) → (i, d, r) ∈ mk →
  (q24 mk (listed.setIfInBounds i true) (a.put (some d) v)).Perm (r.own v :: q24 mk listed a)
 | [], _, _, h => by cases h
 | p :: mk, hn, h2, hm => by
  simp only [List.map_cons, List.nodup_cons] at hn
  by_cases hp : p.1 = i
  ·have hpe : p = (i, d, r) := by
    rcases List.mem_cons.mp hm with h | h
    ·exact h.symm
    ·exact absurd (List.mem_map.mpr ⟨_, h, rfl⟩) (hp ▸ hn.1)
   subst hpe
   have hrest : q24 mk (listed.setIfInBounds i true) (a.put (some d) v) = q24 mk listed a := rowsOf_same hi (fun q hq e => hn.1 (List.mem_map.mpr ⟨q, hq, e⟩)) (fun q hq e => by
    have hqi : q.1 ≠ i := fun e => hn.1 (List.mem_map.mpr ⟨q, hq, e⟩)
    exact h2 q (List.mem_cons_of_mem _ hq) hqi (Option.some.inj e).symm)
   have e1 : q24 ((i, d, r) :: mk) (listed.setIfInBounds i true) (a.put (some d) v) = r.own v :: q24 mk (listed.setIfInBounds i true) (a.put (some d) v) := by
    unfold q24
    rw [List.filter_cons, if_pos (by show (listed.setIfInBounds i true).getD i true = true; rw [q16 hi, if_pos rfl])]
    simp only [List.map_cons]
    congr 2
    show (a.tmps.setIfInBounds d v).getD d undef = v
    simp [Array.getD_eq_getD_getElem?, hd]
   have e2 : q24 ((i, d, r) :: mk) listed a = q24 mk listed a := by
    unfold q24
    rw [List.filter_cons, if_neg (by show ¬ listed.getD i true = true; rw [hib]; simp)]
   rw [e1, e2, hrest]
  ·have hm' : (i, d, r) ∈ mk := by
    rcases List.mem_cons.mp hm with h | h
    ·exact absurd (by rw [← h]) hp
    ·exact h
   have ih := rowsOf_more hi hib hd mk hn.2 (fun q hq => h2 q (List.mem_cons_of_mem _ hq)) hm' (v := v)
   have hdp : (a.put (some d) v).tmps.getD p.2.1 undef = a.tmps.getD p.2.1 undef := put_getD (fun e => h2 p List.mem_cons_self hp (Option.some.inj e).symm)
   have hl : (listed.setIfInBounds i true).getD p.1 true = listed.getD p.1 true := by rw [q16 hi, if_neg (fun e => hp e.symm)]
   cases hb : listed.getD p.1 true with
   | true =>
    have e1 : q24 (p :: mk) (listed.setIfInBounds i true) (a.put (some d) v) = p.2.2.own (a.tmps.getD p.2.1 undef) :: q24 mk (listed.setIfInBounds i true) (a.put (some d) v) := by
     unfold q24
     rw [List.filter_cons, if_pos (by rw [hl, hb]), List.map_cons, hdp]
    have e2 : q24 (p :: mk) listed a = p.2.2.own (a.tmps.getD p.2.1 undef) :: q24 mk listed a := by
     unfold q24
     rw [List.filter_cons, if_pos hb, List.map_cons]
    rw [e1, e2]
    exact (ih.cons _).trans (List.Perm.swap _ _ _)
   | false =>
    have e1 : q24 (p :: mk) (listed.setIfInBounds i true) (a.put (some d) v) = q24 mk (listed.setIfInBounds i true) (a.put (some d) v) := by
     unfold q24
     rw [List.filter_cons, if_neg (by rw [hl, hb]; simp)]
    have e2 : q24 (p :: mk) listed a = q24 mk listed a := by
     unfold q24
     rw [List.filter_cons, if_neg (by rw [hb]; simp)]
    rw [e1, e2]
    exact ih
theorem rowsOf_none {mk : List (Nat × Nat × MkRow)} {m k : Nat} {a : Act} (h : ∀ p ∈ mk, p.1 < k) : q24 mk (Array.replicate k false) a = [] := by
 unfold q24
 have : (mk.filter fun p => (Array.replicate k false).getD p.1 true) = [] := by
  refine List.filter_eq_nil_iff.mpr fun p hp => ?_
  have := h p hp
  simp [this]
 rw [this]
 rfl
section
variable {P : Program} {n : Nat} {l : List (Nat × Value)} {ops : Array Oper} {w0 W : World} {a : Act} {Q : Exit → Act → World → Prop}
theorem regionM {id : Nat} (m : Nat) (hm : P.follows .mixedOrders = true) (L : List Fact) (mk : List (Nat × Nat × MkRow)) (hchk : (chkB ops && dstB n ops && Nat.ble m ops.size && chkT m ops && mkB ops mk m) = true) (C : Sta) (ha : Has n l a) (HW : Wd w0 W C.1 C.2)
  (hop : OpsOkM P n l L ops w0 C mk 0 (ops.toList.take m)) (hmk : ∀ p ∈ mk, L.getD p.1 .any = .pr (fun v => ∃ A c, v = .slice A p.2.2.n c))
  (hend : ∀ (a : Act) (w : World), Has n [] a → Wd w0 w C.1 ((mk.map fun p => p.2.2.own (a.tmps.getD p.2.1 undef)) ++ C.2) → (∀ s v, look l s = some v → freeB m ops s = true → a.tmps[s]? = some v) →
   (∀ (j d : Nat), Nat.blt j m = true → (ops[j]?).bind (·.dst) = some d → ∃ v, a.tmps[d]? = some v ∧ facts L j v w) → wpList P ops Q (ops.toList.drop m) a w) : (Code.region id ops true).wp P Q a W := by
 simp only [Bool.and_eq_true] at hchk
 obtain ⟨⟨⟨⟨hc1, hc2⟩, hc3⟩, hc4⟩, hc5⟩ := hchk
 have hmz := Nat.le_of_ble_eq_true hc3
 unfold mkB at hc5
 simp only [Bool.and_eq_true, decide_eq_true_eq] at hc5
 obtain ⟨hc5, hnd⟩ := hc5
 have hm1 : ∀ p ∈ mk, p.1 < m ∧ ∃ o, ops[p.1]? = some o ∧ o.dst = some p.2.1 := by
  intro p hp
  have := List.all_eq_true.mp hc5 p hp
  simp only [Bool.and_eq_true] at this
  refine ⟨Nat.le_of_ble_eq_true this.1, ?_⟩
  cases ho : ops[p.1]? with
  | none => simp [ho] at this
  | some o =>
   simp only [ho, Option.bind_some] at this
   cases hd : o.dst with
   | none => simp [hd] at this
   | some d => simp only [hd] at this; exact ⟨o, rfl, by rw [hd, Nat.eq_of_beq_eq_true this.2]⟩
 have hmkF : ∀ p ∈ mk, ∀ v w w', facts L p.1 v w → facts L p.1 v w' := by
  intro p hp v w w' h
  unfold facts at *
  rw [hmk p hp] at h ⊢
  exact h
 refine regionKT (F := fun _ => facts L) (fun listed a w => Wd w0 w C.1 (q24 mk listed a ++ C.2)) m hmz hc4 hm hc1 ha (fun k => ?_) (fun i o him hi => ?_) (fun i o d hi hd => ?_) (fun a w h1 h2 listed hls hall hJ h4 h5 => ?_)
 ·rw [rowsOf_none (m := m) (fun p hp => by have := (hm1 p hp).1; omega)]
  exact HW.drew k
 ·intro a w listed hsz hib hws _ h1 h2 hJ hseen
  have hli : i < listed.size := by rw [hsz]; exact (Array.getElem?_eq_some_iff.1 hi).1
  have hC : Wd w0 w C.1 C.2 := hJ.less (List.Sublist.refl _) (List.sublist_append_right _ _)
  have hob := OpsOkM.get (ops.toList.take m) 0 hop i o (by rw [List.getElem?_take, if_pos him]; simpa using hi)
  rw [Nat.zero_add] at hob
  cases hmi : isMk mk i with
  | some r =>
   rw [hmi] at hob
   obtain ⟨p, hp, hpi, hpr⟩ : ∃ p ∈ mk, p.1 = i ∧ p.2.2 = r := by
    unfold isMk at hmi
    cases hf : mk.find? fun p => Nat.beq p.1 i with
    | none => simp [hf] at hmi
    | some p =>
     simp only [hf, Option.map_some, Option.some.injEq] at hmi
     exact ⟨p, List.mem_of_find?_eq_some hf, Nat.eq_of_beq_eq_true (List.find?_some (p := fun p : Nat × Nat × MkRow => Nat.beq p.1 i) hf), hmi⟩
   obtain ⟨_, o', ho', hd'⟩ := hm1 p hp
   rw [hpi, hi] at ho'
   cases ho'
   obtain ⟨hw, hwp⟩ := hob a w h1 h2 hC hseen
   refine .inl ⟨hw, q1u (fun a' w' hx => ?_) (fun _ _ _ h => h) hwp⟩
   obtain ⟨v, rfl, hs, hb⟩ := hx
   have hdn : p.2.1 < n := by
    unfold dstB at hc2
    rw [Array.all_eq_true_iff_forall_mem] at hc2
    have := hc2 o (Array.mem_of_getElem? hi)
    simp only [hd'] at this
    exact Nat.le_of_ble_eq_true this
   refine ⟨v, rfl, ?_, ?_, fun j u _ hf => q35 L j u w w' hb.below hf⟩
   ·have := hmk p hp
    rw [hpi] at this
    show (L.getD i .any).holds v w'
    rw [this]
    obtain ⟨A, c, rfl⟩ := hs
    exact ⟨A, c, by rw [hpr]⟩
   ·have hperm := rowsOf_more (listed := listed) (a := a) (v := v) (i := i) (d := p.2.1) (r := r) hli hib (by rw [h1]; exact hdn) mk hnd (fun q hq hqi e => by
     obtain ⟨_, oq, hoq, hdq⟩ := hm1 q hq
     have := ((q1q hc1 hi).2 q.1 oq p.2.1 hoq (by rw [hdq, e])).1 (fun e => hqi e.symm)
     exact this hd') (by
     have : p = (i, p.2.1, r) := by rw [← hpi, ← hpr]
     rw [← this]
     exact hp)
    show Wd w0 w' C.1 (q24 mk (listed.setIfInBounds i true) (a.put o.dst v) ++ C.2)
    rw [hd']
    exact (hJ.callw hb).perm (List.Perm.refl _) ((hperm.symm.append_right _).trans (List.Perm.refl _))
  | none =>
   rw [hmi] at hob
   have hno : ∀ p ∈ mk, p.1 ≠ i := by
    intro p hp e
    unfold isMk at hmi
    cases hf : mk.find? fun p => Nat.beq p.1 i with
    | none =>
     have := List.find?_eq_none.mp hf p hp
     rw [e] at this
     simp at this
    | some q => simp [hf] at hmi
   have hnd2 : ∀ p ∈ mk, o.dst ≠ some p.2.1 := by
    intro p hp
    obtain ⟨_, oq, hoq, hdq⟩ := hm1 p hp
    exact ((q1q hc1 hi).2 p.1 oq p.2.1 hoq hdq).1 (fun e => hno p hp e.symm)
   rcases hob a w h1 h2 hC hseen with ⟨hw, hwp⟩ | ⟨hw, hF⟩
   ·refine .inl ⟨hw, q1u (fun a' w' hx => ?_) (fun _ _ _ h => h) hwp⟩
    obtain ⟨v, rfl, hF, hb⟩ := hx
    refine ⟨v, rfl, hF, ?_, fun j u _ hf => q35 L j u w w' hb hf⟩
    show Wd w0 w' C.1 (q24 mk (listed.setIfInBounds i true) (a.put o.dst v) ++ C.2)
    rw [rowsOf_same hli hno hnd2]
    exact hJ.call hb
   ·refine .inr ⟨hw, hF, ?_, fun j u _ hf => hf⟩
    show Wd w0 w C.1 (q24 mk (listed.setIfInBounds i true) (a.put o.dst undef) ++ C.2)
    rw [rowsOf_same hli hno hnd2]
    exact hJ
 ·unfold dstB at hc2
  rw [Array.all_eq_true_iff_forall_mem] at hc2
  have := hc2 o (Array.mem_of_getElem? hi)
  simp only [hd] at this
  exact Nat.le_of_ble_eq_true this
 ·have hall' : q24 mk listed a = mk.map fun p => p.2.2.own (a.tmps.getD p.2.1 undef) := by
   unfold q24
   rw [List.filter_eq_self.mpr (fun p hp => hall p.1 (hm1 p hp).1)]
  refine hend a w (q0a h1 h2) (by rw [← hall']; exact hJ) (fun s v hv hf => h4 s v hv (fun j o hjm hj hd => ?_)) (fun j d hjm hj => ?_)
  ·unfold freeB at hf
   have hmem : o ∈ ops.toList.take m := by
    refine List.mem_of_getElem? (i := j) ?_
    rw [List.getElem?_take, if_pos hjm]
    simpa using hj
   have := List.all_eq_true.mp hf o hmem
   simp [hd] at this
  ·cases ho : ops[j]? with
   | none => simp [ho] at hj
   | some o => exact h5 j o d (Nat.le_of_ble_eq_true hjm) ho (by simpa [ho] using hj)
end
end Go.Proofs.YtokdiacjcbolfaaDoor.X
