/- The walker's own words: a frame told by a list of its slots, a world told by the blocks and rows that the call has made, and one lemma for each kind of operation. No condition. -/
import Derived.WalkKit
import Derived.KernelRfl
import Derived.LoopN
import Derived.Deep.Quiet
import Derived.Maps.AppendAt
import Derived.Lib.ConvBytes
import Derived.Laws.BytesArg
import Derived.Laws.MakeOwn
namespace Go.Proofs.Ytdcojinnjpihaaa.X
open Go Go.RowKit

/-- Both sides are the same by computing, where no proof is given. -/
theorem KR {p : Prop} (h : p := by kernel_rfl) : p := h

/-! ### The frame -/
def look : List (Nat × Value) → Nat → Option Value
  | [], _ => none
  | p :: r, i => match Nat.beq p.1 i with
    | true => some p.2
    | false => look r i

def ev (l : List (Nat × Value)) : Operand → Value
  | .tmp t => (look l t).getD undef
  | .const v => v
  | .global g => .pointer (some ⟨g, 0, none⟩)
  | .func f => .func (.func f) #[] #[]

structure Has (n : Nat) (l : List (Nat × Value)) (a : Act) : Prop where
  size : a.tmps.size = n
  defers : a.defers = []
  slot : ∀ i v, look l i = some v → a.tmps[i]? = some v

def known1 (l : List (Nat × Value)) : Operand → Bool
  | .tmp t => (look l t).isSome
  | _ => true

def noSel (o : Oper) : Bool := match o.op with
  | .select .. => false
  | _ => true

def known (l : List (Nat × Value)) (o : Oper) : Bool := noSel o && o.op.operands.all (known1 l)

def yl (l : List (Nat × Value)) (ops : Array Oper) (j : Nat) : Option Bool :=
  match ((ops[j]?).bind (·.dst)).bind (look l) with
  | some (.bool b) => some b
  | _ => none

def onB (l : List (Nat × Value)) (ops : Array Oper) : Option (Nat × Bool) → Bool
  | none => true
  | some (j, want) => match yl l ops j with
    | some b => b == want
    | none => false

def isB : Value → Bool
  | .bool _ => true
  | _ => false

def offB (l : List (Nat × Value)) (ops : Array Oper) : Option (Nat × Bool) → Bool
  | none => false
  | some (j, want) => match yl l ops j with
    | some b => b != want
    | none => match ((ops[j]?).bind (·.dst)).bind (look l) with
      | some v => !isB v
      | none => false

section
variable {n : Nat} {l : List (Nat × Value)} {a : Act}

theorem Has.ev_eq (h : Has n l a) (x : Operand) (hx : known1 l x = true) : a.eval x = ev l x := by
  cases x with
  | tmp t =>
    simp only [known1, Option.isSome_iff_exists] at hx
    obtain ⟨v, hv⟩ := hx
    have := h.slot t v hv
    simp [Act.eval, ev, hv, Array.getD_eq_getD_getElem?, this]
  | const v => rfl
  | global g => rfl
  | func f => rfl

theorem exec_eq (h : Has n l a) (o : Oper) (hk : known l o = true) : execOp a.eval o = execOp (ev l) o := by
  simp only [known, Bool.and_eq_true] at hk
  refine execOp_congr o ?_ ?_
  · intro cs b e
    simp [noSel, e] at hk
  · intro x hx
    have := hk.2
    rw [Array.all_eq_true_iff_forall_mem] at this
    exact h.ev_eq x (this x hx)

theorem Has.yl_eq (h : Has n l a) (ops : Array Oper) (j : Nat) (b : Bool) (hy : yl l ops j = some b) : yielded ops a.tmps j = some b := by
  unfold yl at hy
  unfold yielded
  cases hd : (ops[j]?).bind (·.dst) with
  | none => simp [hd] at hy
  | some d =>
    simp only [hd, Option.bind_some] at hy ⊢
    cases hv : look l d with
    | none => simp [hv] at hy
    | some v =>
      rw [h.slot d v hv]
      simp only [hv] at hy
      exact hy

theorem Has.on (h : Has n l a) (ops : Array Oper) (o : Oper) (hb : onB l ops o.guard = true) : Region.wanted o (yielded ops a.tmps) = true := by
  unfold Region.wanted
  cases hg : o.guard with
  | none => rfl
  | some p =>
    obtain ⟨j, want⟩ := p
    simp only [hg, onB] at hb
    cases hy : yl l ops j with
    | none => simp [hy] at hb
    | some b =>
      simp only [hy] at hb
      simp [h.yl_eq ops j b hy, beq_iff_eq.mp hb]

theorem Has.off (h : Has n l a) (ops : Array Oper) (o : Oper) (hb : offB l ops o.guard = true) : Region.wanted o (yielded ops a.tmps) = false := by
  unfold Region.wanted
  cases hg : o.guard with
  | none => simp [hg, offB] at hb
  | some p =>
    obtain ⟨j, want⟩ := p
    simp only [hg, offB] at hb
    cases hy : yl l ops j with
    | none =>
      simp only [hy] at hb
      cases hd : (ops[j]?).bind (·.dst) with
      | none => simp [hd] at hb
      | some d =>
        simp only [hd, Option.bind_some] at hb
        cases hv : look l d with
        | none => simp [hv] at hb
        | some v =>
          simp only [hv] at hb
          have hyl : yielded ops a.tmps j = none := by
            unfold yielded
            rw [hd, Option.bind_some, h.slot d v hv]
            cases v <;> first | rfl | (simp [isB] at hb)
          simp [hyl]
    | some b =>
      simp only [hy, bne_iff_ne, ne_eq] at hb
      simp [h.yl_eq ops j b hy, hb]

theorem Has.put (h : Has n l a) {d : Nat} (hd : d < n) (v : Value) : Has n ((d, v) :: l) (a.put (some d) v) := by
  refine ⟨by simp [Act.put, h.size], h.defers, ?_⟩
  intro i u hu
  simp only [look] at hu
  show (a.tmps.setIfInBounds d v)[i]? = some u
  rw [Array.getElem?_setIfInBounds]
  cases hb : Nat.beq d i with
  | true =>
    have e : d = i := Nat.eq_of_beq_eq_true hb
    subst e
    simp only [hb] at hu
    rw [if_pos rfl, if_pos (by rw [h.size]; exact hd)]
    exact hu
  | false =>
    have e : d ≠ i := Nat.ne_of_beq_eq_false hb
    simp only [hb] at hu
    rw [if_neg e]
    exact h.slot i u hu

/-- A frame told by fewer slots. -/
theorem Has.sub {l' : List (Nat × Value)} (h : Has n l a) (hs : ∀ p, p ∈ l' → look l p.1 = some p.2) : Has n l' a := by
  refine ⟨h.size, h.defers, ?_⟩
  intro i v hv
  have : ∀ (m : List (Nat × Value)), look m i = some v → (i, v) ∈ m := by
    intro m
    induction m with
    | nil => intro h; simp [look] at h
    | cons p r ih =>
      intro hm
      simp only [look] at hm
      cases hb : Nat.beq p.1 i with
      | true =>
        simp only [hb] at hm
        have e : p.1 = i := Nat.eq_of_beq_eq_true hb
        have e2 : p.2 = v := Option.some.inj hm
        have : p = (i, v) := Prod.ext e e2
        rw [this]; exact List.mem_cons_self
      | false =>
        simp only [hb] at hm
        exact List.mem_cons_of_mem _ (ih hm)
  exact h.slot i v (hs (i, v) (this l' hv))

/-- A told truth value that a test has decided. -/
theorem Has.bool (h : Has n l a) (d : Nat) {b c : Bool} (hl : look l d = some (.bool b)) (hb : b = c) : Has n ((d, .bool c) :: l) a := by
  subst hb
  refine ⟨h.size, h.defers, ?_⟩
  intro i u hu
  simp only [look] at hu
  cases hd : Nat.beq d i with
  | true =>
    simp only [hd] at hu
    have e : d = i := Nat.eq_of_beq_eq_true hd
    subst e
    rw [← hu]
    exact h.slot d _ hl
  | false =>
    simp only [hd] at hu
    exact h.slot i u hu

/-- A slot's value, spelled otherwise. -/
theorem Has.turn (h : Has n l a) (d : Nat) {u v : Value} (hl : look l d = some u) (e : u = v) : Has n ((d, v) :: l) a := by
  subst e
  refine ⟨h.size, h.defers, ?_⟩
  intro i w hu
  simp only [look] at hu
  cases hd : Nat.beq d i with
  | true =>
    simp only [hd] at hu
    have e : d = i := Nat.eq_of_beq_eq_true hd
    subst e
    rw [← hu]
    exact h.slot d _ hl
  | false =>
    simp only [hd] at hu
    exact h.slot i w hu
end

theorem subs_nil (l : List (Nat × Value)) : ∀ p, p ∈ ([] : List (Nat × Value)) → look l p.1 = some p.2 := fun p h => by cases h
theorem subs_cons {l r : List (Nat × Value)} {i : Nat} {v : Value} (h : look l i = some v) (hr : ∀ p, p ∈ r → look l p.1 = some p.2) : ∀ p, p ∈ (i, v) :: r → look l p.1 = some p.2 := by
  intro p hp
  rcases List.mem_cons.mp hp with e | e
  · subst e; exact h
  · exact hr p e

/-- A call begins. -/
theorem sxstart {P : Program} {f : FuncId} {fn : Func} {c : Code} {args : Array Value} {W : World} {R : Ending → World → Prop} {n : Nat} {l : List (Nat × Value)}
    (hf : P.funcs[f]? = some fn) (hb : fn.body = some c) (hn : fn.ntmps = n) (hs : args.size ≤ n) (hl : ∀ p, p ∈ l → args[p.1]? = some p.2)
    (h : ∀ a, Has n l a → c.wp P (bodyPost P fn R) a W) : Calls P f args W R := by
  refine calls_of_wp hf hb (h _ ?_)
  refine ⟨by simp [hn]; omega, rfl, ?_⟩
  intro i v hv
  have hm : ∀ (m : List (Nat × Value)), look m i = some v → (i, v) ∈ m := by
    intro m
    induction m with
    | nil => intro h; simp [look] at h
    | cons p r ih =>
      intro hm
      simp only [look] at hm
      cases hb : Nat.beq p.1 i with
      | true =>
        simp only [hb] at hm
        have e : p.1 = i := Nat.eq_of_beq_eq_true hb
        have e2 : p.2 = v := Option.some.inj hm
        have : p = (i, v) := Prod.ext e e2
        rw [this]; exact List.mem_cons_self
      | false =>
        simp only [hb] at hm
        exact List.mem_cons_of_mem _ (ih hm)
  have := hl _ (hm l hv)
  rw [Array.getElem?_append]
  have hlt : i < args.size := (Array.getElem?_eq_some_iff.1 this).1
  rw [if_pos hlt]
  exact this

/-! ### One operation -/
section
variable {P : Program} {n : Nat} {l : List (Nat × Value)} {a : Act} {ops : Array Oper} {o : Oper} {rest : List Oper} {Q : Exit → Act → World → Prop} {W W' : World}

def okB (n : Nat) (l : List (Nat × Value)) (ops : Array Oper) (o : Oper) (d : Nat) : Bool :=
  known l o && onB l ops o.guard && Nat.blt d n && (match o.dst with | some e => Nat.beq e d | none => false)

theorem okB_spec {d : Nat} (h : okB n l ops o d = true) : known l o = true ∧ onB l ops o.guard = true ∧ d < n ∧ o.dst = some d := by
  simp only [okB, Bool.and_eq_true] at h
  obtain ⟨⟨⟨h1, h2⟩, h3⟩, h4⟩ := h
  refine ⟨h1, h2, Nat.le_of_ble_eq_true h3, ?_⟩
  cases hd : o.dst with
  | none => simp [hd] at h4
  | some e => simp only [hd] at h4; rw [Nat.eq_of_beq_eq_true h4]

/-- An operation that yields a value. -/
theorem stepv (ha : Has n l a) (d : Nat) (v : Value) (hok : okB n l ops o d = true) (hx : (execOp (ev l) o).run P W = .ok (.value v) W')
    (h : ∀ a', Has n ((d, v) :: l) a' → wpList P ops Q rest a' W') : wpList P ops Q (o :: rest) a W := by
  obtain ⟨h1, h2, h3, h4⟩ := okB_spec hok
  unfold wpList
  rw [if_pos (ha.on ops o h2)]
  refine .inl ?_
  unfold Oper.wp
  rw [exec_eq ha o h1, hx, Oper.upon_value, h4]
  exact h _ (ha.put h3 v)

def okS (l : List (Nat × Value)) (ops : Array Oper) (o : Oper) : Bool :=
  known l o && onB l ops o.guard && o.dst.isNone

/-- An operation that yields nothing. -/
theorem steps (ha : Has n l a) (hok : okS l ops o = true) (hx : (execOp (ev l) o).run P W = .ok .skip W')
    (h : ∀ a', Has n l a' → wpList P ops Q rest a' W') : wpList P ops Q (o :: rest) a W := by
  simp only [okS, Bool.and_eq_true, Option.isNone_iff_eq_none] at hok
  obtain ⟨⟨h1, h2⟩, h3⟩ := hok
  unfold wpList
  rw [if_pos (ha.on ops o h2)]
  refine .inl ?_
  unfold Oper.wp
  rw [exec_eq ha o h1, hx, Oper.upon_skip, h3]
  exact h _ ha

/-- A call. -/
theorem stepc (ha : Has n l a) (d : Nat) {f : FuncId} {args : Array Value} {R : Ending → World → Prop} (hok : okB n l ops o d = true) (hx : (execOp (ev l) o).run P W = .ok (.enter f args) W)
    (hc : Calls P f args W R) (h : ∀ e W', R e W' → ∃ v, e = .returned v ∧ ∀ a', Has n ((d, v) :: l) a' → wpList P ops Q rest a' W') : wpList P ops Q (o :: rest) a W := by
  obtain ⟨h1, h2, h3, h4⟩ := okB_spec hok
  unfold wpList
  rw [if_pos (ha.on ops o h2)]
  refine .inl ?_
  unfold Oper.wp
  rw [exec_eq ha o h1, hx, Oper.upon_enter]
  refine hc.mono fun e W1 hR => ?_
  obtain ⟨v, rfl, hv⟩ := h e W1 hR
  show wpList P ops Q rest (a.put o.dst v) W1
  rw [h4]
  exact hv _ (ha.put h3 v)

/-- A call without a result. -/
theorem stepc0 (ha : Has n l a) {f : FuncId} {args : Array Value} {R : Ending → World → Prop} (hok : okS l ops o = true) (hx : (execOp (ev l) o).run P W = .ok (.enter f args) W)
    (hc : Calls P f args W R) (h : ∀ e W', R e W' → ∃ v, e = .returned v ∧ ∀ a', Has n l a' → wpList P ops Q rest a' W') : wpList P ops Q (o :: rest) a W := by
  simp only [okS, Bool.and_eq_true, Option.isNone_iff_eq_none] at hok
  obtain ⟨⟨h1, h2⟩, h3⟩ := hok
  unfold wpList
  rw [if_pos (ha.on ops o h2)]
  refine .inl ?_
  unfold Oper.wp
  rw [exec_eq ha o h1, hx, Oper.upon_enter]
  refine hc.mono fun e W1 hR => ?_
  obtain ⟨v, rfl, hv⟩ := h e W1 hR
  show wpList P ops Q rest (a.put o.dst v) W1
  rw [h3]
  exact hv _ ha

def okO (n : Nat) (l : List (Nat × Value)) (ops : Array Oper) (o : Oper) (d : Nat) : Bool :=
  offB l ops o.guard && Nat.blt d n && (match o.dst with | some e => Nat.beq e d | none => false)

/-- An operation whose guard says no. -/
theorem stepo (ha : Has n l a) (d : Nat) (hok : okO n l ops o d = true) (h : ∀ a', Has n ((d, undef) :: l) a' → wpList P ops Q rest a' W) : wpList P ops Q (o :: rest) a W := by
  simp only [okO, Bool.and_eq_true] at hok
  obtain ⟨⟨h1, h2⟩, h3⟩ := hok
  have h4 : o.dst = some d := by
    cases hd : o.dst with
    | none => simp [hd] at h3
    | some e => simp only [hd] at h3; rw [Nat.eq_of_beq_eq_true h3]
  have h5 : d < n := Nat.le_of_ble_eq_true h2
  unfold wpList
  rw [if_neg (by simp [ha.off ops o h1]), h4]
  exact h _ (ha.put h5 undef)

/-- The same, of an operation that yields nothing. -/
theorem stepo0 (ha : Has n l a) (hok : (offB l ops o.guard && o.dst.isNone) = true) (h : ∀ a', Has n l a' → wpList P ops Q rest a' W) : wpList P ops Q (o :: rest) a W := by
  simp only [Bool.and_eq_true, Option.isNone_iff_eq_none] at hok
  unfold wpList
  rw [if_neg (by simp [ha.off ops o hok.1]), hok.2]
  exact h _ ha

theorem endl (h : Q .normal a W) : wpList P ops Q [] a W := h
end

/-! ### Code -/
section
variable {P : Program} {n : Nat} {l : List (Nat × Value)} {a : Act} {Q : Exit → Act → World → Prop} {W : World} {x y : Code}

theorem condH (ha : Has n l a) {c : Operand} (t : Bool) (hk : known1 l c = true) (hc : ev l c = .bool t) (h1 : t = true → x.wp P Q a W) (h2 : t = false → y.wp P Q a W) : (Code.cond c x y).wp P Q a W :=
  wp_cond_split (t := t) (by rw [ha.ev_eq c hk, hc]) h1 h2

theorem condT (ha : Has n l a) {c : Operand} {t : Bool} (hk : known1 l c = true) (hc : ev l c = .bool t) (ht : t = true) (h1 : x.wp P Q a W) : (Code.cond c x y).wp P Q a W :=
  condH ha t hk hc (fun _ => h1) (fun e => by rw [ht] at e; cases e)

theorem condF (ha : Has n l a) {c : Operand} {t : Bool} (hk : known1 l c = true) (hc : ev l c = .bool t) (ht : t = false) (h1 : y.wp P Q a W) : (Code.cond c x y).wp P Q a W :=
  condH ha t hk hc (fun e => by rw [ht] at e; cases e) (fun _ => h1)

/-- Where ways meet: what is told of the frame and the world there. -/
theorem cutn (J : Act → World → Prop) {K : Act → World → Prop} (h : x.wp P (Exit.then J Q) a W) (hJ : ∀ a W, J a W → K a W) : x.wp P (Exit.then K Q) a W :=
  Code.wp_mono (fun e a w q => by cases e <;> first | exact hJ _ _ q | exact q) h

theorem cutl {ops : Array Oper} {ls : List Oper} (J : Act → World → Prop) {K : Act → World → Prop} (h : wpList P ops (Exit.then J Q) ls a W) (hJ : ∀ a W, J a W → K a W) : wpList P ops (Exit.then K Q) ls a W := by
  have gen : ∀ (ls : List Oper) (a : Act) (W : World), wpList P ops (Exit.then J Q) ls a W → wpList P ops (Exit.then K Q) ls a W := by
    intro ls
    induction ls with
    | nil => intro a W h; exact hJ _ _ h
    | cons o r ih =>
      intro a W h
      unfold wpList at h ⊢
      split
      · rename_i hw
        rw [if_pos hw] at h
        rcases h with h | ⟨h1, a1, w1, h2⟩
        · refine .inl ?_
          unfold Oper.wp at h ⊢
          generalize (execOp a.eval o).run P W = res at h ⊢
          cases res with
          | ok nx w' =>
            cases nx with
            | value v => exact ih _ _ h
            | skip => exact ih _ _ h
            | defer d => exact ih _ _ h
            | enter f args =>
              refine Calls.mono h fun e w'' hq => ?_
              cases e with
              | returned v => exact ih _ _ hq
              | panicked ch => exact hq
              | outgrown => exact hq
            | row r args => exact Rows.mono h fun v w'' hq => ih _ _ hq
            | _ => exact h
          | halt hh w' => cases hh <;> exact h
        · exact .inr ⟨h1, a1, w1, h2⟩
      · rename_i hw
        rw [if_neg hw] at h
        exact ih _ _ h
  exact gen ls a W h

theorem inBlk {id : Nat} (h : Q .normal a W) : Exit.inBlock id Q (.exit id) a W := by simpa [Exit.inBlock] using h
theorem inBlkNe {id i : Nat} (hne : (i == id) = false) (h : Q (.exit i) a W) : Exit.inBlock id Q (.exit i) a W := by
  have : ¬ i = id := by simpa using hne
  simpa [Exit.inBlock, this] using h

/-- A loop by its rounds. -/
theorem loopk (I : Nat → Act → World → Prop) (k : Nat) (h0 : I k a W)
    (round : ∀ k a W, I k a W → x.wp P (Exit.then (fun a' W' => ∃ k', k' < k ∧ I k' a' W') Q) a W) : (Code.loop x).wp P Q a W := by
  intro b kk cs
  have key : ∀ k a w, I k a w → ∃ e a' w', Q e a' w' ∧ Arrives P (lone (b.at a (.code x :: .inLoop x :: kk)) cs w) b kk cs e a' w' := by
    intro k
    induction k using Nat.strongRecOn with
    | _ k ih =>
      intro a w hI
      obtain ⟨e, a₁, w₁, hq, harr⟩ := round k a w hI b (.inLoop x :: kk) cs
      cases e with
      | normal =>
        obtain ⟨k', hlt, hI₁⟩ := hq
        obtain ⟨e₂, a₂, w₂, hq₂, harr₂⟩ := ih k' hlt a₁ w₁ hI₁
        exact ⟨e₂, a₂, w₂, hq₂, .of_steps (Steps.trans harr (.one step_inLoop)) harr₂⟩
      | exit id => exact ⟨_, a₁, w₁, hq, .pass (x := .inLoop x) rfl (fun _ _ => .inl (by simp)) harr⟩
      | goto l => exact ⟨_, a₁, w₁, hq, .pass (x := .inLoop x) rfl (fun _ _ => .inl (by simp)) harr⟩
      | ret => exact ⟨_, a₁, w₁, hq, .pass (x := .inLoop x) rfl (fun _ _ => .inl (by simp)) harr⟩
      | panic ch => exact ⟨_, a₁, w₁, hq, .pass (x := .inLoop x) rfl (fun _ _ => .inl (by simp)) harr⟩
      | outgrown => exact ⟨_, a₁, w₁, hq, .pass (x := .inLoop x) rfl (fun _ _ => .inl (by simp)) harr⟩
  obtain ⟨e, a', w', hq, harr⟩ := key k a W h0
  exact ⟨e, a', w', hq, .of_steps (.one step_loop) harr⟩

/-- The end of a call. -/
theorem fin {fn : Func} {R : Ending → World → Prop} (ha : Has n l a) {v : Value} (hr : ∀ t, Has n l ⟨t, []⟩ → (results fn t).run P W = .ok v W) (hR : R (.returned v) W) : bodyPost P fn R .ret a W :=
  ⟨ha.defers, v, hr a.tmps ⟨ha.size, rfl, ha.slot⟩, hR⟩
end
end Go.Proofs.Ytdcojinnjpihaaa.X
