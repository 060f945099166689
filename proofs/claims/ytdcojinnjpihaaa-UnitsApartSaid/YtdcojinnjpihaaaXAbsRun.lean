/- The plain run of code, and that the model's run comes to the same. No condition. -/
import Derived.Test.YtdcojinnjpihaaaXAbsOp4
namespace Go.Proofs.Ytdcojinnjpihaaa.X
open Go Go.RowKit

/-- A list's element, or nothing: by its recursor. -/
noncomputable def getQ (fr : List Value) : Nat → Value :=
  List.rec (motive := fun _ => Nat → Value) (fun _ => undef) (fun x _ ih n => Nat.rec (motive := fun _ => Value) x (fun m _ => ih m) n) fr

theorem getQ_eq : ∀ (fr : List Value) (t : Nat), getQ fr t = (fr[t]?).getD undef
  | [], _ => rfl
  | _ :: _, 0 => rfl
  | x :: r, t + 1 => by
    rw [List.getElem?_cons_succ]
    exact getQ_eq r t

noncomputable def setQ (v : Value) (fr : List Value) : Nat → List Value :=
  List.rec (motive := fun _ => Nat → List Value) (fun _ => []) (fun x r ih n => Nat.rec (motive := fun _ => List Value) (v :: r) (fun m _ => x :: ih m) n) fr

theorem setQ_eq (v : Value) : ∀ (fr : List Value) (t : Nat), setQ v fr t = fr.set t v
  | [], _ => rfl
  | _ :: _, 0 => rfl
  | x :: r, t + 1 => by
    rw [List.set_cons_succ, ← setQ_eq v r t]
    rfl

noncomputable def frget (fr : List Value) (t : Nat) : Value := getQ fr t

theorem frget_eq (fr : List Value) (t : Nat) : frget fr t = (fr[t]?).getD undef := getQ_eq fr t

noncomputable def aev (fr : List Value) : Operand → Value
  | .tmp t => frget fr t
  | .const v => v
  | .global g => .pointer (some ⟨g, 0, none⟩)
  | .func f => .func (.func f) #[] #[]

def opd1 (ng : Nat) : Operand → Bool
  | .const v => flat v
  | .global g => Nat.blt g ng
  | _ => true

/-- The operands are fit. -/
def opsOk (ng : Nat) (op : Op) : Bool := match op with
  | .move x | .assign x | .box _ x | .load _ x | .nilCheck x | .unOp _ _ x | .convert _ _ x | .fieldAddr _ x _ | .field _ x _ | .extract x _ => opd1 ng x
  | .store _ a v | .binOp _ _ a v _ | .makeSlice _ a v | .indexAddr _ a v | .index _ a v => opd1 ng a && opd1 ng v
  | .alloc _ => true
  | .call c => match c.callee with
    | .value f => opd1 ng f && c.args.toList.all (opd1 ng)
    | .builtin _ => c.args.toList.all (opd1 ng)
    | _ => op.operands.all (opd1 ng)
  | _ => op.operands.all (opd1 ng)

theorem opsOk_all {ng : Nat} {op : Op} (h : opsOk ng op = true) : op.operands.all (opd1 ng) = true := by
  unfold opsOk at h
  split at h
  case h_17 c => 
    split at h
    · rename_i f hc
      simp only [Bool.and_eq_true] at h
      rw [Array.all_eq_true_iff_forall_mem]
      intro x hx
      simp only [Op.operands, Call.operands, hc] at hx
      rcases Array.mem_append.mp hx with h1 | h1
      · simp at h1; rw [h1]; exact h.1
      · exact List.all_eq_true.mp h.2 x (Array.mem_toList_iff.mpr h1)
    · rename_i b hc
      rw [Array.all_eq_true_iff_forall_mem]
      intro x hx
      simp only [Op.operands, Call.operands, hc] at hx
      rcases Array.mem_append.mp hx with h1 | h1
      · simp at h1
      · exact List.all_eq_true.mp h x (Array.mem_toList_iff.mpr h1)
    · exact h
  all_goals first | exact h | (simp only [Bool.and_eq_true] at h; simp [Op.operands, h]) | simp [Op.operands, h]

noncomputable def fput (fr : List Value) (d : Option Nat) (v : Value) : List Value := match d with
  | some d => setQ v fr d
  | none => fr

theorem fput_eq (fr : List Value) (d : Option Nat) (v : Value) : fput fr d v = match d with
  | some d => fr.set d v
  | none => fr := by
  cases d with
  | none => rfl
  | some d => exact setQ_eq v fr d

def ayield (ops : Array Oper) (fr : List Value) (j : Nat) : Option Bool := match (ops[j]?).bind (·.dst) with
  | none => none
  | some d => match fr[d]? with
    | some (.bool b) => some b
    | _ => none

def awant (ops : Array Oper) (fr : List Value) (o : Oper) : Bool := match o.guard with
  | none => true
  | some (j, want) => match ayield ops fr j with
    | some b => b == want
    | none => false

abbrev CallF := Nat → List Value → Heap → Option (Value × Heap)

def applyR (call : CallF) (H : Heap) : ARes → Option (Value × Heap)
  | .val v => some (v, H)
  | .alloc c e sl => some (fresh H.next sl, H.add (.row c e))
  | .write k c e => some (undef, H.put k (.row c e))
  | .grow none c e n => some (.slice (some ⟨H.next, 0, none⟩) n n, H.add (.row c (e, false)))
  | .grow (some k) c e n => some (.slice (some ⟨H.next, 0, none⟩) n n, (H.put k .dead).add (.row c (e, false)))
  | .kill k v => some (v, H.put k .dead)
  | .newMap => some (.map (some H.next), H.add (.map [] 0))
  | .mapPut k es cl d => some (match d with | true => .tuple #[] | false => undef, H.put k (.map es cl))
  | .enter f args => call f args H

noncomputable def stepO (P : Program) (ng : Nat) (call : CallF) (ops : Array Oper) (o : Oper) (go : List Value → Heap → Option (List Value × Heap)) (fr : List Value) (H : Heap) : Option (List Value × Heap) := match awant ops fr o with
    | false => go (fput fr o.dst undef) H
    | true => match opsOk ng o.op with
      | false => none
      | true => match aopQ P H.get o (aev fr) with
        | none => none
        | some res => match applyR call H res with
          | none => none
          | some (v, H') => go (fput fr o.dst v) H'

noncomputable def runO (P : Program) (ng : Nat) (call : CallF) (ops : Array Oper) (l : List Oper) : List Value → Heap → Option (List Value × Heap) :=
  List.rec (motive := fun _ => List Value → Heap → Option (List Value × Heap)) (fun fr H => some (fr, H)) (fun o _ ih => stepO P ng call ops o ih) l

theorem runO_nil (P : Program) (ng : Nat) (call : CallF) (ops : Array Oper) (fr : List Value) (H : Heap) : runO P ng call ops [] fr H = some (fr, H) := rfl
theorem runO_cons (P : Program) (ng : Nat) (call : CallF) (ops : Array Oper) (o : Oper) (r : List Oper) (fr : List Value) (H : Heap) : runO P ng call ops (o :: r) fr H = stepO P ng call ops o (runO P ng call ops r) fr H := rfl

/-- Frames are alike. -/
def FR (ds : List Deferred) (μ : Nat → Option Loc) (fr : List Value) (a : Act) : Prop := a.defers = ds ∧ VL μ fr a.tmps.toList

/-- Numbers from one on are free. -/
def Free (μ : Nat → Option Loc) (n : Nat) : Prop := ∀ k, n ≤ k → μ k = none

/-- The package's variables bear their own numbers. -/
def Glob (μ : Nat → Option Loc) (ng : Nat) : Prop := ∀ g, g < ng → ∃ l, μ g = some l ∧ l.b = g ∧ l.p = 0

theorem Glob.ext {μ μ' : Nat → Option Loc} {ng : Nat} (h : Glob μ ng) (he : Ext μ μ') : Glob μ' ng := fun g hg => by
  obtain ⟨l, h1, h2⟩ := h g hg
  exact ⟨l, he _ _ h1, h2⟩

theorem FR.ext {ds : List Deferred} {μ μ' : Nat → Option Loc} {fr : List Value} {a : Act} (h : FR ds μ fr a) (he : Ext μ μ') : FR ds μ' fr a := ⟨h.1, h.2.ext he⟩

theorem Free.add {μ : Nat → Option Loc} {n : Nat} {l : Loc} (h : Free μ n) : Free (upd μ n l) (n + 1) := fun k hk => by
  rw [upd_ne (by omega)]; exact h k (by omega)

/-- What had a place keeps it; numbers below one bear nothing new. -/
structure ExtN (n : Nat) (μ μ' : Nat → Option Loc) : Prop where
  ext : Ext μ μ'
  low : ∀ k, k < n → μ' k = μ k

theorem ExtN.refl (n : Nat) (μ : Nat → Option Loc) : ExtN n μ μ := ⟨Ext.refl μ, fun _ _ => rfl⟩
theorem ExtN.trans {n m : Nat} {μ μ' μ'' : Nat → Option Loc} (h : ExtN n μ μ') (h' : ExtN m μ' μ'') (hle : n ≤ m) : ExtN n μ μ'' := ⟨h.ext.trans h'.ext, fun k hk => (h'.low k (by omega)).trans (h.low k hk)⟩
theorem ExtN.upd {n : Nat} {μ : Nat → Option Loc} {l : Loc} (h : μ n = none) : ExtN n μ (X.upd μ n l) := ⟨upd_ext h, fun k hk => upd_ne (by omega)⟩

/-- No block is lost. -/
structure Dom (H H' : Heap) : Prop where
  get : ∀ k o, H.get k = some o → ∃ o', H'.get k = some o'
  next : H.next ≤ H'.next

theorem Dom.refl (H : Heap) : Dom H H := ⟨fun _ o h => ⟨o, h⟩, Nat.le_refl _⟩
theorem Dom.trans {H H' H'' : Heap} (h : Dom H H') (h' : Dom H' H'') : Dom H H'' := ⟨fun k o hk => by obtain ⟨o', h1⟩ := h.get k o hk; exact h'.get k o' h1, Nat.le_trans h.next h'.next⟩
theorem Dom.put (H : Heap) (k : Nat) (o : AObj) : Dom H (H.put k o) := ⟨fun j o' h => by
  rw [Heap.get_put]
  by_cases e : j = k
  · rw [if_pos e]; exact ⟨_, rfl⟩
  · rw [if_neg e]; exact ⟨o', h⟩, Nat.le_refl _⟩
theorem Dom.add (H : Heap) (o : AObj) : Dom H (H.add o) := ⟨fun j o' h => by
  rw [Heap.get_add]
  by_cases e : j = H.next
  · rw [if_pos e]; exact ⟨_, rfl⟩
  · rw [if_neg e]; exact ⟨o', h⟩, Nat.le_succ _⟩

/-- A call, of a function with a body or without one. -/
def Calls2 (P : Program) (f : Nat) (args : Array Value) (W : World) (R : Ending → World → Prop) : Prop := match (P.funcs[f]?).bind (·.body) with
  | some _ => Calls P f args W R
  | none => ∃ v W', (callFunc f args).run P W = .ok (.value v) W' ∧ R (.returned v) W'

/-- What a call comes to. -/
structure CallOk (P : Program) (ng f : Nat) (args : List Value) (H : Heap) (v : Value) (H' : Heap) : Prop where
  dom : Dom H H'
  calls : ∀ (w0 : World) (μ : Nat → Option Loc) (E : Nat → Option AObj) (W : World) (args' : Array Value), Free μ H.next → Glob μ ng → HR P w0 μ (ov H E) W → VL μ args args'.toList →
    Calls2 P f args' W fun e W' => ∃ μ' v', e = .returned v' ∧ ExtN H.next μ μ' ∧ VR μ' v v' ∧ Free μ' H'.next ∧ HR P w0 μ' (ov H' E) W'

theorem applyR_dom {P : Program} {ng : Nat} {call : CallF} (hcall : ∀ f args H v H', call f args H = some (v, H') → CallOk P ng f args H v H') {H H' : Heap} {res : ARes} {v : Value} (h : applyR call H res = some (v, H')) : Dom H H' := by
  cases res with
  | val u => simp only [applyR, Option.some.injEq, Prod.mk.injEq] at h; rw [← h.2]; exact .refl _
  | alloc c e sl => simp only [applyR, Option.some.injEq, Prod.mk.injEq] at h; rw [← h.2]; exact .add _ _
  | write k c e => simp only [applyR, Option.some.injEq, Prod.mk.injEq] at h; rw [← h.2]; exact .put _ _ _
  | grow j c e n => cases j with
    | none => simp only [applyR, Option.some.injEq, Prod.mk.injEq] at h; rw [← h.2]; exact .add _ _
    | some j => simp only [applyR, Option.some.injEq, Prod.mk.injEq] at h; rw [← h.2]; exact (Dom.put _ _ _).trans (.add _ _)
  | kill k u => simp only [applyR, Option.some.injEq, Prod.mk.injEq] at h; rw [← h.2]; exact .put _ _ _
  | newMap => simp only [applyR, Option.some.injEq, Prod.mk.injEq] at h; rw [← h.2]; exact .add _ _
  | mapPut k es cl d => simp only [applyR, Option.some.injEq, Prod.mk.injEq] at h; rw [← h.2]; exact .put _ _ _
  | enter f args => exact (hcall f args H v H' h).dom

section
variable {ds : List Deferred} {P : Program} {ng : Nat} {w0 W : World} {μ : Nat → Option Loc} {H : Heap} {E : Nat → Option AObj} {fr : List Value} {a : Act} {ops : Array Oper}

theorem FR.ev (h : FR ds μ fr a) (hg : Glob μ ng) {x : Operand} (hx : opd1 ng x = true) : VR μ (aev fr x) (a.eval x) := by
  cases x with
  | tmp t =>
    simp only [aev, frget_eq, Act.eval, Array.getD_eq_getD_getElem?]
    cases hf : fr[t]? with
    | none =>
      have : a.tmps[t]? = none := by
        rw [Array.getElem?_eq_none_iff]
        rw [List.getElem?_eq_none_iff] at hf
        have := h.2.1
        simp at this
        omega
      rw [this]
      exact VR.undef
    | some v =>
      obtain ⟨y, hy, hr⟩ := h.2.get hf
      rw [Array.getElem?_toList] at hy
      rw [hy]
      exact hr
  | const v => exact flat_rel hx
  | global g =>
    obtain ⟨l, h1, h2, h3⟩ := hg g (Nat.le_of_ble_eq_true hx)
    have := VR.ptr (μ := μ) (k := g) (o := 0) h1
    rw [h2, h3] at this
    exact this
  | func f => exact .func rfl (fun i x y hx => by simp at hx) rfl (fun i x y hx => by simp at hx)

theorem FR.yield (h : FR ds μ fr a) (j : Nat) : yielded ops a.tmps j = ayield ops fr j := by
  unfold yielded ayield
  cases hd : (ops[j]?).bind (·.dst) with
  | none => rfl
  | some d =>
    simp only [Option.bind_some]
    cases hf : fr[d]? with
    | none =>
      have : a.tmps[d]? = none := by
        rw [Array.getElem?_eq_none_iff]
        rw [List.getElem?_eq_none_iff] at hf
        have := h.2.1
        simp at this
        omega
      rw [this]
    | some v =>
      obtain ⟨y, hy, hr⟩ := h.2.get hf
      rw [Array.getElem?_toList] at hy
      rw [hy]
      cases hr <;> rfl

theorem FR.want (h : FR ds μ fr a) (o : Oper) : Region.wanted o (yielded ops a.tmps) = awant ops fr o := by
  unfold Region.wanted awant
  cases o.guard with
  | none => rfl
  | some q =>
    obtain ⟨j, want⟩ := q
    simp only [h.yield]
    cases ayield ops fr j with
    | none => rfl
    | some b => cases b <;> cases want <;> rfl

theorem FR.put (h : FR ds μ fr a) (d : Option Nat) {v v' : Value} (hv : VR μ v v') : FR ds μ (fput fr d v) (a.put d v') := by
  cases d with
  | none => exact h
  | some d => exact ⟨h.1, by simpa [fput_eq, Act.put] using h.2.set hv d⟩

/-- One operation: the model's way through it. -/
theorem stepP (hN : NoNum P) {call : CallF} (hcall : ∀ f args H v H', call f args H = some (v, H') → CallOk P ng f args H v H') {o : Oper} {res : ARes} {v : Value} {H' : Heap}
    {ρ : Operand → Value} (hρ : OpsR μ o ρ a.eval) (h2 : aop P H.get o ρ = some res) (h3 : applyR call H res = some (v, H')) (hfree : Free μ H.next) (hg : Glob μ ng) (hw : HR P w0 μ (ov H E) W)
    {K : Act → World → Prop} {Q : Exit → Act → World → Prop} (hK : ∀ μ' v' W', ExtN H.next μ μ' → VR μ' v v' → Free μ' H'.next → HR P w0 μ' (ov H' E) W' → K (a.put o.dst v') W') : o.wp P a W K Q := by
  have hok : AOk P w0 μ (ov H E) W ((execOp a.eval o).run P W) res := aop_ok (aop_mono (LeG.ov H E) h2) hρ hw
  have hn := hfree H.next (Nat.le_refl _)
  unfold Oper.wp
  cases res with
  | val u =>
    obtain ⟨v', W', q1, q2, q3⟩ := hok
    simp only [applyR, Option.some.injEq, Prod.mk.injEq] at h3
    obtain ⟨rfl, rfl⟩ := h3
    rw [q1, Oper.upon_value]
    exact hK μ v' W' (.refl _ μ) q2 hfree q3
  | alloc c e sl =>
    obtain ⟨v', W', l, q1, q2, q3⟩ := hok H.next hn
    simp only [applyR, Option.some.injEq, Prod.mk.injEq] at h3
    obtain ⟨rfl, rfl⟩ := h3
    rw [q1, Oper.upon_value]
    exact hK _ v' W' (.upd hn) q2 hfree.add (by rw [ov_add]; exact q3)
  | write k c e =>
    obtain ⟨W', q1, q2⟩ := hok
    simp only [applyR, Option.some.injEq, Prod.mk.injEq] at h3
    obtain ⟨rfl, rfl⟩ := h3
    rw [q1, Oper.upon_skip]
    exact hK μ undef W' (.refl _ μ) VR.undef hfree (by rw [ov_put]; exact q2)
  | grow j c e n =>
    obtain ⟨v', W', l, q1, q2, q3⟩ := hok H.next hn
    cases j with
    | none =>
      simp only [applyR, Option.some.injEq, Prod.mk.injEq] at h3
      obtain ⟨rfl, rfl⟩ := h3
      rw [q1, Oper.upon_value]
      exact hK _ v' W' (.upd hn) q2 hfree.add (by rw [ov_add]; exact q3)
    | some j =>
      simp only [applyR, Option.some.injEq, Prod.mk.injEq] at h3
      obtain ⟨rfl, rfl⟩ := h3
      rw [q1, Oper.upon_value]
      exact hK _ v' W' (.upd hn) q2 hfree.add (by rw [ov_add, ov_put]; exact q3)
  | kill k u =>
    obtain ⟨W', q1, q2, q3⟩ := hok
    simp only [applyR, Option.some.injEq, Prod.mk.injEq] at h3
    obtain ⟨rfl, rfl⟩ := h3
    rw [q1, Oper.upon_value]
    exact hK μ u W' (.refl _ μ) (flat1_rel q2) hfree (by rw [ov_put]; exact q3)
  | newMap =>
    obtain ⟨v', W', l, q1, q2, q3⟩ := hok H.next hn
    simp only [applyR, Option.some.injEq, Prod.mk.injEq] at h3
    obtain ⟨rfl, rfl⟩ := h3
    rw [q1, Oper.upon_value]
    exact hK _ v' W' (.upd hn) q2 hfree.add (by rw [ov_add]; exact q3)
  | mapPut k es cl d =>
    obtain ⟨W', q1, q2⟩ := hok
    simp only [applyR, Option.some.injEq, Prod.mk.injEq] at h3
    obtain ⟨rfl, rfl⟩ := h3
    cases d with
    | true =>
      rw [q1, Oper.upon_value]
      exact hK μ _ W' (.refl _ μ) (flat_rel rfl) hfree (by rw [ov_put]; exact q2)
    | false =>
      rw [q1, Oper.upon_skip]
      exact hK μ undef W' (.refl _ μ) VR.undef hfree (by rw [ov_put]; exact q2)
  | enter f args =>
    obtain ⟨args', q1, q2⟩ := hok
    have hc := (hcall f args H v H' h3).calls w0 μ E W args' hfree hg hw q2
    unfold Calls2 at hc
    cases hb : (P.funcs[f]?).bind (·.body) with
    | none =>
      rw [hb] at hc
      obtain ⟨v', W', r1, μ', v2, r2, r3, r4, r5, r6⟩ := hc
      cases r2
      rw [q1, r1, Oper.upon_value]
      exact hK μ' _ W' r3 r4 r5 r6
    | some c =>
      rw [hb] at hc
      have hrun : (callFunc f args').run P W = .ok (.enter f args') W := by
        cases hfn : P.funcs[f]? with
        | none => simp [hfn] at hb
        | some fn =>
          simp only [hfn, Option.bind_some] at hb
          have hne := hN f fn hfn (by rw [hb]; rfl)
          simp [callFunc, hfn, hne, hb]
      rw [q1, hrun, Oper.upon_enter]
      refine hc.mono ?_
      rintro e W' ⟨μ', v', rfl, r1, r2, r3, r4⟩
      exact hK μ' v' W' r1 r2 r3 r4

theorem FR.opsR (hf : FR ds μ fr a) (hg : Glob μ ng) {o : Oper} (h1 : o.op.operands.all (opd1 ng) = true) : OpsR μ o (aev fr) a.eval := fun x hx => by
  rw [Array.all_eq_true_iff_forall_mem] at h1
  exact hf.ev hg (h1 x hx)

/-- What stands behind a run of operations. -/
def PostO (ds : List Deferred) (P : Program) (w0 : World) (μ : Nat → Option Loc) (E : Nat → Option AObj) (n : Nat) (fr' : List Value) (H' : Heap) (a : Act) (W : World) : Prop :=
  ∃ μ', ExtN n μ μ' ∧ FR ds μ' fr' a ∧ Free μ' H'.next ∧ HR P w0 μ' (ov H' E) W

theorem runO_ok (hN : NoNum P) {call : CallF} (hcall : ∀ f args H v H', call f args H = some (v, H') → CallOk P ng f args H v H') {Q : Exit → Act → World → Prop} : ∀ (l : List Oper) (fr : List Value) (H : Heap) (fr' : List Value) (H' : Heap) (μ : Nat → Option Loc) (a : Act) (W : World),
    runO P ng call ops l fr H = some (fr', H') → FR ds μ fr a → Free μ H.next → Glob μ ng → HR P w0 μ (ov H E) W → (∀ a' W', PostO ds P w0 μ E H.next fr' H' a' W' → Q .normal a' W') → wpList P ops Q l a W := by
  intro l
  induction l with
  | nil =>
    intro fr H fr' H' μ a W h hf hfree hg hw hQ
    simp only [runO_nil, Option.some.injEq, Prod.mk.injEq] at h
    obtain ⟨rfl, rfl⟩ := h
    exact hQ a W ⟨μ, .refl _ μ, hf, hfree, hw⟩
  | cons o r ih =>
    intro fr H fr' H' μ a W h hf hfree hg hw hQ
    rw [runO_cons] at h
    unfold stepO at h
    unfold wpList
    rw [hf.want]
    split at h
    · rename_i hwant
      rw [hwant, if_neg (by simp)]
      exact ih _ _ _ _ μ _ W h (hf.put o.dst VR.undef) hfree hg hw hQ
    · rename_i hwant
      rw [hwant, if_pos rfl]
      split at h
      · cases h
      · rename_i h1
        split at h
        · cases h
        · rename_i res h2
          split at h
          · cases h
          · rename_i v H1 h3
            rw [aopQ_eq] at h2
            refine .inl (stepP hN hcall (FR.opsR hf hg (opsOk_all h1)) h2 h3 hfree hg hw fun μ' v' W' e1 e2 e3 e4 => ?_)
            refine ih _ _ _ _ μ' _ W' h ((hf.ext e1.ext).put o.dst e2) e3 (hg.ext e1.ext) e4 fun a' W'' hp => hQ a' W'' ?_
            obtain ⟨μ2, p1, p2, p3, p4⟩ := hp
            exact ⟨μ2, e1.trans p1 (applyR_dom hcall h3).next, p2, p3, p4⟩

theorem runO_dom {call : CallF} (hcall : ∀ f args H v H', call f args H = some (v, H') → CallOk P ng f args H v H') : ∀ (l : List Oper) (fr : List Value) (H : Heap) (fr' : List Value) (H' : Heap), runO P ng call ops l fr H = some (fr', H') → Dom H H' ∧ fr'.length = fr.length := by
  intro l
  induction l with
  | nil => intro fr H fr' H' h; simp only [runO_nil, Option.some.injEq, Prod.mk.injEq] at h; rw [← h.1, ← h.2]; exact ⟨.refl _, rfl⟩
  | cons o r ih =>
    intro fr H fr' H' h
    have hl : ∀ v, (fput fr o.dst v).length = fr.length := fun v => by rw [fput_eq]; split <;> simp
    rw [runO_cons] at h
    unfold stepO at h
    split at h
    · obtain ⟨h1, h2⟩ := ih _ _ _ _ h
      exact ⟨h1, by rw [h2, hl]⟩
    · split at h
      · cases h
      · split at h
        · cases h
        · split at h
          · cases h
          · rename_i v H1 h3
            obtain ⟨h1, h2⟩ := ih _ _ _ _ h
            exact ⟨(applyR_dom hcall h3).trans h1, by rw [h2, hl]⟩
end
end Go.Proofs.Ytdcojinnjpihaaa.X
