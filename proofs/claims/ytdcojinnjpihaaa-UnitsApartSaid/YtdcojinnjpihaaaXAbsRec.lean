/- A deferred function that asks 'recover' where nothing panics, in the plain run. No condition. -/
import Derived.Test.YtdcojinnjpihaaaXAbsCode
import Derived.Recover
namespace Go.Proofs.Ytdcojinnjpihaaa.X
open Go Go.RowKit
set_option linter.unusedVariables false
set_option linter.unusedSimpArgs false

def isRec (op : Op) : Bool := match op with
  | .call c => match c.callee with
    | .builtin .recover => true
    | _ => false
  | _ => false

noncomputable def runOR (P : Program) (ng : Nat) (call : CallF) (ops : Array Oper) : List Oper → List Value → Heap → Option (List Value × Heap)
  | [], fr, H => some (fr, H)
  | o :: r, fr, H => match awant ops fr o with
    | false => runOR P ng call ops r (fput fr o.dst undef) H
    | true => match isRec o.op with
      | true => runOR P ng call ops r (fput fr o.dst .nilIface) H
      | false => match opsOk ng o.op with
        | false => none
        | true => match aop P H.get o (aev fr) with
          | none => none
          | some res => match applyR call H res with
            | none => none
            | some (v, H') => runOR P ng call ops r (fput fr o.dst v) H'

noncomputable def runR (P : Program) (ng : Nat) (call : CallF) (go : Code → List Value → Heap → Option (Ex × List Value × Heap)) : Code → List Value → Heap → Option (Ex × List Value × Heap)
  | .seq x y, fr, H => match runR P ng call go x fr H with
    | some (.normal, fr', H') => runR P ng call go y fr' H'
    | r => r
  | .region id ops draw, fr, H => match draw with
    | false => match runOR P ng call ops ops.toList fr H with
      | some (fr', H') => some (.normal, fr', H')
      | none => none
    | true => go (.region id ops true) fr H
  | c, fr, H => go c fr H

noncomputable def stepR (P : Program) (ng : Nat) (call : CallF) (go : Code → List Value → Heap → Option (Ex × List Value × Heap)) (f : Nat) (args : List Value) (H : Heap) : Option (Value × Heap) := match P.funcs[f]? with
  | none => none
  | some fn => match fn.body with
    | none => none
    | some c => match runR P ng call go c (args ++ List.replicate (fn.ntmps - args.length) undef) H with
      | some (.exit _, _, _) => none
      | some (_, fr, H') => match ares P fr H' fn.results.toList with
        | some vs => some (oneOf vs, H')
        | none => none
      | none => none

section
variable {P : Program} {ng : Nat} {w0 W : World} {μ : Nat → Option Loc} {H : Heap} {E : Nat → Option AObj} {fr : List Value} {a : Act} {ops : Array Oper}

theorem isRec_run {o : Oper} (h : isRec o.op = true) (ev : Operand → Value) (W : World) : (execOp ev o).run P W = .ok .recover W := by
  unfold isRec at h
  split at h
  · rename_i c ho
    split at h
    · rename_i hc
      simp [execOp, ho, resolve, hc, invoke, builtin]
    · cases h
  · cases h

theorem upon_ne_recover {o : Oper} {a : Act} {K : Act → World → Prop} {Q : Exit → Act → World → Prop} {r : Result Next} (h : o.upon P a K Q r) : ∀ W', r ≠ .ok .recover W' := by
  intro W' e
  subst e
  exact h

theorem runOR_dom {call : CallF} (hcall : ∀ f args H v H', call f args H = some (v, H') → CallOk P ng f args H v H') : ∀ (l : List Oper) (fr : List Value) (H : Heap) (fr' : List Value) (H' : Heap), runOR P ng call ops l fr H = some (fr', H') → Dom H H' := by
  intro l
  induction l with
  | nil => intro fr H fr' H' h; simp only [runOR, Option.some.injEq, Prod.mk.injEq] at h; rw [← h.2]; exact .refl _
  | cons o r ih =>
    intro fr H fr' H' h
    unfold runOR at h
    split at h
    · exact ih _ _ _ _ h
    · split at h
      · exact ih _ _ _ _ h
      · split at h
        · cases h
        · split at h
          · cases h
          · split at h
            · cases h
            · rename_i v H1 h3
              exact (applyR_dom hcall h3).trans (ih _ _ _ _ h)

theorem runOR_ok (hN : NoNum P) {call : CallF} (hcall : ∀ f args H v H', call f args H = some (v, H') → CallOk P ng f args H v H') {cs : List Frame} (hcs : recoverD cs = none) {Q : Exit → Act → List Frame → World → Prop} : ∀ (l : List Oper) (k : Nat) (fr : List Value) (H : Heap) (fr' : List Value) (H' : Heap) (μ : Nat → Option Loc) (a : Act) (W : World),
    (∀ j, l[j]? = ops[k + j]?) → runOR P ng call ops l fr H = some (fr', H') → FR [] μ fr a → Free μ H.next → Glob μ ng → HR P w0 μ (ov H E) W →
    (∀ a' W', PostO [] P w0 μ E H.next fr' H' a' W' → Q .normal a' cs W') → wpOpsS P ops Q (List.range' k l.length) a cs W := by
  intro l
  induction l with
  | nil =>
    intro k fr H fr' H' μ a W _ h hf hfree hg hw hQ
    simp only [runOR, Option.some.injEq, Prod.mk.injEq] at h
    obtain ⟨rfl, rfl⟩ := h
    exact hQ a W ⟨μ, .refl _ μ, hf, hfree, hw⟩
  | cons o r ih =>
    intro k fr H fr' H' μ a W hl h hf hfree hg hw hQ
    have ho : ops[k]? = some o := by have := hl 0; simpa using this.symm
    have hr : ∀ j, r[j]? = ops[k + 1 + j]? := fun j => by have := hl (j + 1); rw [List.getElem?_cons_succ] at this; rw [this]; congr 1; omega
    rw [List.length_cons, List.range'_succ]
    unfold runOR at h
    unfold wpOpsS
    simp only [ho]
    rw [hf.want]
    split at h
    · rename_i hwant
      rw [hwant, if_neg (by simp)]
      exact ih (k + 1) _ _ _ _ μ _ W hr h (hf.put o.dst VR.undef) hfree hg hw hQ
    · rename_i hwant
      rw [hwant, if_pos rfl]
      split at h
      · rename_i hrec
        rw [isRec_run hrec]
        simp only [hcs]
        exact ih (k + 1) _ _ _ _ μ _ W hr h (hf.put o.dst (flat_rel rfl)) hfree hg hw hQ
      · split at h
        · cases h
        · rename_i h1
          split at h
          · cases h
          · rename_i res h2
            split at h
            · cases h
            · rename_i v H1 h3
              have hstep := stepP (Q := fun e a' W' => Q e a' cs W') hN hcall (FR.opsR hf hg (opsOk_all h1)) h2 h3 hfree hg hw (K := fun a' W' => wpOpsS P ops Q (List.range' (k + 1) r.length) a' cs W') fun μ' v' W' e1 e2 e3 e4 => by
                refine ih (k + 1) _ _ _ _ μ' _ W' hr h ((hf.ext e1.ext).put o.dst e2) e3 (hg.ext e1.ext) e4 fun a' W'' hp => hQ a' W'' ?_
                obtain ⟨μ2, p1, p2⟩ := hp
                exact ⟨μ2, e1.trans p1 (applyR_dom hcall h3).next, p2⟩
              unfold Oper.wp at hstep
              have hne := upon_ne_recover hstep
              generalize hres : (execOp a.eval o).run P W = rr at hstep hne
              split
              · exact absurd rfl (hne _)
              · exact hstep

/-- Code under 'recover'. -/
structure ROk (P : Program) (ng : Nat) (c : Code) (fr : List Value) (H : Heap) (ex : Ex) (fr' : List Value) (H' : Heap) : Prop where
  dom : Dom H H'
  wp : ∀ (w0 : World) (μ : Nat → Option Loc) (E : Nat → Option AObj) (W : World) (a : Act) (cs : List Frame), recoverD cs = none → FR [] μ fr a → Free μ H.next → Glob μ ng → HR P w0 μ (ov H E) W →
    c.wpS P (fun e a' cs' W' => cs' = cs ∧ PostC [] P w0 μ E H.next ex fr' H' e a' W') a cs W

theorem rok_of {c : Code} {ex : Ex} {fr' : List Value} {H' : Heap} (h : CodeOk P ng c fr H ex fr' H') : ROk P ng c fr H ex fr' H' :=
  ⟨h.dom, fun w0 μ E W a cs _ hf hfree hg hw => wpS_of_wp (wp_mono (h.wp [] w0 μ E W a hf hfree hg hw) fun e a' W' hp => ⟨rfl, hp⟩)⟩

theorem wpS_mono {c : Code} {Q Q' : Exit → Act → List Frame → World → Prop} {cs : List Frame} (h : c.wpS P Q a cs W) (hq : ∀ e a cs w, Q e a cs w → Q' e a cs w) : c.wpS P Q' a cs W :=
  fun b k hb hr => let ⟨e, a', cs', w', q, r⟩ := h b k hb hr; ⟨e, a', cs', w', hq _ _ _ _ q, r⟩

theorem runR_ok (hN : NoNum P) {call : CallF} (hcall : ∀ f args H v H', call f args H = some (v, H') → CallOk P ng f args H v H') {go : Code → List Value → Heap → Option (Ex × List Value × Heap)}
    (hgo : ∀ c fr H ex fr' H', go c fr H = some (ex, fr', H') → CodeOk P ng c fr H ex fr' H') : ∀ (c : Code) (fr : List Value) (H : Heap) (ex : Ex) (fr' : List Value) (H' : Heap),
    runR P ng call go c fr H = some (ex, fr', H') → ROk P ng c fr H ex fr' H' := by
  intro c fr H
  fun_induction runR P ng call go c fr H with
  | case1 x y fr H fr1 H1 hx ihx ihy =>
    intro ex fr' H' h
    have h1 := ihx _ _ _ hx
    have h2 := ihy _ _ _ h
    refine ⟨h1.dom.trans h2.dom, fun w0 μ E W a cs hcs hf hfree hg hw => wpS_seq ?_⟩
    refine wpS_mono (h1.wp w0 μ E W a cs hcs hf hfree hg hw) fun e a' cs' W' hp => ?_
    obtain ⟨rfl, rfl, μ', p1, p2, p3, p4⟩ := hp
    refine wpS_mono (h2.wp w0 μ' E W' a' cs' hcs p2 p3 (hg.ext p1.ext) p4) fun e a2 cs2 W2 hq => ?_
    exact ⟨hq.1, hq.2.trans p1 h1.dom.next⟩
  | case2 x y fr H hne ihx =>
    intro ex fr' H' h
    have h1 := ihx _ _ _ h
    refine ⟨h1.dom, fun w0 μ E W a cs hcs hf hfree hg hw => wpS_seq ?_⟩
    refine wpS_mono (h1.wp w0 μ E W a cs hcs hf hfree hg hw) fun e a' cs' W' hp => ?_
    obtain ⟨rfl, rfl, hp⟩ := hp
    cases ex with
    | normal => exact absurd h (hne _ _)
    | _ => exact ⟨rfl, rfl, hp⟩
  | case3 id ops fr H fr1 H1 hr =>
    intro ex fr' H' h
    simp only [Option.some.injEq, Prod.mk.injEq] at h
    obtain ⟨rfl, rfl, rfl⟩ := h
    refine ⟨runOR_dom hcall _ _ _ _ _ hr, fun w0 μ E W a cs hcs hf hfree hg hw => wpS_region ?_⟩
    have := runOR_ok (Q := fun e a' cs' W' => cs' = cs ∧ PostC [] P w0 μ E H.next Ex.normal fr1 H1 e a' W') hN hcall hcs ops.toList 0 _ _ _ _ μ a W (fun j => by simp) hr hf hfree hg hw fun a' W' hp => ⟨rfl, rfl, hp⟩
    rwa [Array.length_toList, ← List.range_eq_range'] at this
  | case4 id ops fr H hr =>
    intro ex fr' H' h
    cases h
  | case5 id ops fr H =>
    intro ex fr' H' h
    exact rok_of (hgo _ _ _ _ _ _ h)
  | case6 c fr H _ _ =>
    intro ex fr' H' h
    exact rok_of (hgo _ _ _ _ _ _ h)

/-- A deferred call, where the function is left in order. -/
theorem stepR_ok (hN : NoNum P) {call : CallF} (hcall : ∀ f args H v H', call f args H = some (v, H') → CallOk P ng f args H v H') {go : Code → List Value → Heap → Option (Ex × List Value × Heap)}
    (hgo : ∀ c fr H ex fr' H', go c fr H = some (ex, fr', H') → CodeOk P ng c fr H ex fr' H') {f : Nat} {args : List Value} {v : Value} {H' : Heap} (h : stepR P ng call go f args H = some (v, H')) :
    Dom H H' ∧ (∃ fn c, P.funcs[f]? = some fn ∧ fn.body = some c) ∧ ∀ (w0 : World) (μ : Nat → Option Loc) (E : Nat → Option AObj) (W : World) (args' : Array Value), Free μ H.next → Glob μ ng → HR P w0 μ (ov H E) W → VL μ args args'.toList →
      CallsD P f args' .returning W fun e u' W' => u' = .returning ∧ ∃ μ' v', e = .returned v' ∧ ExtN H.next μ μ' ∧ VR μ' v v' ∧ Free μ' H'.next ∧ HR P w0 μ' (ov H' E) W' := by
  unfold stepR at h
  split at h
  · cases h
  · rename_i fn hfn
    split at h
    · cases h
    · rename_i c hc
      split at h
      · cases h
      · rename_i ex fr H1 hex hrun
        split at h
        · rename_i vs hvs
          simp only [Option.some.injEq, Prod.mk.injEq] at h
          obtain ⟨rfl, rfl⟩ := h
          have hok := runR_ok hN hcall hgo _ _ _ _ _ _ hrun
          refine ⟨hok.dom, ⟨fn, c, hfn, hc⟩, fun w0 μ E W args' hfree hglob hw hargs => ?_⟩
          refine callsD_of_wpS hfn hc fun c0 cs hmode => ?_
          have hsz : args'.size = args.length := by have := hargs.1; simpa using this.symm
          have hf : FR [] μ (args ++ List.replicate (fn.ntmps - args.length) undef) { tmps := args' ++ Array.replicate (fn.ntmps - args'.size) undef, defers := [] } := by
            refine ⟨rfl, ?_⟩
            simp only [Array.toList_append, Array.toList_replicate, hsz]
            refine hargs.append ⟨rfl, fun i x y hx hy => ?_⟩
            rw [hx] at hy; cases hy
            have := List.eq_of_mem_replicate (List.mem_of_getElem? hx)
            rw [this]; exact VR.undef
          refine wpS_mono (hok.wp w0 μ E W _ (c0 :: cs) (by simp [recoverD, hmode]) hf hfree hglob hw) fun e a cs' W' hp => ?_
          obtain ⟨rfl, rfl, μ', p1, p2, p3, p4⟩ := hp
          obtain ⟨v', r1, r2⟩ := results_ok (LeG.ov H1 E) p2 p4 hvs
          have hc0 : c0 :: cs = { c0 with mode := .returning } :: cs := by rw [← hmode]
          cases ex with
          | normal => exact ⟨p2.1, .returning, hc0, v', r1, rfl, μ', v', rfl, p1, r2, p3, p4⟩
          | ret => exact ⟨p2.1, .returning, hc0, v', r1, rfl, μ', v', rfl, p1, r2, p3, p4⟩
          | exit id => exact (hex id rfl).elim
        · cases h
      · cases h
end
end Go.Proofs.Ytdcojinnjpihaaa.X
