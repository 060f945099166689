/- Functions that defer calls, in the plain run: the calls are made where the function is left in order. No condition. -/
import Derived.Test.YtdcojinnjpihaaaXAbsRec
import Derived.Defers
namespace Go.Proofs.Ytdcojinnjpihaaa.X
open Go Go.RowKit

abbrev PD := Nat × List Value

/-- What an operation defers. -/
noncomputable def adefer (ng : Nat) (o : Oper) (fr : List Value) : Option PD := match o.op with
  | .defer c => match c.callee with
    | .value f => match opd1 ng f && c.args.toList.all (opd1 ng) with
      | true => match aev fr f with
        | .func (.func g) first captured => some (g, first.toList ++ c.args.toList.map (aev fr) ++ captured.toList)
        | _ => none
      | false => none
    | _ => none
  | _ => none

noncomputable def runOT (P : Program) (ng : Nat) (call : CallF) (ops : Array Oper) : List Oper → List Value → List PD → Heap → Option (List Value × List PD × Heap)
  | [], fr, ds, H => some (fr, ds, H)
  | o :: r, fr, ds, H => match awant ops fr o with
    | false => runOT P ng call ops r (fput fr o.dst undef) ds H
    | true => match adefer ng o fr with
      | some d => runOT P ng call ops r (fput fr o.dst undef) (d :: ds) H
      | none => match opsOk ng o.op with
        | false => none
        | true => match aop P H.get o (aev fr) with
          | none => none
          | some res => match applyR call H res with
            | none => none
            | some (v, H') => runOT P ng call ops r (fput fr o.dst v) ds H'

noncomputable def runT (P : Program) (ng : Nat) (call : CallF) (go : Code → List Value → Heap → Option (Ex × List Value × Heap)) : Code → List Value → List PD → Heap → Option (Ex × List Value × List PD × Heap)
  | .seq x y, fr, ds, H => match runT P ng call go x fr ds H with
    | some (.normal, fr', ds', H') => runT P ng call go y fr' ds' H'
    | r => r
  | .cond b x y, fr, ds, H => match opd1 ng b with
    | false => none
    | true => match aev fr b with
      | .bool true => runT P ng call go x fr ds H
      | .bool false => runT P ng call go y fr ds H
      | _ => none
  | .region id ops draw, fr, ds, H => match draw with
    | false => match runOT P ng call ops ops.toList fr ds H with
      | some (fr', ds', H') => some (.normal, fr', ds', H')
      | none => none
    | true => match go (.region id ops true) fr H with
      | some (ex, fr', H') => some (ex, fr', ds, H')
      | none => none
  | c, fr, ds, H => match go c fr H with
    | some (ex, fr', H') => some (ex, fr', ds, H')
    | none => none

/-- The deferred calls, the last first. -/
noncomputable def stepD (P : Program) (ng : Nat) (call : CallF) (go : Code → List Value → Heap → Option (Ex × List Value × Heap)) (g : Nat) (xs : List Value) (H : Heap) : Option (Value × Heap) := match stepF P (fun _ => none) go g xs H with
  | some r => some r
  | none => stepR P ng call go g xs H

noncomputable def runDs (P : Program) (ng : Nat) (call : CallF) (go : Code → List Value → Heap → Option (Ex × List Value × Heap)) : List PD → Heap → Option Heap
  | [], H => some H
  | (g, xs) :: r, H => match stepD P ng call go g xs H with
    | some (_, H') => runDs P ng call go r H'
    | none => none

noncomputable def runTF (P : Program) (ng : Nat) (lib : Nat → Option (List Value → Heap → Option (Value × Heap))) (n : Nat) (f : Nat) (args : List Value) (H : Heap) : Option (Value × Heap) := match P.funcs[f]? with
  | none => none
  | some fn => match fn.body with
    | none => none
    | some c => match runT P ng (runF P ng lib n) (runC P ng lib n) c (args ++ List.replicate (fn.ntmps - args.length) undef) [] H with
      | some (ex, fr, ds, H1) => match ex with
        | .exit _ => none
        | _ => match runDs P ng (runF P ng lib n) (runC P ng lib n) ds H1 with
          | none => none
          | some H2 => match ares P fr H2 fn.results.toList with
            | some vs => some (oneOf vs, H2)
            | none => none
      | none => none

/-- Deferred calls are alike. -/
def DR1 (μ : Nat → Option Loc) (p : PD) (d : Deferred) : Prop := ∃ cap args, d = { target := .fn (.func p.1) cap, args := args } ∧ VL μ p.2 (args.toList ++ cap.toList)

inductive DR (μ : Nat → Option Loc) : List PD → List Deferred → Prop
  | nil : DR μ [] []
  | cons {p d ps ds} (h : DR1 μ p d) (hs : DR μ ps ds) : DR μ (p :: ps) (d :: ds)

theorem DR.ext {μ μ' : Nat → Option Loc} (he : Ext μ μ') {ps : List PD} {ds : List Deferred} (h : DR μ ps ds) : DR μ' ps ds := by
  induction h with
  | nil => exact .nil
  | cons h _ ih =>
    obtain ⟨cap, args, h1, h2⟩ := h
    exact .cons ⟨cap, args, h1, h2.ext he⟩ ih

section
variable {P : Program} {ng : Nat} {w0 W : World} {μ : Nat → Option Loc} {H : Heap} {E : Nat → Option AObj} {fr : List Value} {a : Act} {ops : Array Oper} {Ds : List Deferred} {ds : List PD}

/-- What stands behind code that may have deferred. -/
def PostT (P : Program) (w0 : World) (μ : Nat → Option Loc) (E : Nat → Option AObj) (n : Nat) (fr' : List Value) (ds' : List PD) (H' : Heap) (a : Act) (W : World) : Prop :=
  ∃ Ds', PostO Ds' P w0 μ E n fr' H' a W ∧ ∃ μ', DR μ' ds' Ds' ∧ ExtN n μ μ' ∧ FR Ds' μ' fr' a ∧ Free μ' H'.next ∧ HR P w0 μ' (ov H' E) W

theorem adefer_ok {o : Oper} {d : PD} (h : adefer ng o fr = some d) (hf : FR Ds μ fr a) (hg : Glob μ ng) : ∃ D, (∀ W, (execOp a.eval o).run P W = .ok (.defer D) W) ∧ DR1 μ d D := by
  unfold adefer at h
  split at h
  · rename_i c ho
    split at h
    · rename_i f hc
      split at h
      · rename_i hb
        simp only [Bool.and_eq_true] at hb
        have h1 := hf.ev hg hb.1
        split at h
        · rename_i g first captured e
          cases h
          rw [e] at h1
          generalize hy : a.eval f = y at h1
          cases h1 with
          | func hs1 q1 hs2 q2 =>
            rename_i first' captured'
            have v1 : VL μ first.toList first'.toList := ⟨by simpa using hs1, fun i x y hx hy => q1 i x y (by simpa using hx) (by simpa using hy)⟩
            have v2 : VL μ captured.toList captured'.toList := ⟨by simpa using hs2, fun i x y hx hy => q2 i x y (by simpa using hx) (by simpa using hy)⟩
            have v3 : VL μ (c.args.toList.map (aev fr)) (c.args.toList.map a.eval) := VL.map fun x hx => hf.ev hg (List.all_eq_true.mp hb.2 x hx)
            refine ⟨{ target := .fn (.func g) captured', args := first' ++ c.args.map a.eval }, fun W => ?_, captured', first' ++ c.args.map a.eval, rfl, ?_⟩
            · simp [execOp, ho, resolve, hc, hy, Deferred.ofValue]
            · simpa using (v1.append v3).append v2
        · cases h
      · cases h
    · cases h
  · cases h

theorem runOT_dom {call : CallF} (hcall : ∀ f args H v H', call f args H = some (v, H') → CallOk P ng f args H v H') : ∀ (l : List Oper) (fr : List Value) (ds : List PD) (H : Heap) (fr' : List Value) (ds' : List PD) (H' : Heap), runOT P ng call ops l fr ds H = some (fr', ds', H') → Dom H H' := by
  intro l
  induction l with
  | nil => intro fr ds H fr' ds' H' h; simp only [runOT, Option.some.injEq, Prod.mk.injEq] at h; rw [← h.2.2]; exact .refl _
  | cons o r ih =>
    intro fr ds H fr' ds' H' h
    unfold runOT at h
    split at h
    · exact ih _ _ _ _ _ _ h
    · split at h
      · exact ih _ _ _ _ _ _ h
      · split at h
        · cases h
        · split at h
          · cases h
          · split at h
            · cases h
            · rename_i v H1 h3
              exact (applyR_dom hcall h3).trans (ih _ _ _ _ _ _ h)

theorem runOT_ok (hN : NoNum P) {call : CallF} (hcall : ∀ f args H v H', call f args H = some (v, H') → CallOk P ng f args H v H') {Q : Exit → Act → World → Prop} : ∀ (l : List Oper) (fr : List Value) (ds : List PD) (H : Heap) (fr' : List Value) (ds' : List PD) (H' : Heap) (μ : Nat → Option Loc) (a : Act) (W : World) (Ds : List Deferred),
    runOT P ng call ops l fr ds H = some (fr', ds', H') → FR Ds μ fr a → DR μ ds Ds → Free μ H.next → Glob μ ng → HR P w0 μ (ov H E) W →
    (∀ a' W' Ds' μ', DR μ' ds' Ds' → ExtN H.next μ μ' → FR Ds' μ' fr' a' → Free μ' H'.next → HR P w0 μ' (ov H' E) W' → Q .normal a' W') → wpList P ops Q l a W := by
  intro l
  induction l with
  | nil =>
    intro fr ds H fr' ds' H' μ a W Ds h hf hd hfree hg hw hQ
    simp only [runOT, Option.some.injEq, Prod.mk.injEq] at h
    obtain ⟨rfl, rfl, rfl⟩ := h
    exact hQ a W Ds μ hd (.refl _ μ) hf hfree hw
  | cons o r ih =>
    intro fr ds H fr' ds' H' μ a W Ds h hf hd hfree hg hw hQ
    unfold runOT at h
    unfold wpList
    rw [hf.want]
    split at h
    · rename_i hwant
      rw [hwant, if_neg (by simp)]
      exact ih _ _ _ _ _ _ μ _ W Ds h (hf.put o.dst VR.undef) hd hfree hg hw hQ
    · rename_i hwant
      rw [hwant, if_pos rfl]
      left
      split at h
      · rename_i d hde
        obtain ⟨D, h1, h2⟩ := adefer_ok (P := P) hde hf hg
        unfold Oper.wp
        rw [h1 W, Oper.upon_defer]
        have hf2 : FR (D :: Ds) μ fr { a with defers := D :: a.defers } := ⟨by rw [← hf.1], hf.2⟩
        exact ih _ _ _ _ _ _ μ _ W (D :: Ds) h (hf2.put o.dst VR.undef) (.cons h2 hd) hfree hg hw hQ
      · split at h
        · cases h
        · rename_i h1
          split at h
          · cases h
          · rename_i res h2
            split at h
            · cases h
            · rename_i v H1 h3
              refine stepP hN hcall (FR.opsR hf hg (opsOk_all h1)) h2 h3 hfree hg hw fun μ' v' W' e1 e2 e3 e4 => ?_
              refine ih _ _ _ _ _ _ μ' _ W' Ds h ((hf.ext e1.ext).put o.dst e2) (hd.ext e1.ext) e3 (hg.ext e1.ext) e4 fun a' W'' Ds' μ2 p0 p1 p2 p3 p4 => ?_
              exact hQ a' W'' Ds' μ2 p0 (e1.trans p1 (applyR_dom hcall h3).next) p2 p3 p4

/-- Code that may defer. -/
structure TOk (P : Program) (ng : Nat) (c : Code) (fr : List Value) (ds : List PD) (H : Heap) (ex : Ex) (fr' : List Value) (ds' : List PD) (H' : Heap) : Prop where
  dom : Dom H H'
  wp : ∀ (Ds : List Deferred) (w0 : World) (μ : Nat → Option Loc) (E : Nat → Option AObj) (W : World) (a : Act), FR Ds μ fr a → DR μ ds Ds → Free μ H.next → Glob μ ng → HR P w0 μ (ov H E) W →
    c.wp P (fun e a' W' => e = ex.toExit ∧ ∃ Ds' μ', DR μ' ds' Ds' ∧ ExtN H.next μ μ' ∧ FR Ds' μ' fr' a' ∧ Free μ' H'.next ∧ HR P w0 μ' (ov H' E) W') a W

theorem tok_of {c : Code} {ex : Ex} {fr' : List Value} {H' : Heap} (h : CodeOk P ng c fr H ex fr' H') (ds : List PD) : TOk P ng c fr ds H ex fr' ds H' :=
  ⟨h.dom, fun Ds w0 μ E W a hf hd hfree hg hw => wp_mono (h.wp Ds w0 μ E W a hf hfree hg hw) fun e a' W' hp => by
    obtain ⟨h1, μ', p1, p2, p3, p4⟩ := hp
    exact ⟨h1, Ds, μ', hd.ext p1.ext, p1, p2, p3, p4⟩⟩

theorem runT_ok (hN : NoNum P) {call : CallF} (hcall : ∀ f args H v H', call f args H = some (v, H') → CallOk P ng f args H v H') {go : Code → List Value → Heap → Option (Ex × List Value × Heap)}
    (hgo : ∀ c fr H ex fr' H', go c fr H = some (ex, fr', H') → CodeOk P ng c fr H ex fr' H') : ∀ (c : Code) (fr : List Value) (ds : List PD) (H : Heap) (ex : Ex) (fr' : List Value) (ds' : List PD) (H' : Heap),
    runT P ng call go c fr ds H = some (ex, fr', ds', H') → TOk P ng c fr ds H ex fr' ds' H' := by
  intro c fr ds H
  have leaf : ∀ (c : Code) (fr : List Value) (ds : List PD) (H : Heap) (ex : Ex) (fr' : List Value) (ds' : List PD) (H' : Heap), (match go c fr H with
      | some (ex, fr', H') => some (ex, fr', ds, H')
      | none => none) = some (ex, fr', ds', H') → TOk P ng c fr ds H ex fr' ds' H' := by
    intro c fr ds H ex fr' ds' H' h
    split at h
    · rename_i hr
      simp only [Option.some.injEq, Prod.mk.injEq] at h
      obtain ⟨rfl, rfl, rfl, rfl⟩ := h
      exact tok_of (hgo _ _ _ _ _ _ hr) _
    · cases h
  fun_induction runT P ng call go c fr ds H with
  | case1 x y fr ds H fr1 ds1 H1 hx ihx ihy =>
    intro ex fr' ds' H' h
    have h1 := ihx _ _ _ _ hx
    have h2 := ihy _ _ _ _ h
    refine ⟨h1.dom.trans h2.dom, fun Ds w0 μ E W a hf hd hfree hg hw => wp_seq ?_⟩
    refine wp_mono (h1.wp Ds w0 μ E W a hf hd hfree hg hw) fun e a' W' hp => ?_
    obtain ⟨rfl, Ds', μ', p0, p1, p2, p3, p4⟩ := hp
    refine wp_mono (h2.wp Ds' w0 μ' E W' a' p2 p0 p3 (hg.ext p1.ext) p4) fun e a2 W2 hq => ?_
    obtain ⟨q0, Ds2, μ2, q1, q2, q3⟩ := hq
    exact ⟨q0, Ds2, μ2, q1, p1.trans q2 h1.dom.next, q3⟩
  | case2 x y fr ds H hne ihx =>
    intro ex fr' ds' H' h
    have h1 := ihx _ _ _ _ h
    refine ⟨h1.dom, fun Ds w0 μ E W a hf hd hfree hg hw => wp_seq ?_⟩
    refine wp_mono (h1.wp Ds w0 μ E W a hf hd hfree hg hw) fun e a' W' hp => ?_
    obtain ⟨rfl, hp⟩ := hp
    cases ex with
    | normal => exact absurd h (hne _ _ _)
    | _ => exact ⟨rfl, hp⟩
  | case3 b x y fr ds H hb =>
    intro ex fr' ds' H' h
    cases h
  | case4 b x y fr ds H hb hv ih =>
    intro ex fr' ds' H' h
    have h1 := ih _ _ _ _ h
    refine ⟨h1.dom, fun Ds w0 μ E W a hf hd hfree hg hw => ?_⟩
    have h2 := hf.ev hg hb
    rw [hv] at h2
    exact wp_cond_true (flat1_eq rfl h2) (h1.wp Ds w0 μ E W a hf hd hfree hg hw)
  | case5 b x y fr ds H hb hv ih =>
    intro ex fr' ds' H' h
    have h1 := ih _ _ _ _ h
    refine ⟨h1.dom, fun Ds w0 μ E W a hf hd hfree hg hw => ?_⟩
    have h2 := hf.ev hg hb
    rw [hv] at h2
    exact wp_cond_false (flat1_eq rfl h2) (h1.wp Ds w0 μ E W a hf hd hfree hg hw)
  | case6 b x y fr ds H hb hn1 hn2 =>
    intro ex fr' ds' H' h
    cases h
  | case7 id ops fr ds H fr1 ds1 H1 hr =>
    intro ex fr' ds' H' h
    simp only [Option.some.injEq, Prod.mk.injEq] at h
    obtain ⟨rfl, rfl, rfl, rfl⟩ := h
    exact ⟨runOT_dom hcall _ _ _ _ _ _ _ hr, fun Ds w0 μ E W a hf hd hfree hg hw => wp_region_list (runOT_ok hN hcall _ _ _ _ _ _ _ μ a W Ds hr hf hd hfree hg hw
      fun a' W' Ds' μ' p0 p1 p2 p3 p4 => ⟨rfl, Ds', μ', p0, p1, p2, p3, p4⟩)⟩
  | case8 id ops fr ds H hr =>
    intro ex fr' ds' H' h
    cases h
  | case9 id ops fr ds H ex1 fr1 H1 hr =>
    intro ex fr' ds' H' h
    exact leaf _ _ _ _ _ _ _ _ (by rw [hr]; exact h)
  | case10 id ops fr ds H hr =>
    intro ex fr' ds' H' h
    cases h
  | case11 c fr ds H _ _ _ ex1 fr1 H1 hr =>
    intro ex fr' ds' H' h
    exact leaf _ _ _ _ _ _ _ _ (by rw [hr]; exact h)
  | case12 c fr ds H _ _ _ hr =>
    intro ex fr' ds' H' h
    cases h

/-- A body that is run, and what the model's comes to. -/
theorem stepB_wp {go : Code → List Value → Heap → Option (Ex × List Value × Heap)} (hgo : ∀ c fr H ex fr' H', go c fr H = some (ex, fr', H') → CodeOk P ng c fr H ex fr' H')
    {f : Nat} {args : List Value} {v : Value} {H' : Heap} (h : stepF P (fun _ => none) go f args H = some (v, H')) : Dom H H' ∧ ∃ fn c, P.funcs[f]? = some fn ∧ fn.body = some c ∧
      ∀ (w0 : World) (μ : Nat → Option Loc) (E : Nat → Option AObj) (W : World) (args' : Array Value), Free μ H.next → Glob μ ng → HR P w0 μ (ov H E) W → VL μ args args'.toList →
        c.wp P (bodyPost P fn fun e W' => ∃ μ' v', e = .returned v' ∧ ExtN H.next μ μ' ∧ VR μ' v v' ∧ Free μ' H'.next ∧ HR P w0 μ' (ov H' E) W') { tmps := args' ++ Array.replicate (fn.ntmps - args'.size) undef, defers := [] } W := by
  unfold stepF at h
  simp only at h
  split at h
  · cases h
  · rename_i fn hfn
    split at h
    · cases h
    · rename_i c hc
      have key : ∀ ex fr, (ex = .normal ∨ ex = .ret) → go c (args ++ List.replicate (fn.ntmps - args.length) undef) H = some (ex, fr, H') → ∀ vs, ares P fr H' fn.results.toList = some vs → v = oneOf vs → Dom H H' ∧ ∃ fn c, P.funcs[f]? = some fn ∧ fn.body = some c ∧
          ∀ (w0 : World) (μ : Nat → Option Loc) (E : Nat → Option AObj) (W : World) (args' : Array Value), Free μ H.next → Glob μ ng → HR P w0 μ (ov H E) W → VL μ args args'.toList →
            c.wp P (bodyPost P fn fun e W' => ∃ μ' v', e = .returned v' ∧ ExtN H.next μ μ' ∧ VR μ' v v' ∧ Free μ' H'.next ∧ HR P w0 μ' (ov H' E) W') { tmps := args' ++ Array.replicate (fn.ntmps - args'.size) undef, defers := [] } W := by
        intro ex fr hex hrun vs hvs hv
        subst hv
        have hok := hgo _ _ _ _ _ _ hrun
        refine ⟨hok.dom, fn, c, hfn, hc, fun w0 μ E W args' hfree hglob hw hargs => ?_⟩
        have hsz : args'.size = args.length := by have := hargs.1; simpa using this.symm
        have hf : FR [] μ (args ++ List.replicate (fn.ntmps - args.length) undef) { tmps := args' ++ Array.replicate (fn.ntmps - args'.size) undef, defers := [] } := by
          refine ⟨rfl, ?_⟩
          simp only [Array.toList_append, Array.toList_replicate, hsz]
          refine hargs.append ⟨rfl, fun i x y hx hy => ?_⟩
          rw [hx] at hy; cases hy
          have := List.eq_of_mem_replicate (List.mem_of_getElem? hx)
          rw [this]; exact VR.undef
        refine wp_mono (hok.wp [] w0 μ E W _ hf hfree hglob hw) fun e a W' hp => ?_
        obtain ⟨rfl, μ', p1, p2, p3, p4⟩ := hp
        obtain ⟨v', r1, r2⟩ := results_ok (LeG.ov H' E) p2 p4 hvs
        rcases hex with rfl | rfl
        · exact ⟨p2.1, v', r1, μ', v', rfl, p1, r2, p3, p4⟩
        · exact ⟨p2.1, v', r1, μ', v', rfl, p1, r2, p3, p4⟩
      split at h
      · rename_i fr H1 hrun
        split at h
        · rename_i vs hvs
          simp only [Option.some.injEq, Prod.mk.injEq] at h
          obtain ⟨h1, rfl⟩ := h
          exact key _ _ (.inl rfl) hrun vs hvs h1.symm
        · cases h
      · rename_i fr H1 hrun
        split at h
        · rename_i vs hvs
          simp only [Option.some.injEq, Prod.mk.injEq] at h
          obtain ⟨h1, rfl⟩ := h
          exact key _ _ (.inr rfl) hrun vs hvs h1.symm
        · cases h
      · cases h

theorem stepD_ok (hN : NoNum P) {call : CallF} (hcall : ∀ f args H v H', call f args H = some (v, H') → CallOk P ng f args H v H') {go : Code → List Value → Heap → Option (Ex × List Value × Heap)}
    (hgo : ∀ c fr H ex fr' H', go c fr H = some (ex, fr', H') → CodeOk P ng c fr H ex fr' H') {f : Nat} {args : List Value} {v : Value} {H' : Heap} (h : stepD P ng call go f args H = some (v, H')) :
    Dom H H' ∧ (∃ fn c, P.funcs[f]? = some fn ∧ fn.body = some c) ∧ ∀ (w0 : World) (μ : Nat → Option Loc) (E : Nat → Option AObj) (W : World) (args' : Array Value), Free μ H.next → Glob μ ng → HR P w0 μ (ov H E) W → VL μ args args'.toList →
      CallsD P f args' .returning W fun e u' W' => u' = .returning ∧ ∃ μ' v', e = .returned v' ∧ ExtN H.next μ μ' ∧ VR μ' v v' ∧ Free μ' H'.next ∧ HR P w0 μ' (ov H' E) W' := by
  unfold stepD at h
  split at h
  · rename_i r hr
    cases h
    obtain ⟨hdom, fn, c, hfn, hc, hwp⟩ := stepB_wp (ng := ng) hgo hr
    exact ⟨hdom, ⟨fn, c, hfn, hc⟩, fun w0 μ E W args' h1 h2 h3 h4 => callsD_of_wp hfn hc (hwp w0 μ E W args' h1 h2 h3 h4)⟩
  · exact stepR_ok hN hcall hgo h

theorem runDs_dom (hN : NoNum P) {call : CallF} (hcall : ∀ f args H v H', call f args H = some (v, H') → CallOk P ng f args H v H') {go : Code → List Value → Heap → Option (Ex × List Value × Heap)} (hgo : ∀ c fr H ex fr' H', go c fr H = some (ex, fr', H') → CodeOk P ng c fr H ex fr' H') : ∀ (ds : List PD) (H H' : Heap), runDs P ng call go ds H = some H' → Dom H H' := by
  intro ds
  induction ds with
  | nil => intro H H' h; simp only [runDs, Option.some.injEq] at h; rw [h]; exact .refl _
  | cons p r ih =>
    intro H H' h
    obtain ⟨g, xs⟩ := p
    simp only [runDs] at h
    split at h
    · rename_i v H1 h1
      exact (stepD_ok hN hcall hgo h1).1.trans (ih _ _ h)
    · cases h

theorem runDs_ok (hN : NoNum P) {call : CallF} (hcall : ∀ f args H v H', call f args H = some (v, H') → CallOk P ng f args H v H') {go : Code → List Value → Heap → Option (Ex × List Value × Heap)} (hgo : ∀ c fr H ex fr' H', go c fr H = some (ex, fr', H') → CodeOk P ng c fr H ex fr' H')
    {fn : Func} {a : Act} {fr : List Value} {vs : List Value} {H2 : Heap} (hvs : ares P fr H2 fn.results.toList = some vs) {E : Nat → Option AObj} {w0 : World} {n : Nat} {μ0 : Nat → Option Loc} : ∀ (ds : List PD) (H : Heap) (Ds Dx : List Deferred) (μ : Nat → Option Loc) (W : World),
    runDs P ng call go ds H = some H2 → n ≤ H.next → ExtN n μ0 μ → DR μ ds Ds → FR Dx μ fr a → Free μ H.next → Glob μ ng → HR P w0 μ (ov H E) W →
    Leaves P fn a.tmps (fun e W' => ∃ μ' v', e = .returned v' ∧ ExtN n μ0 μ' ∧ VR μ' (oneOf vs) v' ∧ Free μ' H2.next ∧ HR P w0 μ' (ov H2 E) W') Ds .returning W := by
  intro ds
  induction ds with
  | nil =>
    intro H Ds Dx μ W h hn he hd hf hfree hg hw
    simp only [runDs, Option.some.injEq] at h
    subst h
    cases hd
    obtain ⟨v', r1, r2⟩ := results_ok (LeG.ov H E) hf hw hvs
    exact ⟨v', r1, μ, v', rfl, he, r2, hfree, hw⟩
  | cons p r ih =>
    intro H Ds Dx μ W h hn he hd hf hfree hg hw
    obtain ⟨g, xs⟩ := p
    simp only [runDs] at h
    split at h
    · rename_i v H1 h1
      cases hd with
      | cons hd1 hds =>
        obtain ⟨cap, args, rfl, hv⟩ := hd1
        obtain ⟨hdom, ⟨fn2, c2, hfn2, hc2⟩, hcd⟩ := stepD_ok hN hcall hgo h1
        have hne := hN g fn2 hfn2 (by rw [hc2]; rfl)
        refine leaves_cons (f := g) (args := args ++ cap) (by simp) ?_ ?_
        · simp [invoke, callFunc, hfn2, hne, hc2]
        · refine (hcd w0 μ E W (args ++ cap) hfree hg hw (by simpa using hv)).mono ?_
          rintro e u' W' ⟨rfl, μ', v', rfl, q1, q2, q3, q4⟩
          exact ih H1 _ Dx μ' W' h (Nat.le_trans hn hdom.next) (he.trans q1 hn) (hds.ext q1.ext) (hf.ext q1.ext) q3 (hg.ext q1.ext) q4
    · cases h

/-- What the plain run of a function that defers says holds of the model's. -/
theorem runTF_ok (hN : NoNum P) (hmix : P.follows .mixedOrders = true) {lib : Nat → Option (List Value → Heap → Option (Value × Heap))} (hlib : LibOk P ng lib) (n f : Nat) (args : List Value) (H : Heap) (v : Value) (H' : Heap) (h : runTF P ng lib n f args H = some (v, H')) : CallOk P ng f args H v H' := by
  have hgo := (runC_ok hN hmix hlib n).1
  have hcall : ∀ f args H v H', runF P ng lib n f args H = some (v, H') → CallOk P ng f args H v H' := runF_ok hN hmix hlib n
  unfold runTF at h
  split at h
  · cases h
  · rename_i fn hfn
    split at h
    · cases h
    · rename_i c hc
      split at h
      · rename_i ex fr ds H1 hrun
        split at h
        · cases h
        · rename_i hex
          split at h
          · cases h
          · rename_i H2 hds
            split at h
            · rename_i vs hvs
              simp only [Option.some.injEq, Prod.mk.injEq] at h
              obtain ⟨rfl, rfl⟩ := h
              have hok := runT_ok hN hcall hgo _ _ _ _ _ _ _ _ hrun
              have hdd := runDs_dom hN hcall hgo _ _ _ hds
              refine ⟨hok.dom.trans hdd, fun w0 μ E W args' hfree hglob hw hargs => ?_⟩
              unfold Calls2
              simp only [hfn, Option.bind_some, hc]
              refine calls_of_wp_defers hfn hc ?_
              have hsz : args'.size = args.length := by have := hargs.1; simpa using this.symm
              have hf : FR [] μ (args ++ List.replicate (fn.ntmps - args.length) undef) { tmps := args' ++ Array.replicate (fn.ntmps - args'.size) undef, defers := [] } := by
                refine ⟨rfl, ?_⟩
                simp only [Array.toList_append, Array.toList_replicate, hsz]
                refine hargs.append ⟨rfl, fun i x y hx hy => ?_⟩
                rw [hx] at hy; cases hy
                have := List.eq_of_mem_replicate (List.mem_of_getElem? hx)
                rw [this]; exact VR.undef
              refine wp_mono (hok.wp [] w0 μ E W _ hf .nil hfree hglob hw) fun e a W' hp => ?_
              obtain ⟨rfl, Ds', μ', p0, p1, p2, p3, p4⟩ := hp
              have hL := runDs_ok hN hcall hgo hvs ds H1 Ds' Ds' μ' W' hds hok.dom.next p1 p0 p2 p3 (hglob.ext p1.ext) p4
              rw [← p2.1] at hL
              cases ex with
              | normal => exact hL
              | ret => exact hL
              | exit id => exact absurd rfl (hex id)
            · cases h
      · cases h
end
end Go.Proofs.Ytdcojinnjpihaaa.X
