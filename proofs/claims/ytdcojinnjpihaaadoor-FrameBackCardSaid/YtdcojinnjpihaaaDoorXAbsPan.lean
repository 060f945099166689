/- Operations one by one over the plain memory: a list's beginning that is run, a call that may panic, an operation of which the value is told. No condition. -/
import Derived.Test.YtdcojinnjpihaaaDoorXAbsSplit
import Derived.Test.YtdcojinnjpihaaaDoorXAbsDefer
import Derived.Test.YtdcojinnjpihaaaDoorXAbsLib
namespace Go.Proofs.YtdcojinnjpihaaaDoor.X
open Go Go.RowKit
set_option linter.unusedVariables false
set_option linter.unusedSimpArgs false

section
variable {ds : List Deferred} {P : Program} {ng : Nat} {w0 W : World} {μ : Nat → Option Loc} {H : Heap} {E : Nat → Option AObj} {fr : List Value} {a : Act} {ops : Array Oper}

/-- A list's beginning. -/
theorem runO_pre (hN : NoNum P) {call : CallF} (hcall : ∀ f args H v H', call f args H = some (v, H') → CallOk P ng f args H v H') {Q : Exit → Act → World → Prop} (l2 : List Oper) : ∀ (l : List Oper) (fr : List Value) (H : Heap) (fr' : List Value) (H' : Heap) (μ : Nat → Option Loc) (a : Act) (W : World),
    runO P ng call ops l fr H = some (fr', H') → FR ds μ fr a → Free μ H.next → Glob μ ng → HR P w0 μ (ov H E) W → (∀ a' W', PostO ds P w0 μ E H.next fr' H' a' W' → wpList P ops Q l2 a' W') → wpList P ops Q (l ++ l2) a W := by
  intro l
  induction l with
  | nil =>
    intro fr H fr' H' μ a W h hf hfree hg hw hQ
    simp only [runO_nil, Option.some.injEq, Prod.mk.injEq] at h
    obtain ⟨rfl, rfl⟩ := h
    exact hQ a W ⟨μ, .refl _ μ, hf, hfree, hw⟩
  | cons o r ih =>
    intro fr H fr' H' μ a W h hf hfree hg hw hQ
    rw [runO_cons] at h
    unfold stepO at h
    rw [List.cons_append]
    unfold wpList
    rw [hf.want]
    split at h
    · rename_i hwant
      rw [hwant, if_neg (by simp)]
      exact ih _ _ _ _ μ _ W h (hf.put o.dst VR.undef) hfree hg hw hQ
    · rename_i hwant
      rw [hwant, if_pos rfl]
      split at h
      · cases h
      · rename_i h1
        split at h
        · cases h
        · rename_i res h2
          split at h
          · cases h
          · rename_i v H1 h3
            rw [aopQ_eq] at h2
            refine .inl (stepP hN hcall (FR.opsR hf hg (opsOk_all h1)) h2 h3 hfree hg hw fun μ' v' W' e1 e2 e3 e4 => ?_)
            refine ih _ _ _ _ μ' _ W' h ((hf.ext e1.ext).put o.dst e2) e3 (hg.ext e1.ext) e4 fun a' W'' hp => hQ a' W'' ?_
            obtain ⟨μ2, p1, p2, p3, p4⟩ := hp
            exact ⟨μ2, e1.trans p1 (applyR_dom hcall h3).next, p2, p3, p4⟩

/-- A call, which may panic. -/
theorem wpList_call (hN : NoNum P) {o : Oper} {r : List Oper} {f : Nat} {args : List Value} {Q : Exit → Act → World → Prop} {R : Ending → World → Prop} (hwant : awant ops fr o = true) (h1 : opsOk ng o.op = true) (h2 : aopQ P H.get o (aev fr) = some (.enter f args))
    (hbody : ((P.funcs[f]?).bind (·.body)).isSome = true) (hf : FR ds μ fr a) (hg : Glob μ ng) (hw : HR P w0 μ (ov H E) W) (hc : ∀ args' : Array Value, VL μ args args'.toList → Calls P f args' W R)
    (hk : ∀ e W', R e W' → (∃ v', e = .returned v' ∧ wpList P ops Q r (a.put o.dst v') W') ∨ (∃ c, e = .panicked c ∧ Q (.panic c) a W')) : wpList P ops Q (o :: r) a W := by
  unfold wpList
  rw [hf.want, hwant, if_pos rfl]
  left
  rw [aopQ_eq] at h2
  have hok : AOk P w0 μ (ov H E) W ((execOp a.eval o).run P W) (.enter f args) := aop_ok (aop_mono (LeG.ov H E) h2) (FR.opsR hf hg (opsOk_all h1)) hw
  obtain ⟨args', q1, q2⟩ := hok
  unfold Oper.wp
  cases hb : (P.funcs[f]?).bind (·.body) with
  | none => rw [hb] at hbody; cases hbody
  | some c =>
    have hrun : (callFunc f args').run P W = .ok (.enter f args') W := by
      cases hfn : P.funcs[f]? with
      | none => simp [hfn] at hb
      | some fn =>
        simp only [hfn, Option.bind_some] at hb
        have hne := hN f fn hfn (by rw [hb]; rfl)
        simp [callFunc, hfn, hne, hb]
    rw [q1, hrun, Oper.upon_enter]
    refine (hc args' q2).mono fun e W' hR => ?_
    rcases hk e W' hR with ⟨v', rfl, h⟩ | ⟨c, rfl, h⟩
    · exact h
    · exact h

/-- What an operation leaves, by the slots that are known. -/
theorem wpList_fix {n : Nat} {l : List (Nat × Value)} {o : Oper} {r : List Oper} {Q : Exit → Act → World → Prop} (ha : Has n l a) (v : Value) (hok : (known l o && onB l ops o.guard) = true) (hx : (execOp (ev l) o).run P W = .ok (.value v) W)
    (h : wpList P ops Q r (a.put o.dst v) W) : wpList P ops Q (o :: r) a W := by
  simp only [Bool.and_eq_true] at hok
  unfold wpList
  rw [if_pos (ha.on ops o hok.2)]
  refine .inl ?_
  unfold Oper.wp
  rw [exec_eq ha o hok.1, hx, Oper.upon_value]
  exact h
end

/-! ### Regions that draw, over values that are not known -/
noncomputable def runDp (P : Program) (ng : Nat) (call : CallF) (ops : Array Oper) (fr : List Value) (H : Heap) : Option (List Value × Heap × List (List (Option ARes × Option ARes))) := match chkB ops && chkM ops (masks ops.toList) && dstB fr.length ops with
  | false => none
  | true => match passD P ng call ops H.next (masks ops.toList) ops.toList 0 fr ⟨H.next + ops.size, H.t⟩ [] [] [⟨H.next + ops.size, H.t⟩] [] with
    | none => none
    | some C => match chkC (masks ops.toList) C.effs with
      | false => none
      | true => match chkA H.next (masks ops.toList) C with
        | false => none
        | true => match C.frs[ops.size]?, C.hs[C.effs.length]? with
          | some fr', some S => some (fr', addA H.next (2 ^ ops.size - 1) C.recs 0 S, pairsW P H.next (masks ops.toList) ops C)
          | _, _ => none

section
variable {P : Program} {ng : Nat} {call : CallF} {ops : Array Oper} {fr : List Value} {H : Heap}
theorem runDp_cert {fr' : List Value} {H' : Heap} {ps : List (List (Option ARes × Option ARes))} (h : runDp P ng call ops fr H = some (fr', H', ps)) (hp : ps.map (·.map Prod.fst) = ps.map (·.map Prod.snd)) : CertOk P ng call ops fr H fr' H' := by
  unfold runDp at h
  split at h
  · cases h
  · rename_i hb
    simp only [Bool.and_eq_true] at hb
    split at h
    · cases h
    · rename_i C hC
      split at h
      · cases h
      · rename_i he
        split at h
        · cases h
        · rename_i ha
          split at h
          · rename_i f S hf hS
            simp only [Option.some.injEq, Prod.mk.injEq] at h
            obtain ⟨rfl, rfl, rfl⟩ := h
            obtain ⟨S2, hI, hle⟩ := passD_ok (P := P) (ng := ng) (call := call) (ops := ops) (base := H.next) (ms := masks ops.toList) ops.toList 0 fr ⟨H.next + ops.size, H.t⟩ [] [] [⟨H.next + ops.size, H.t⟩] [] C (by simp) (Nat.zero_le _)
              ⟨rfl, rfl, rfl, rfl, fun l e he => by simp at he, fun j v hj => by simp at hj, fun l m e he => by simp at he, fun l e he => by simp at he, fun j hj => by omega⟩ hC
            obtain ⟨⟨x1, e1⟩, ⟨x2, e2⟩, ⟨x3, e3⟩, ⟨x4, e4⟩⟩ := hle
            exact ⟨C, S, ⟨hb.1.1, hb.1.2, hb.2, .inr ⟨he, pairsW_prop hp⟩, ha, by rw [e2]; rfl, hI.recs, hI.hs, hI.lt, hI.inc, hI.effr, hI.val⟩, hf, hS, by rw [e3]; rfl, rfl⟩
          · cases h

theorem codeOk_drawn (hN : NoNum P) (hmix : P.follows .mixedOrders = true) (hcall : ∀ f args H v H', call f args H = some (v, H') → CallOk P ng f args H v H') {id : Nat} {fr' : List Value} {H' : Heap} (h : (runDp P ng call ops fr H).map (fun x => (x.1, x.2.1)) = some (fr', H'))
    (hp : (runDp P ng call ops fr H).map (fun x => x.2.2.map (·.map Prod.fst)) = (runDp P ng call ops fr H).map (fun x => x.2.2.map (·.map Prod.snd))) : CodeOk P ng (.region id ops true) fr H .normal fr' H' := by
  cases hr : runDp P ng call ops fr H with
  | none => rw [hr] at h; cases h
  | some x =>
    rw [hr] at h hp
    simp only [Option.map_some, Option.some.injEq, Prod.mk.injEq] at h hp
    obtain ⟨rfl, rfl⟩ := h
    have hc : CertOk P ng call ops fr H x.1 x.2.1 := runDp_cert hr hp
    exact ⟨(runD_domC hcall hc).1, fun ds w0 μ E W a hf hfree hg hw => runD_okC hN hmix hcall hc hf hfree hg hw fun a' W' hq => ⟨rfl, hq⟩⟩
end

def isDrw : Code → Bool
  | .region _ _ true => true
  | _ => false
def regOps : Code → Array Oper
  | .region _ ops _ => ops
  | _ => #[]
def regId : Code → Nat
  | .region id _ _ => id
  | _ => 0
def isLit : Code → Bool
  | .region _ _ false => true
  | _ => false
theorem lit_split {c : Code} (h : isLit c = true) : c = .region (regId c) (regOps c) false := by
  cases c with
  | region id ops d => cases d with
    | false => rfl
    | true => cases h
  | _ => cases h
theorem drw_split {c : Code} (h : isDrw c = true) : c = .region (regId c) (regOps c) true := by
  cases c with
  | region id ops d => cases d with
    | true => rfl
    | false => cases h
  | _ => cases h
def isBlk : Code → Bool
  | .block _ _ => true
  | _ => false
def blkC : Code → Code
  | .block _ x => x
  | _ => .skip
def blkI : Code → Nat
  | .block i _ => i
  | _ => 0
theorem blk_split {c : Code} (h : isBlk c = true) : c = .block (blkI c) (blkC c) := by
  cases c with
  | block id x => rfl
  | _ => cases h
end Go.Proofs.YtdcojinnjpihaaaDoor.X
