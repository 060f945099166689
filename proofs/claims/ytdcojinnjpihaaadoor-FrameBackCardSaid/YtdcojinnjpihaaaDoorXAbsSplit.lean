/- A body run in parts: so that a case may be told apart in between. No condition. -/
import Derived.Test.YtdcojinnjpihaaaDoorXAbsTop
namespace Go.Proofs.YtdcojinnjpihaaaDoor.X
open Go Go.RowKit
set_option linter.unusedVariables false
set_option linter.unusedSimpArgs false

def isSeq : Code → Bool
  | .seq _ _ => true
  | _ => false
def seqL : Code → Code
  | .seq x _ => x
  | _ => .skip
def seqR : Code → Code
  | .seq _ y => y
  | _ => .skip

theorem seq_split {c : Code} (h : isSeq c = true) : c = .seq (seqL c) (seqR c) := by
  cases c with
  | seq x y => rfl
  | _ => cases h

def isIf : Code → Bool
  | .cond _ _ _ => true
  | _ => false
def ifT : Code → Code
  | .cond _ x _ => x
  | _ => .skip
def ifF : Code → Code
  | .cond _ _ y => y
  | _ => .skip
def ifB : Code → Operand
  | .cond b _ _ => b
  | _ => .tmp 0

theorem if_split {c : Code} (h : isIf c = true) : c = .cond (ifB c) (ifT c) (ifF c) := by
  cases c with
  | cond b x y => rfl
  | _ => cases h

/-- A function's body. -/
def bodyOf (P : Program) (f : Nat) : Code := ((P.funcs[f]?).bind (·.body)).getD .skip

section
variable {P : Program} {ng : Nat}

theorem codeOk_seq {x y : Code} {fr fr1 fr2 : List Value} {H H1 H2 : Heap} {ex : Ex} (hx : CodeOk P ng x fr H .normal fr1 H1) (hy : CodeOk P ng y fr1 H1 ex fr2 H2) : CodeOk P ng (.seq x y) fr H ex fr2 H2 := by
  refine ⟨hx.dom.trans hy.dom, fun ds w0 μ E W a hf hfree hg hw => wp_seq ?_⟩
  refine wp_mono (hx.wp ds w0 μ E W a hf hfree hg hw) fun e a' W' hp => ?_
  obtain ⟨rfl, μ', p1, p2, p3, p4⟩ := hp
  exact wp_mono (hy.wp ds w0 μ' E W' a' p2 p3 (hg.ext p1.ext) p4) fun e a w q => q.trans p1 hx.dom.next

/-- The first part leaves the code. -/
theorem codeOk_seq_out {x y : Code} {fr fr1 : List Value} {H H1 : Heap} {ex : Ex} (hx : CodeOk P ng x fr H ex fr1 H1) (hne : ex ≠ .normal) : CodeOk P ng (.seq x y) fr H ex fr1 H1 := by
  refine ⟨hx.dom, fun ds w0 μ E W a hf hfree hg hw => wp_seq ?_⟩
  refine wp_mono (hx.wp ds w0 μ E W a hf hfree hg hw) fun e a' W' hp => ?_
  obtain ⟨rfl, hp⟩ := hp
  cases ex with
  | normal => exact absurd rfl hne
  | _ => exact ⟨rfl, hp⟩

theorem codeOk_cond {b : Operand} {x y : Code} {t : Bool} {fr fr1 : List Value} {H H1 : Heap} {ex : Ex} (hb : opd1 ng b = true) (hv : aev fr b = .bool t) (hx : CodeOk P ng (if t then x else y) fr H ex fr1 H1) : CodeOk P ng (.cond b x y) fr H ex fr1 H1 := by
  refine ⟨hx.dom, fun ds w0 μ E W a hf hfree hg hw => ?_⟩
  have h1 := hf.ev hg hb
  rw [hv] at h1
  have h2 := flat1_eq rfl h1
  cases t with
  | true => exact wp_cond_true h2 (hx.wp ds w0 μ E W a hf hfree hg hw)
  | false => exact wp_cond_false h2 (hx.wp ds w0 μ E W a hf hfree hg hw)

theorem codeOk_run {lib : Nat → Option (List Value → Heap → Option (Value × Heap))} (hN : noNumB P = true) (hmix : P.follows .mixedOrders = true) (hlib : LibOk P ng lib) {n : Nat} {c : Code} {fr fr' : List Value} {H H' : Heap} {ex : Ex}
    (h : runC P ng lib n c fr H = some (ex, fr', H')) : CodeOk P ng c fr H ex fr' H' := (runC_ok (noNum_of hN) hmix hlib n).1 c fr H ex fr' H' h

/-- What a body comes to, its call comes to. -/
theorem callOk_code {f : Nat} {fn : Func} (hfn : P.funcs[f]? = some fn) {c : Code} (hc : fn.body = some c) {args : List Value} {H H' : Heap} {ex : Ex} {fr : List Value} {vs : List Value}
    (hok : CodeOk P ng c (args ++ List.replicate (fn.ntmps - args.length) undef) H ex fr H') (hex : ex = .normal ∨ ex = .ret) (hvs : ares P fr H' fn.results.toList = some vs) : CallOk P ng f args H (oneOf vs) H' := by
  refine ⟨hok.dom, fun w0 μ E W args' hfree hglob hw hargs => ?_⟩
  unfold Calls2
  simp only [hfn, Option.bind_some, hc]
  refine calls_of_wp hfn hc ?_
  have hsz : args'.size = args.length := by have := hargs.1; simpa using this.symm
  have hf : FR [] μ (args ++ List.replicate (fn.ntmps - args.length) undef) { tmps := args' ++ Array.replicate (fn.ntmps - args'.size) undef, defers := [] } := by
    refine ⟨rfl, ?_⟩
    simp only [Array.toList_append, Array.toList_replicate, hsz]
    refine hargs.append ⟨rfl, fun i x y hx hy => ?_⟩
    rw [hx] at hy; cases hy
    have := List.eq_of_mem_replicate (List.mem_of_getElem? hx)
    rw [this]; exact VR.undef
  refine wp_mono (hok.wp [] w0 μ E W _ hf hfree hglob hw) fun e a W' hp => ?_
  obtain ⟨rfl, μ', p1, p2, p3, p4⟩ := hp
  obtain ⟨v', r1, r2⟩ := results_ok (LeG.ov H' E) p2 p4 hvs
  rcases hex with rfl | rfl
  · exact ⟨p2.1, v', r1, μ', v', rfl, p1, r2, p3, p4⟩
  · exact ⟨p2.1, v', r1, μ', v', rfl, p1, r2, p3, p4⟩
end

/-- The rest of a body returned so, as its one result tells. -/
def toldC (P : Program) (rs : List ResultVar) (x : Option (Ex × List Value × Heap)) (v : Bool) (ok : List Value → Heap → List ResultVar → Option (List Value)) : Bool := match x with
  | some (.normal, fr, H) => match ok fr H rs with
    | some [.bool b] => b == v
    | _ => false
  | some (.ret, fr, H) => match ok fr H rs with
    | some [.bool b] => b == v
    | _ => false
  | _ => false

/-- A call over package tables alone. -/
theorem calls_of_callOkL {P : Program} {ng f : Nat} {args : List Value} {b' : Bool} {H' : Heap} {tabs : List Tab} (szf : Nat → Nat)
    (hbody : ((P.funcs[f]?).bind (·.body)).isSome = true) (ha : args.all flat = true) (ht : tabs.all (tabOk P ng szf) = true) (hr : CallOk P ng f args (heapL ng tabs) (.bool b') H') (W : World)
    (hW : ∀ p ∈ tabs, ∀ (m : Nat) (u : Value), p.2.2[m]? = some u → W.cell? ⟨p.1, m, none⟩ = some u) :
    Calls P f args.toArray W fun e W' => e = .returned (.bool b') ∧ Below W.heap.size W W' := by
  have hov : ∀ k o, ov (heapL ng tabs) (fun _ => none) k = some o → ∃ p ∈ tabs, k = p.1 ∧ o = .ro p.2.2 p.2.1 := by
    intro k o hk
    unfold ov at hk
    split at hk
    · rename_i o' h1; cases hk; exact heapL_get h1
    · cases hk
  have hc := hr.calls W (muL ng szf) (fun _ => none) W args.toArray
    (fun k hk => by
      rw [heapL_next] at hk
      unfold muL
      split
      · rename_i h1
        have h1 := Nat.le_of_ble_eq_true h1
        omega
      · rfl)
    (fun g hg => by
      refine ⟨⟨g, 0, szf g, 0⟩, ?_, rfl, rfl⟩
      unfold muL
      have : Nat.blt g ng = true := Nat.ble_eq_true_of_le hg
      rw [this])
    ⟨Below.refl _ _, fun k c e hk => (by obtain ⟨p, _, _, h2⟩ := hov _ _ hk; cases h2), fun k c e hk => (by
        obtain ⟨p, hp, rfl, h2⟩ := hov _ _ hk
        cases h2
        have hp2 := List.all_eq_true.mp ht p hp
        simp only [tabOk, Bool.and_eq_true, decide_eq_true_eq] at hp2
        obtain ⟨⟨⟨q1, q2⟩, q3⟩, q4⟩ := hp2
        refine ⟨⟨p.1, 0, szf p.1, 0⟩, by unfold muL; rw [q1], ?_, q2, fun i x hx => ⟨x, ?_, flat1_rel (List.all_eq_true.mp q3 x (List.mem_of_getElem? hx))⟩⟩
        · cases hc : p.2.2 with
          | nil => rw [hc] at q4; simp at q4
          | cons x r =>
            have := hW p hp 0 x (by rw [hc]; rfl)
            simp only [World.cell?] at this
            split at this
            · rename_i hq; exact wlt hq
            · cases this
        · have := hW p hp i x hx
          simpa using this), fun k k' c c' e e' l l' hk => (by obtain ⟨p, _, _, h2⟩ := hov _ _ hk; cases h2),
      fun k c e hk => (by obtain ⟨p, _, _, h2⟩ := hov _ _ hk; cases h2), fun k k' c c' e e' l l' hk => (by obtain ⟨p, _, _, h2⟩ := hov _ _ hk; cases h2)⟩
    (by simpa using flatL ha)
  unfold Calls2 at hc
  cases hq : (P.funcs[f]?).bind (·.body) with
  | none => rw [hq] at hbody; cases hbody
  | some c =>
    rw [hq] at hc
    refine hc.mono ?_
    rintro e W' ⟨μ', v', rfl, _, hv, _, hR⟩
    exact ⟨by rw [flat1_eq (by rfl) hv], hR.below⟩
end Go.Proofs.YtdcojinnjpihaaaDoor.X
