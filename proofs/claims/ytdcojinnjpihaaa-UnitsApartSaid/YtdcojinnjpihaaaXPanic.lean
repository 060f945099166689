/- Calls that may panic, and a panic of the text's own. No condition. -/
import Derived.Test.YtdcojinnjpihaaaXTail
namespace Go.Proofs.Ytdcojinnjpihaaa.X
open Go Go.RowKit
section
variable {P : Program} {n : Nat} {l : List (Nat × Value)} {a : Act} {ops : Array Oper} {o : Oper} {rest : List Oper} {Q : Exit → Act → World → Prop} {W : World}
/-- A call, with a result, that may panic. -/
theorem stepcP (ha : Has n l a) (d : Nat) {f : FuncId} {args : Array Value} {R : Ending → World → Prop} (hok : okB n l ops o d = true) (hx : (execOp (ev l) o).run P W = .ok (.enter f args) W)
    (hc : Calls P f args W R) (h : ∀ e W', R e W' → (∃ v, e = .returned v ∧ ∀ a', Has n ((d, v) :: l) a' → wpList P ops Q rest a' W') ∨ (∃ c, e = .panicked c ∧ Q (.panic c) a W')) : wpList P ops Q (o :: rest) a W := by
  obtain ⟨h1, h2, h3, h4⟩ := okB_spec hok
  unfold wpList
  rw [if_pos (ha.on ops o h2)]
  refine .inl ?_
  unfold Oper.wp
  rw [exec_eq ha o h1, hx, Oper.upon_enter]
  refine hc.mono fun e W1 hR => ?_
  rcases h e W1 hR with ⟨v, rfl, hv⟩ | ⟨c, rfl, hq⟩
  · show wpList P ops Q rest (a.put o.dst v) W1
    rw [h4]
    exact hv _ (ha.put h3 v)
  · exact hq
/-- A call, without a result, that may panic. -/
theorem stepcP0 (ha : Has n l a) {f : FuncId} {args : Array Value} {R : Ending → World → Prop} (hok : okS l ops o = true) (hx : (execOp (ev l) o).run P W = .ok (.enter f args) W)
    (hc : Calls P f args W R) (h : ∀ e W', R e W' → (∃ v, e = .returned v ∧ ∀ a', Has n l a' → wpList P ops Q rest a' W') ∨ (∃ c, e = .panicked c ∧ Q (.panic c) a W')) : wpList P ops Q (o :: rest) a W := by
  simp only [okS, Bool.and_eq_true, Option.isNone_iff_eq_none] at hok
  obtain ⟨⟨h1, h2⟩, h3⟩ := hok
  unfold wpList
  rw [if_pos (ha.on ops o h2)]
  refine .inl ?_
  unfold Oper.wp
  rw [exec_eq ha o h1, hx, Oper.upon_enter]
  refine hc.mono fun e W1 hR => ?_
  rcases h e W1 hR with ⟨v, rfl, hv⟩ | ⟨c, rfl, hq⟩
  · show wpList P ops Q rest (a.put o.dst v) W1
    rw [h3]
    exact hv _ ha
  · exact hq
/-- The text's own panic. -/
theorem steppan (ha : Has n l a) (v : Value) (hok : okS l ops o = true) (hx : (execOp (ev l) o).run P W = .halt (.panic v) W) (h : Q (.panic [{ v := v, recovered := false }]) a W) : wpList P ops Q (o :: rest) a W := by
  simp only [okS, Bool.and_eq_true, Option.isNone_iff_eq_none] at hok
  obtain ⟨⟨h1, h2⟩, h3⟩ := hok
  unfold wpList
  rw [if_pos (ha.on ops o h2)]
  refine .inl ?_
  unfold Oper.wp
  rw [exec_eq ha o h1, hx]
  exact h
end
end Go.Proofs.Ytdcojinnjpihaaa.X
