/- A closed call, by a plain run, that hands back a pointer to a new row of values without addresses. No condition. -/
import Derived.Test.YtdcojinnjpihaaaXAbsLib
namespace Go.Proofs.Ytdcojinnjpihaaa.X
open Go Go.RowKit
set_option linter.unusedVariables false
set_option linter.unusedSimpArgs false

def toldRow (x : Option (Value × Heap)) (cs : List Value) (T : Nat) : Bool := match x with
  | some (.pointer (some ⟨k, 0, none⟩), H) => match H.get k with
    | some (.row c e) => valsEq c cs && Nat.beq e.1 T && e.2 && cs.all flat1
    | _ => false
  | _ => false

theorem calls_of_row {P : Program} {ng f n T : Nat} {args : List Value} {cs : List Value} {lib : Nat → Option (List Value → Heap → Option (Value × Heap))} (hN : noNumB P = true) (hmix : P.follows .mixedOrders = true) (hlib : LibOk P ng lib)
    (hbody : ((P.funcs[f]?).bind (·.body)).isSome = true) (ha : args.all flat = true) (h : toldRow (runF P ng lib n f args (heap0 ng)) cs T = true) (W : World) :
    Calls P f args.toArray W fun e W' => ∃ b fr, e = .returned (.pointer (some ⟨b, 0, none⟩)) ∧ W.heap.size ≤ b ∧ W'.heap[b]? = some (.cells cs.toArray T fr) ∧ Below W.heap.size W W' := by
  unfold toldRow at h
  split at h
  · rename_i k H' hr
    split at h
    · rename_i c e hg
      simp only [Bool.and_eq_true] at h
      obtain ⟨⟨⟨h1, h2⟩, h3⟩, h4⟩ := h
      obtain rfl := valsEq_eq h1
      obtain rfl := Nat.eq_of_beq_eq_true h2
      have hc := (runF_ok (noNum_of hN) hmix hlib n f args (heap0 ng) _ H' hr).calls W (mu0 ng) (fun _ => none) W args.toArray
        (fun k hk => by
          unfold mu0
          split
          · rename_i h1
            have h1 := Nat.le_of_ble_eq_true h1
            have hk : ng ≤ k := hk
            omega
          · rfl)
        (fun g hg => by
          refine ⟨⟨g, 0, 0, 0⟩, ?_, rfl, rfl⟩
          unfold mu0
          have : Nat.blt g ng = true := Nat.ble_eq_true_of_le hg
          rw [this])
        ⟨Below.refl _ _, fun k c e hk => (by simp [ov, heap0, Heap.get, Trie.get] at hk), fun k c e hk => (by simp [ov, heap0, Heap.get, Trie.get] at hk), fun k k' c c' e e' l l' hk => (by simp [ov, heap0, Heap.get, Trie.get] at hk),
          fun k c e hk => (by simp [ov, heap0, Heap.get, Trie.get] at hk), fun k k' c c' e e' l l' hk => (by simp [ov, heap0, Heap.get, Trie.get] at hk)⟩
        (by simpa using flatL ha)
      unfold Calls2 at hc
      cases hq : (P.funcs[f]?).bind (·.body) with
      | none => rw [hq] at hbody; cases hbody
      | some cc =>
        rw [hq] at hc
        refine hc.mono ?_
        rintro e' W' ⟨μ', v', rfl, _, hv, _, hR⟩
        have hov : ov H' (fun _ => none) k = some (.row c e) := by unfold ov; rw [hg]
        obtain ⟨l, C, fr, g1, g2, g3, g4, g5, ⟨_, _, g6⟩, g7⟩ := hR.row k c e hov
        obtain ⟨g8, g9⟩ := g6 h3
        cases hv with
        | ptr hm =>
          rename_i l2
          rw [hm] at g1; cases g1
          refine ⟨l.b, fr, by rw [g8], g2, ?_, hR.below⟩
          rw [g3]
          have hC : C = c.toArray := by
            apply Array.ext'
            apply List.ext_getElem?
            intro i
            rw [Array.getElem?_toList, List.toList_toArray]
            cases hi : c[i]? with
            | none => rw [Array.getElem?_eq_none_iff]; have := List.getElem?_eq_none_iff.mp hi; omega
            | some x =>
              obtain ⟨y, hy, hr⟩ := g7 i x hi
              rw [g8, Nat.zero_add] at hy
              rw [hy, flat1_eq (List.all_eq_true.mp h4 x (List.mem_of_getElem? hi)) hr]
          rw [hC]
    · cases h
  · cases h
end Go.Proofs.Ytdcojinnjpihaaa.X
