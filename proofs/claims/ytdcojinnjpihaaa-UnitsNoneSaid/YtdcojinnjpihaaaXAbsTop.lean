/- A plain run that begins with no memory of its own: what the model's call comes to. No condition. -/
import Derived.Test.YtdcojinnjpihaaaXAbsCode
namespace Go.Proofs.Ytdcojinnjpihaaa.X
open Go Go.RowKit

def nolib : Nat → Option (List Value → Heap → Option (Value × Heap)) := fun _ => none

def noNumB (P : Program) : Bool := P.funcs.toList.all fun fn => !fn.body.isSome || !(fn.name == "runtime.NumGoroutine")

theorem noNum_of {P : Program} (h : noNumB P = true) : NoNum P := by
  intro g fn hg hb hn
  have := List.all_eq_true.mp h fn (by
    have := List.mem_of_getElem? (l := P.funcs.toList) (i := g) (a := fn) (by rw [Array.getElem?_toList]; exact hg)
    exact this)
  simp [hb, hn] at this

theorem nolib_ok (P : Program) (ng : Nat) : LibOk P ng nolib := fun f g h => by cases h

/-- The package's variables. -/
def mu0 (ng k : Nat) : Option Loc := match Nat.blt k ng with
  | true => some ⟨k, 0, 0, 0⟩
  | false => none

def heap0 (ng : Nat) : Heap := ⟨ng, .leaf⟩

/-- The call returned so. -/
def told (x : Option (Value × Heap)) (v : Bool) : Bool := match x with
  | some (.bool b, _) => b == v
  | _ => false

theorem flatL {μ : Nat → Option Loc} : ∀ {args : List Value}, args.all flat = true → VL μ args args := by
  intro args
  induction args with
  | nil => intro _; exact .nil
  | cons x r ih =>
    intro h
    simp only [List.all_cons, Bool.and_eq_true] at h
    exact .cons (flat_rel h.1) (ih h.2)

theorem calls_of_run {P : Program} {ng f n : Nat} {args : List Value} {b : Bool} {lib : Nat → Option (List Value → Heap → Option (Value × Heap))} (hN : noNumB P = true) (hmix : P.follows .mixedOrders = true) (hlib : LibOk P ng lib)
    (hbody : ((P.funcs[f]?).bind (·.body)).isSome = true) (ha : args.all flat = true) (h : told (runF P ng lib n f args (heap0 ng)) b = true) (W : World) :
    Calls P f args.toArray W fun e W' => e = .returned (.bool b) ∧ Below W.heap.size W W' := by
  unfold told at h
  split at h
  · rename_i b' H' hr
    have hb : b' = b := by simpa using h
    subst hb
    have hc := (runF_ok (noNum_of hN) hmix hlib n f args (heap0 ng) (.bool b') H' hr).calls W (mu0 ng) (fun _ => none) W args.toArray
      (fun k hk => by
        unfold mu0
        split
        · rename_i h1
          have h1 := Nat.le_of_ble_eq_true h1
          have hk : ng ≤ k := hk
          omega
        · rfl)
      (fun g hg => by
        refine ⟨⟨g, 0, 0, 0⟩, ?_, rfl, rfl⟩
        unfold mu0
        have : Nat.blt g ng = true := Nat.ble_eq_true_of_le hg
        rw [this])
      ⟨Below.refl _ _, fun k c e hk => (by simp [ov, heap0, Heap.get, Trie.get] at hk), fun k c e hk => (by simp [ov, heap0, Heap.get, Trie.get] at hk), fun k k' c c' e e' l l' hk => (by simp [ov, heap0, Heap.get, Trie.get] at hk),
        fun k c e hk => (by simp [ov, heap0, Heap.get, Trie.get] at hk), fun k k' c c' e e' l l' hk => (by simp [ov, heap0, Heap.get, Trie.get] at hk)⟩
      (by simpa using flatL ha)
    unfold Calls2 at hc
    cases hq : (P.funcs[f]?).bind (·.body) with
    | none => rw [hq] at hbody; cases hbody
    | some c =>
      rw [hq] at hc
      refine hc.mono ?_
      rintro e W' ⟨μ', v', rfl, _, hv, _, hR⟩
      exact ⟨by rw [flat1_eq (by rfl) hv], hR.below⟩
  · cases h
end Go.Proofs.Ytdcojinnjpihaaa.X
