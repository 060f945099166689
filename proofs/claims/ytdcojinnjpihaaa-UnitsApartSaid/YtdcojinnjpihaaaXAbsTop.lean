/- A plain run that begins with no memory of its own: what the model's call comes to. No condition. -/
import Derived.Test.YtdcojinnjpihaaaXAbsCode
namespace Go.Proofs.Ytdcojinnjpihaaa.X
open Go Go.RowKit

def nolib : Nat → Option (List Value → Heap → Option (Value × Heap)) := fun _ => none

def noNumB (P : Program) : Bool := P.funcs.toList.all fun fn => !fn.body.isSome || !(fn.name == "runtime.NumGoroutine")

theorem noNum_of {P : Program} (h : noNumB P = true) : NoNum P := by
  intro g fn hg hb hn
  have := List.all_eq_true.mp h fn (by
    have := List.mem_of_getElem? (l := P.funcs.toList) (i := g) (a := fn) (by rw [Array.getElem?_toList]; exact hg)
    exact this)
  simp [hb, hn] at this

theorem nolib_ok (P : Program) (ng : Nat) : LibOk P ng nolib := fun f g h => by cases h

/-- The package's variables. -/
def mu0 (ng k : Nat) : Option Loc := match Nat.blt k ng with
  | true => some ⟨k, 0, 0, 0⟩
  | false => none

def heap0 (ng : Nat) : Heap := ⟨ng, .leaf⟩

/-- The call returned so. -/
def told (x : Option (Value × Heap)) (v : Bool) : Bool := match x with
  | some (.bool b, _) => b == v
  | _ => false

theorem flatL {μ : Nat → Option Loc} : ∀ {args : List Value}, args.all flat = true → VL μ args args := by
  intro args
  induction args with
  | nil => intro _; exact .nil
  | cons x r ih =>
    intro h
    simp only [List.all_cons, Bool.and_eq_true] at h
    exact .cons (flat_rel h.1) (ih h.2)

theorem calls_of_run {P : Program} {ng f n : Nat} {args : List Value} {b : Bool} {lib : Nat → Option (List Value → Heap → Option (Value × Heap))} (hN : noNumB P = true) (hmix : P.follows .mixedOrders = true) (hlib : LibOk P ng lib)
    (hbody : ((P.funcs[f]?).bind (·.body)).isSome = true) (ha : args.all flat = true) (h : told (runF P ng lib n f args (heap0 ng)) b = true) (W : World) :
    Calls P f args.toArray W fun e W' => e = .returned (.bool b) ∧ Below W.heap.size W W' := by
  unfold told at h
  split at h
  · rename_i b' H' hr
    have hb : b' = b := by simpa using h
    subst hb
    have hc := (runF_ok (noNum_of hN) hmix hlib n f args (heap0 ng) (.bool b') H' hr).calls W (mu0 ng) (fun _ => none) W args.toArray
      (fun k hk => by
        unfold mu0
        split
        · rename_i h1
          have h1 := Nat.le_of_ble_eq_true h1
          have hk : ng ≤ k := hk
          omega
        · rfl)
      (fun g hg => by
        refine ⟨⟨g, 0, 0, 0⟩, ?_, rfl, rfl⟩
        unfold mu0
        have : Nat.blt g ng = true := Nat.ble_eq_true_of_le hg
        rw [this])
      ⟨Below.refl _ _, fun k c e hk => (by simp [ov, heap0, Heap.get, Trie.get] at hk), fun k c e hk => (by simp [ov, heap0, Heap.get, Trie.get] at hk), fun k k' c c' e e' l l' hk => (by simp [ov, heap0, Heap.get, Trie.get] at hk),
        fun k c e hk => (by simp [ov, heap0, Heap.get, Trie.get] at hk), fun k k' c c' e e' l l' hk => (by simp [ov, heap0, Heap.get, Trie.get] at hk)⟩
      (by simpa using flatL ha)
    unfold Calls2 at hc
    cases hq : (P.funcs[f]?).bind (·.body) with
    | none => rw [hq] at hbody; cases hbody
    | some c =>
      rw [hq] at hc
      refine hc.mono ?_
      rintro e W' ⟨μ', v', rfl, _, hv, _, hR⟩
      exact ⟨by rw [flat1_eq (by rfl) hv], hR.below⟩
  · cases h

/-- Package tables: number, type, cells. -/
abbrev Tab := Nat × Nat × List Value

def heapL (ng : Nat) : List Tab → Heap
  | [] => heap0 ng
  | p :: r => (heapL ng r).put p.1 (.ro p.2.2 p.2.1)

theorem heapL_get {ng : Nat} : ∀ {tabs : List Tab} {k : Nat} {o : AObj}, (heapL ng tabs).get k = some o → ∃ p ∈ tabs, k = p.1 ∧ o = .ro p.2.2 p.2.1 := by
  intro tabs
  induction tabs with
  | nil => intro k o h; simp [heapL, heap0, Heap.get, Trie.get] at h
  | cons p r ih =>
    intro k o h
    simp only [heapL, Heap.get_put] at h
    split at h
    · rename_i hk; cases h; exact ⟨p, List.mem_cons_self, hk, rfl⟩
    · obtain ⟨q, h1, h2⟩ := ih h; exact ⟨q, List.mem_cons_of_mem _ h1, h2⟩

theorem heapL_next {ng : Nat} : ∀ (tabs : List Tab), (heapL ng tabs).next = ng := by
  intro tabs
  induction tabs with
  | nil => rfl
  | cons p r ih => simpa [heapL, Heap.put] using ih

def muL (ng : Nat) (szf : Nat → Nat) (k : Nat) : Option Loc := match Nat.blt k ng with
  | true => some ⟨k, 0, szf k, 0⟩
  | false => none

def tabOk (P : Program) (ng : Nat) (szf : Nat → Nat) (p : Tab) : Bool := Nat.blt p.1 ng && decide ((P.info? p.2.1).map (·.size) = some (szf p.1)) && p.2.2.all flat1 && !p.2.2.isEmpty

theorem calls_of_runL {P : Program} {ng f n : Nat} {args : List Value} {b : Bool} {lib : Nat → Option (List Value → Heap → Option (Value × Heap))} {tabs : List Tab} (szf : Nat → Nat) (hN : noNumB P = true) (hmix : P.follows .mixedOrders = true) (hlib : LibOk P ng lib)
    (hbody : ((P.funcs[f]?).bind (·.body)).isSome = true) (ha : args.all flat = true) (ht : tabs.all (tabOk P ng szf) = true) (h : told (runF P ng lib n f args (heapL ng tabs)) b = true) (W : World)
    (hW : ∀ p ∈ tabs, ∀ (m : Nat) (u : Value), p.2.2[m]? = some u → W.cell? ⟨p.1, m, none⟩ = some u) :
    Calls P f args.toArray W fun e W' => e = .returned (.bool b) ∧ Below W.heap.size W W' := by
  unfold told at h
  split at h
  · rename_i b' H' hr
    have hb : b' = b := by simpa using h
    subst hb
    have hov : ∀ k o, ov (heapL ng tabs) (fun _ => none) k = some o → ∃ p ∈ tabs, k = p.1 ∧ o = .ro p.2.2 p.2.1 := by
      intro k o hk
      unfold ov at hk
      split at hk
      · rename_i o' h1; cases hk; exact heapL_get h1
      · cases hk
    have hc := (runF_ok (noNum_of hN) hmix hlib n f args (heapL ng tabs) (.bool b') H' hr).calls W (muL ng szf) (fun _ => none) W args.toArray
      (fun k hk => by
        rw [heapL_next] at hk
        unfold muL
        split
        · rename_i h1
          have h1 := Nat.le_of_ble_eq_true h1
          omega
        · rfl)
      (fun g hg => by
        refine ⟨⟨g, 0, szf g, 0⟩, ?_, rfl, rfl⟩
        unfold muL
        have : Nat.blt g ng = true := Nat.ble_eq_true_of_le hg
        rw [this])
      ⟨Below.refl _ _, fun k c e hk => (by obtain ⟨p, _, _, h2⟩ := hov _ _ hk; cases h2), fun k c e hk => (by
          obtain ⟨p, hp, rfl, h2⟩ := hov _ _ hk
          cases h2
          have hp2 := List.all_eq_true.mp ht p hp
          simp only [tabOk, Bool.and_eq_true, decide_eq_true_eq] at hp2
          obtain ⟨⟨⟨q1, q2⟩, q3⟩, q4⟩ := hp2
          refine ⟨⟨p.1, 0, szf p.1, 0⟩, by unfold muL; rw [q1], ?_, q2, fun i x hx => ⟨x, ?_, flat1_rel (List.all_eq_true.mp q3 x (List.mem_of_getElem? hx))⟩⟩
          · cases hc : p.2.2 with
            | nil => rw [hc] at q4; simp at q4
            | cons x r =>
              have := hW p hp 0 x (by rw [hc]; rfl)
              simp only [World.cell?] at this
              split at this
              · rename_i hq; exact wlt hq
              · cases this
          · have := hW p hp i x hx
            simpa using this), fun k k' c c' e e' l l' hk => (by obtain ⟨p, _, _, h2⟩ := hov _ _ hk; cases h2),
        fun k c e hk => (by obtain ⟨p, _, _, h2⟩ := hov _ _ hk; cases h2), fun k k' c c' e e' l l' hk => (by obtain ⟨p, _, _, h2⟩ := hov _ _ hk; cases h2)⟩
      (by simpa using flatL ha)
    unfold Calls2 at hc
    cases hq : (P.funcs[f]?).bind (·.body) with
    | none => rw [hq] at hbody; cases hbody
    | some c =>
      rw [hq] at hc
      refine hc.mono ?_
      rintro e W' ⟨μ', v', rfl, _, hv, _, hR⟩
      exact ⟨by rw [flat1_eq (by rfl) hv], hR.below⟩
  · cases h
end Go.Proofs.Ytdcojinnjpihaaa.X
