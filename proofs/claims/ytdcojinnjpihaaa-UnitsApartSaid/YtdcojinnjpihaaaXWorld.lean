/- The walker's words on memory: what a call has made, what it reads, and one lemma for each operation that touches memory. No condition. -/
import Derived.Test.YtdcojinnjpihaaaXCore
namespace Go.Proofs.Ytdcojinnjpihaaa.X
open Go Go.RowKit

/-- A row of one's own: cells that nobody else has; none of them is frozen. -/
def ownG (w : World) (base e size : Nat) (v : Value) (n : Nat) (xs : List Value) : Prop :=
  xs.length = n * size ∧ ((v = .slice none 0 0 ∧ n = 0) ∨
   ∃ g cap cur fz, v = .slice (some ⟨g, 0, none⟩) n cap ∧ base ≤ g ∧ w.heap[g]? = some (.cells cur e fz) ∧ (∀ i, i < cur.size → ¬ (fz.1 ≤ i ∧ i < fz.2)) ∧ n ≤ cap ∧ cap ≤ maxLen ∧ cur.size = cap * size ∧ cur.toList.take (n * size) = xs)

theorem ownG_nil (w : World) (base e size : Nat) : ownG w base e size (.slice none 0 0) 0 [] := ⟨by simp, .inl ⟨rfl, rfl⟩⟩

theorem ownG_of {w : World} {base e size : Nat} {v : Value} {n : Nat} {xs : List Value} (h : w.ownsRow base e size v n xs) : ownG w base e size v n xs := by
  refine ⟨h.1, ?_⟩
  rcases h.2 with hn | ⟨g, cap, cur, hv, hb, hg, rest⟩
  · exact .inl hn
  · exact .inr ⟨g, cap, cur, (0, 0), hv, hb, hg, fun i _ hx => by simp at hx, rest⟩

theorem ownG.lt {w : World} {base e size : Nat} {v : Value} {n : Nat} {xs : List Value} (h : ownG w base e size v n xs) : ∀ k, v.ownBlock = some k → base ≤ k ∧ k < w.heap.size := by
  intro k hk
  rcases h.2 with ⟨rfl, _⟩ | ⟨g, cap, cur, fz, rfl, hb, hg, _⟩
  · simp [Value.ownBlock] at hk
  · simp [Value.ownBlock] at hk
    subst hk
    exact ⟨hb, (Array.getElem?_eq_some_iff.1 hg).1⟩

theorem ownG.kept {w w' : World} {base e size : Nat} {v : Value} {n : Nat} {xs : List Value} {row : Option Nat} (h : ownG w base e size v n xs) (hg : w.grownBy w' row) (hne : v.ownBlock = none ∨ v.ownBlock ≠ row) : ownG w' base e size v n xs := by
  refine ⟨h.1, ?_⟩
  rcases h.2 with hn | ⟨g, cap, cur, fz, rfl, hb, hgg, rest⟩
  · exact .inl hn
  · refine .inr ⟨g, cap, cur, fz, rfl, hb, ?_, rest⟩
    rw [hg.block g (Array.getElem?_eq_some_iff.1 hgg).1 (by simpa [Value.ownBlock] using hne)]
    exact hgg

theorem ownG.alloc {w : World} {base e size : Nat} {v : Value} {n : Nat} {xs : List Value} (h : ownG w base e size v n xs) (o : Obj) : ownG (w.alloc o) base e size v n xs :=
  h.kept (World.grownBy_alloc w o none) (by cases hv : v.ownBlock <;> simp)

structure OwnA where
  e : Nat
  sz : Nat
  v : Value
  n : Nat
  cs : List Value

/-- What is told of a world behind a beginning: below it nothing has changed; the blocks that were made and are told; the rows that were made and are told. -/
structure Wd (w0 W : World) (bs : List (Nat × Obj)) (os : List OwnA) : Prop where
  below : Below w0.heap.size w0 W
  blk : ∀ (i : Nat) (p : Nat × Obj), bs[i]? = some p → w0.heap.size ≤ p.1 ∧ W.heap[p.1]? = some p.2
  own : ∀ (i : Nat) (q : OwnA), os[i]? = some q → ownG W w0.heap.size q.e q.sz q.v q.n q.cs
  dbb : ∀ (i j : Nat) (p q : Nat × Obj), bs[i]? = some p → bs[j]? = some q → i ≠ j → p.1 ≠ q.1
  doo : ∀ (i j : Nat) (p q : OwnA), os[i]? = some p → os[j]? = some q → i ≠ j → ∀ k, p.v.ownBlock = some k → q.v.ownBlock ≠ some k
  dbo : ∀ (i j : Nat) (p : Nat × Obj) (q : OwnA), bs[i]? = some p → os[j]? = some q → q.v.ownBlock ≠ some p.1

/-- Cells that stand at a place. -/
def CA (W : World) (b off : Nat) (C : Array Value) : Prop := ∀ (m : Nat) (u : Value), C[m]? = some u → W.cell? ⟨b, off + m, none⟩ = some u

/-- A slice's value and what it reads as. -/
def Rd (sz : Nat) (W : World) (v : Value) (n : Nat) (cs : List Value) : Prop :=
  cs.length = n * sz ∧ ((v = .slice none 0 0 ∧ n = 0) ∨ ∃ b off cap, v = .slice (some ⟨b, off, none⟩) n cap ∧ n ≤ cap ∧ ∀ (j : Nat) (u : Value), cs[j]? = some u → W.cell? ⟨b, off + j, none⟩ = some u)

theorem wlt {W : World} {b : Nat} {o : Obj} (h : W.heap[b]? = some o) : b < W.heap.size := (Array.getElem?_eq_some_iff.1 h).1

theorem Wd.refl (w : World) : Wd w w [] [] := ⟨Below.refl _ _, fun _ _ h => by simp at h, fun _ _ h => by simp at h, fun _ _ _ _ h => by simp at h, fun _ _ _ _ h => by simp at h, fun _ _ _ _ h => by simp at h⟩

section
variable {w0 W W' : World} {bs : List (Nat × Obj)} {os : List OwnA}

theorem Wd.size (h : Wd w0 W bs os) : w0.heap.size ≤ W.heap.size := h.below.size

theorem Wd.drew (h : Wd w0 W bs os) (k : Nat) : Wd w0 { W with drawn := k } bs os :=
  ⟨⟨h.below.os, h.below.tape, h.below.output, h.below.size, h.below.block⟩, h.blk, h.own, h.dbb, h.doo, h.dbo⟩

theorem Wd.alloc (h : Wd w0 W bs os) (o : Obj) : Wd w0 (W.alloc o) ((W.heap.size, o) :: bs) os := by
  refine ⟨h.below.alloc h.size o, ?_, fun i q hq => (h.own i q hq).alloc o, ?_, h.doo, ?_⟩
  · intro i p hp
    cases i with
    | zero => simp at hp; subst hp; exact ⟨h.size, heap_alloc_new W o⟩
    | succ i =>
      simp only [List.getElem?_cons_succ] at hp
      obtain ⟨h1, h2⟩ := h.blk i p hp
      exact ⟨h1, (World.grownBy_alloc W o none).block p.1 (wlt h2) (by simp) |>.trans h2⟩
  · intro i j p q hp hq hne
    cases i with
    | zero =>
      cases j with
      | zero => exact absurd rfl hne
      | succ j =>
        simp only [List.getElem?_cons_zero, Option.some.injEq, List.getElem?_cons_succ] at hp hq
        subst hp
        have := wlt (h.blk j q hq).2
        show W.heap.size ≠ q.1
        omega
    | succ i =>
      cases j with
      | zero =>
        simp only [List.getElem?_cons_zero, Option.some.injEq, List.getElem?_cons_succ] at hp hq
        subst hq
        have := wlt (h.blk i p hp).2
        show p.1 ≠ W.heap.size
        omega
      | succ j =>
        simp only [List.getElem?_cons_succ] at hp hq
        exact h.dbb i j p q hp hq (fun e => hne (by rw [e]))
  · intro i j p q hp hq
    cases i with
    | zero =>
      simp only [List.getElem?_cons_zero, Option.some.injEq] at hp
      subst hp
      intro e
      have := ((h.own j q hq).lt _ e).2
      simp at this
    | succ i => exact h.dbo i j p q (by simpa using hp) hq

/-- A callee that leaves what was there as it was. -/
theorem Wd.call (h : Wd w0 W bs os) (hb : Below W.heap.size W W') : Wd w0 W' bs os := by
  refine ⟨h.below.trans (hb.mono h.size), ?_, ?_, h.dbb, h.doo, h.dbo⟩
  · intro i p hp
    obtain ⟨h1, h2⟩ := h.blk i p hp
    exact ⟨h1, (hb.block p.1 (wlt h2)).trans h2⟩
  · intro i q hq
    have ho := h.own i q hq
    exact ho.kept (row := none) ⟨hb.os, hb.tape, hb.output, hb.size, fun k hk _ => hb.block k hk⟩ (by cases q.v.ownBlock <;> simp)

theorem ownsRow_base {w : World} {b b' : Nat} {e size : Nat} {v : Value} {n : Nat} {xs : List Value} (h : ownG w b e size v n xs) (hb : b' ≤ b) : ownG w b' e size v n xs := by
  obtain ⟨h1, h2⟩ := h
  refine ⟨h1, ?_⟩
  rcases h2 with h2 | ⟨g, cap, cur, fz, hv, hg, r⟩
  · exact .inl h2
  · exact .inr ⟨g, cap, cur, fz, hv, Nat.le_trans hb hg, r⟩

/-- A callee that makes rows and blocks. -/
theorem Wd.callw {bs' : List (Nat × Obj)} {os' : List OwnA} (h : Wd w0 W bs os) (h' : Wd W W' bs' os') : Wd w0 W' (bs' ++ bs) (os' ++ os) := by
  have hc := h.call h'.below
  refine ⟨hc.below, ?_, ?_, ?_, ?_, ?_⟩
  · intro i p hp
    rw [List.getElem?_append] at hp
    split at hp
    · obtain ⟨h1, h2⟩ := h'.blk i p hp; exact ⟨Nat.le_trans h.size h1, h2⟩
    · exact hc.blk _ p hp
  · intro i q hq
    rw [List.getElem?_append] at hq
    split at hq
    · exact ownsRow_base (h'.own i q hq) h.size
    · exact hc.own _ q hq
  · intro i j p q hp hq hne
    rw [List.getElem?_append] at hp hq
    split at hp <;> split at hq
    · exact h'.dbb i j p q hp hq hne
    · have h1 := (h'.blk i p hp).1
      have h2 := wlt (h.blk _ q hq).2
      omega
    · have h1 := (h'.blk j q hq).1
      have h2 := wlt (h.blk _ p hp).2
      omega
    · exact h.dbb _ _ p q hp hq (by omega)
  · intro i j p q hp hq hne k hk
    rw [List.getElem?_append] at hp hq
    split at hp <;> split at hq
    · exact h'.doo i j p q hp hq hne k hk
    · intro e
      have h1 := ((h'.own i p hp).lt k hk).1
      have h2 := ((h.own _ q hq).lt k e).2
      omega
    · intro e
      have h1 := ((h'.own j q hq).lt k e).1
      have h2 := ((h.own _ p hp).lt k hk).2
      omega
    · exact h.doo _ _ p q hp hq (by omega) k hk
  · intro i j p q hp hq e
    rw [List.getElem?_append] at hp hq
    split at hp <;> split at hq
    · exact h'.dbo i j p q hp hq e
    · have h1 := (h'.blk i p hp).1
      have h2 := ((h.own _ q hq).lt _ e).2
      omega
    · have h1 := ((h'.own j q hq).lt _ e).1
      have h2 := wlt (h.blk _ p hp).2
      omega
    · exact h.dbo _ _ p q hp hq e

/-- Fewer blocks, fewer rows. -/
theorem Wd.pick (h : Wd w0 W bs os) (is js : List Nat) (hi : is.Nodup) (hj : js.Nodup) {bs' : List (Nat × Obj)} {os' : List OwnA}
    (hb : is.map (fun i => bs[i]?) = bs'.map some) (ho : js.map (fun i => os[i]?) = os'.map some) : Wd w0 W bs' os' := by
  have kb : ∀ (i : Nat) (p : Nat × Obj), bs'[i]? = some p → ∃ k, is[i]? = some k ∧ bs[k]? = some p := by
    intro i p hp
    have := congrArg (fun l => l[i]?) hb
    simp only [List.getElem?_map, hp, Option.map_some] at this
    cases hk : is[i]? with
    | none => simp [hk] at this
    | some k => exact ⟨k, rfl, by simpa [hk] using this⟩
  have ko : ∀ (i : Nat) (p : OwnA), os'[i]? = some p → ∃ k, js[i]? = some k ∧ os[k]? = some p := by
    intro i p hp
    have := congrArg (fun l => l[i]?) ho
    simp only [List.getElem?_map, hp, Option.map_some] at this
    cases hk : js[i]? with
    | none => simp [hk] at this
    | some k => exact ⟨k, rfl, by simpa [hk] using this⟩
  have nd : ∀ (l : List Nat), l.Nodup → ∀ (i j k : Nat), l[i]? = some k → l[j]? = some k → i = j := by
    intro l hl i j k h1 h2
    obtain ⟨a1, b1⟩ := List.getElem?_eq_some_iff.1 h1
    obtain ⟨a2, b2⟩ := List.getElem?_eq_some_iff.1 h2
    exact (List.getElem_inj hl).mp (b1.trans b2.symm)
  refine ⟨h.below, ?_, ?_, ?_, ?_, ?_⟩
  · intro i p hp; obtain ⟨k, _, hk⟩ := kb i p hp; exact h.blk k p hk
  · intro i p hp; obtain ⟨k, _, hk⟩ := ko i p hp; exact h.own k p hk
  · intro i j p q hp hq hne
    obtain ⟨k, k1, hk⟩ := kb i p hp
    obtain ⟨m, m1, hm⟩ := kb j q hq
    exact h.dbb k m p q hk hm (fun e => hne (nd is hi i j k k1 (by rw [e]; exact m1)))
  · intro i j p q hp hq hne
    obtain ⟨k, k1, hk⟩ := ko i p hp
    obtain ⟨m, m1, hm⟩ := ko j q hq
    exact h.doo k m p q hk hm (fun e => hne (nd js hj i j k k1 (by rw [e]; exact m1)))
  · intro i j p q hp hq
    obtain ⟨k, _, hk⟩ := kb i p hp
    obtain ⟨m, _, hm⟩ := ko j q hq
    exact h.dbo k m p q hk hm

/-- One told block is turned, all else stays. -/
theorem Wd.turnb (h : Wd w0 W bs os) {i : Nat} {b : Nat} {o o' : Obj} (hi : bs[i]? = some (b, o)) (ho : W'.heap[b]? = some o')
    (hg : W.grownBy W' (some b)) : Wd w0 W' (bs.set i (b, o')) os := by
  have hlt : i < bs.length := (List.getElem?_eq_some_iff.1 hi).1
  have hb := (h.blk i _ hi)
  have key : ∀ (j : Nat) (p : Nat × Obj), (bs.set i (b, o'))[j]? = some p → ∃ q, bs[j]? = some q ∧ q.1 = p.1 ∧ ((j = i ∧ p = (b, o')) ∨ (j ≠ i ∧ q = p)) := by
    intro j p hp
    rw [List.getElem?_set] at hp
    by_cases e : i = j
    · subst e
      rw [if_pos rfl, if_pos hlt] at hp
      simp at hp
      subst hp
      exact ⟨_, hi, rfl, .inl ⟨rfl, rfl⟩⟩
    · rw [if_neg e] at hp
      exact ⟨p, hp, rfl, .inr ⟨fun e' => e e'.symm, rfl⟩⟩
  refine ⟨h.below.grown hg h.size (fun k e => by simp at e; subst e; exact hb.1), ?_, ?_, ?_, h.doo, ?_⟩
  · intro j p hp
    obtain ⟨q, hq, e, hc⟩ := key j p hp
    rcases hc with ⟨_, rfl⟩ | ⟨hne, rfl⟩
    · exact ⟨hb.1, ho⟩
    · obtain ⟨h1, h2⟩ := h.blk j q hq
      have hd := h.dbb j i q _ hq hi hne
      exact ⟨h1, (hg.block q.1 (wlt h2) (by simpa using hd)).trans h2⟩
  · intro j q hq
    exact (h.own j q hq).kept hg (by
      have := h.dbo i j _ q hi hq
      exact .inr this)
  · intro j k p q hp hq hne
    obtain ⟨p', hp', e1, _⟩ := key j p hp
    obtain ⟨q', hq', e2, _⟩ := key k q hq
    rw [← e1, ← e2]
    exact h.dbb j k p' q' hp' hq' hne
  · intro j k p q hp hq
    obtain ⟨p', hp', e1, _⟩ := key j p hp
    rw [← e1]
    exact h.dbo j k p' q hp' hq

/-- One told row is turned (an append, a store), all else stays. -/
theorem Wd.turno (h : Wd w0 W bs os) {i : Nat} {q q' : OwnA} (hi : os[i]? = some q) (ho : ownG W' w0.heap.size q'.e q'.sz q'.v q'.n q'.cs)
    (hg : W.grownBy W' q.v.ownBlock) (hat : q'.v.ownBlock = q.v.ownBlock ∨ ∀ k, q'.v.ownBlock = some k → W.heap.size ≤ k) : Wd w0 W' bs (os.set i q') := by
  have hlt : i < os.length := (List.getElem?_eq_some_iff.1 hi).1
  have hq := h.own i _ hi
  have key : ∀ (j : Nat) (p : OwnA), (os.set i q')[j]? = some p → (j = i ∧ p = q') ∨ (j ≠ i ∧ os[j]? = some p) := by
    intro j p hp
    rw [List.getElem?_set] at hp
    by_cases e : i = j
    · subst e
      rw [if_pos rfl, if_pos hlt] at hp
      simp at hp
      exact .inl ⟨rfl, hp.symm⟩
    · rw [if_neg e] at hp
      exact .inr ⟨fun e' => e e'.symm, hp⟩
  refine ⟨h.below.grown hg h.size (fun k e => (hq.lt k e).1), ?_, ?_, h.dbb, ?_, ?_⟩
  · intro j p hp
    obtain ⟨h1, h2⟩ := h.blk j p hp
    have hd := h.dbo j i p q hp hi
    exact ⟨h1, (hg.block p.1 (wlt h2) (fun e => hd e.symm)).trans h2⟩
  · intro j p hp
    rcases key j p hp with ⟨_, rfl⟩ | ⟨hne, hp'⟩
    · exact ho
    · refine (h.own j p hp').kept hg ?_
      cases hk : p.v.ownBlock with
      | none => exact .inl rfl
      | some k => exact .inr (fun e => h.doo j i p q hp' hi hne k hk e.symm)
  · intro j k p r hp hr hne m hm
    rcases key j p hp with ⟨e1, rfl⟩ | ⟨n1, hp'⟩
    · rcases key k r hr with ⟨e2, rfl⟩ | ⟨n2, hr'⟩
      · exact absurd (e1.trans e2.symm) hne
      · rcases hat with e | e
        · rw [e] at hm
          exact h.doo i k q r hi hr' (fun e => n2 e.symm) m hm
        · intro hx
          have := e m hm
          have := ((h.own k r hr').lt m hx).2
          omega
    · rcases key k r hr with ⟨e2, rfl⟩ | ⟨n2, hr'⟩
      · rcases hat with e | e
        · rw [e]
          exact h.doo j i p q hp' hi n1 m hm
        · intro hx
          have := e m hx
          have := ((h.own j p hp').lt m hm).2
          omega
      · exact h.doo j k p r hp' hr' hne m hm
  · intro j k p r hp hr
    rcases key k r hr with ⟨e2, rfl⟩ | ⟨n2, hr'⟩
    · rcases hat with e | e
      · rw [e]; exact h.dbo j i p q hp hi
      · intro hx
        have := e _ hx
        have := wlt (h.blk j p hp).2
        omega
    · exact h.dbo j k p r hp hr'

/-- A new row. -/
theorem Wd.newoF (h : Wd w0 W bs os) (C : Array Value) (e sz n cap : Nat) (cs : List Value) (fz : Nat × Nat) (hfz : ∀ i, i < C.size → ¬ (fz.1 ≤ i ∧ i < fz.2)) (hn : n ≤ cap) (hm : cap ≤ maxLen) (hC : C.size = cap * sz) (hcs : C.toList.take (n * sz) = cs) :
    Wd w0 (W.alloc (.cells C e fz)) bs (⟨e, sz, .slice (some ⟨W.heap.size, 0, none⟩) n cap, n, cs⟩ :: os) := by
  have h1 := h.alloc (.cells C e fz)
  have hl : cs.length = n * sz := by
    rw [← hcs, List.length_take, Array.length_toList, hC]
    exact Nat.min_eq_left (Nat.mul_le_mul_right _ hn)
  refine ⟨h1.below, fun i p hp => h1.blk (i + 1) p (by simpa using hp), ?_, ?_, ?_, ?_⟩
  · intro i q hq
    cases i with
    | zero =>
      simp at hq
      subst hq
      exact ⟨hl, .inr ⟨W.heap.size, cap, C, fz, rfl, h.size, heap_alloc_new W _, hfz, hn, hm, hC, hcs⟩⟩
    | succ i => exact h1.own i q (by simpa using hq)
  · intro i j p q hp hq hne
    exact h1.dbb (i + 1) (j + 1) p q (by simpa using hp) (by simpa using hq) (by omega)
  · intro i j p q hp hq hne k hk
    cases i with
    | zero =>
      cases j with
      | zero => exact absurd rfl hne
      | succ j =>
        simp only [List.getElem?_cons_zero, Option.some.injEq, List.getElem?_cons_succ] at hp hq
        subst hp
        simp only [Value.ownBlock, Option.some.injEq] at hk
        intro hx
        have := ((h.own j q hq).lt k hx).2
        omega
    | succ i =>
      cases j with
      | zero =>
        simp only [List.getElem?_cons_zero, Option.some.injEq, List.getElem?_cons_succ] at hp hq
        subst hq
        simp only [Value.ownBlock, ne_eq, Option.some.injEq]
        have := ((h.own i p hp).lt k hk).2
        omega
      | succ j => exact h.doo i j p q (by simpa using hp) (by simpa using hq) (by omega) k hk
  · intro i j p q hp hq
    cases j with
    | zero =>
      simp at hq
      subst hq
      simp only [Value.ownBlock, ne_eq, Option.some.injEq]
      have := wlt (h.blk i p hp).2
      omega
    | succ j => exact h.dbo i j p q hp (by simpa using hq)

theorem Wd.newo (h : Wd w0 W bs os) (C : Array Value) (e sz n cap : Nat) (cs : List Value) (hn : n ≤ cap) (hm : cap ≤ maxLen) (hC : C.size = cap * sz) (hcs : C.toList.take (n * sz) = cs) :
    Wd w0 (W.alloc (.cells C e)) bs (⟨e, sz, .slice (some ⟨W.heap.size, 0, none⟩) n cap, n, cs⟩ :: os) := h.newoF C e sz n cap cs (0, 0) (fun i _ hx => by simp at hx) hn hm hC hcs

/-- The nil slice is a row. -/
theorem Wd.nilo (h : Wd w0 W bs os) (e sz : Nat) : Wd w0 W bs (⟨e, sz, .slice none 0 0, 0, []⟩ :: os) := by
  refine ⟨h.below, h.blk, ?_, h.dbb, ?_, ?_⟩
  · intro i q hq
    cases i with
    | zero => simp at hq; subst hq; exact ownG_nil _ _ _ _
    | succ i => exact h.own i q (by simpa using hq)
  · intro i j p q hp hq hne k hk
    cases i with
    | zero => simp at hp; subst hp; simp [Value.ownBlock] at hk
    | succ i =>
      cases j with
      | zero => simp at hq; subst hq; simp [Value.ownBlock]
      | succ j => exact h.doo i j p q (by simpa using hp) (by simpa using hq) (by omega) k hk
  · intro i j p q hp hq
    cases j with
    | zero => simp at hq; subst hq; simp [Value.ownBlock]
    | succ j => exact h.dbo i j p q hp (by simpa using hq)

theorem CA.of_blk {b : Nat} {C : Array Value} {T : Nat} {fr : Nat × Nat} (h : W.heap[b]? = some (.cells C T fr)) : CA W b 0 C := by
  intro m u hu
  rw [Nat.zero_add, cell_of_row W b m C T fr h]
  exact hu

theorem Wd.ca (h : Wd w0 W bs os) {i b : Nat} {C : Array Value} {T : Nat} {fr : Nat × Nat} (hi : bs[i]? = some (b, .cells C T fr)) : CA W b 0 C := CA.of_blk (h.blk i _ hi).2

theorem CA.below {b off : Nat} {C : Array Value} (h : CA W b off C) (hb : Below W.heap.size W W') : CA W' b off C := fun m u hu => by
  have := h m u hu
  rw [hb.cell (p := ⟨b, off + m, none⟩) (block_lt_of_cell this)]
  exact this

theorem Rd.below {sz n : Nat} {v : Value} {cs : List Value} (h : Rd sz W v n cs) (hb : Below W.heap.size W W') : Rd sz W' v n cs := by
  refine ⟨h.1, ?_⟩
  rcases h.2 with h | ⟨b, off, cap, hv, hc, h⟩
  · exact .inl h
  · refine .inr ⟨b, off, cap, hv, hc, fun j u hu => ?_⟩
    have := h j u hu
    rw [hb.cell (p := ⟨b, off + j, none⟩) (block_lt_of_cell this)]
    exact this

theorem Wd.rd0 (h : Wd w0 W bs os) {sz n : Nat} {v : Value} {cs : List Value} (hr : Rd sz w0 v n cs) : Rd sz W v n cs := hr.below h.below
theorem Wd.ca0 (h : Wd w0 W bs os) {b off : Nat} {C : Array Value} (hr : CA w0 b off C) : CA W b off C := hr.below h.below

theorem Rd.of_own {base e sz n : Nat} {v : Value} {cs : List Value} (h : ownG W base e sz v n cs) : Rd sz W v n cs := by
  refine ⟨h.1, ?_⟩
  rcases h.2 with ⟨hv, hn⟩ | ⟨g, cap, cur, fz, hv, _, hg, _, hc, _, hs, ht⟩
  · exact .inl ⟨hv, hn⟩
  · refine .inr ⟨g, 0, cap, hv, hc, fun j u hu => ?_⟩
    rw [Nat.zero_add, cell_of_row W g j cur e fz hg]
    rw [← ht, List.getElem?_take] at hu
    split at hu
    · simpa using hu
    · simp at hu

theorem Wd.rdo (h : Wd w0 W bs os) {i : Nat} {q : OwnA} (hi : os[i]? = some q) : Rd q.sz W q.v q.n q.cs := Rd.of_own (h.own i q hi)

theorem Rd.shape {sz n : Nat} {v : Value} {cs : List Value} (h : Rd sz W v n cs) : ∃ A c, v = .slice A n c := by
  rcases h.2 with ⟨hv, hn⟩ | ⟨b, off, cap, hv, _⟩
  · exact ⟨none, 0, by rw [hv, hn]⟩
  · exact ⟨_, _, hv⟩
end

/-! ### Operations on memory -/
section
variable {P : Program} {n : Nat} {l : List (Nat × Value)} {a : Act} {ops : Array Oper} {o : Oper} {rest : List Oper} {Q : Exit → Act → World → Prop} {w0 W : World} {bs : List (Nat × Obj)} {os : List OwnA}

/-- A new variable in memory. -/
theorem stepnew (ha : Has n l a) (HW : Wd w0 W bs os) (d : Nat) (C : Array Value) (T : Nat) (hok : okB n l ops o d = true)
    (hx : (execOp (ev l) o).run P W = .ok (.value (.pointer (some ⟨W.heap.size, 0, none⟩))) (W.alloc (.cells C T)))
    (h : ∀ b a' W', Wd w0 W' ((b, .cells C T (0, 0)) :: bs) os → Has n ((d, .pointer (some ⟨b, 0, none⟩)) :: l) a' → wpList P ops Q rest a' W') : wpList P ops Q (o :: rest) a W :=
  stepv ha d _ hok hx fun a' ha' => h _ a' _ (HW.alloc _) ha'

def aggD : TypeDesc → Bool
  | .struct _ | .array _ _ => true
  | _ => false

def loadB (P : Program) (t : Nat) (C : Array Value) (m : Nat) : Option Value :=
  match P.underlying t with
  | none => none
  | some d => match aggD d with
    | true => match P.info? t with
      | some i => match Nat.ble (m + i.size) C.size with
        | true => some (.agg (C.extract m (m + i.size)))
        | false => none
      | none => none
    | false => C[m]?

theorem run_isAgg {t : Nat} {d : TypeDesc} (h : P.underlying t = some d) : (isAgg t).run P W = .ok (aggD d) W := by
  unfold isAgg
  rw [Sem.run_bind, run_underlying h W]
  cases d <;> rfl

theorem run_loadVar_ca {b off : Nat} {C : Array Value} (hC : CA W b off C) (t m : Nat) (v : Value) (hl : loadB P t C m = some v) : (loadVar t ⟨b, off + m, none⟩).run P W = .ok v W := by
  unfold loadB at hl
  cases hu : P.underlying t with
  | none => simp [hu] at hl
  | some d =>
    simp only [hu] at hl
    unfold loadVar
    rw [Sem.run_bind, run_isAgg hu]
    simp only [Result.andThen_ok]
    cases hd : aggD d with
    | false =>
      simp only [hd] at hl
      have := hC m v hl
      simp [this]
    | true =>
      simp only [hd] at hl
      cases hi : P.info? t with
      | none => simp [hi] at hl
      | some i =>
        simp only [hi] at hl
        cases hle : Nat.ble (m + i.size) C.size with
        | false => simp [hle] at hl
        | true =>
          simp only [hle, Option.some.injEq] at hl
          have hle' := Nat.le_of_ble_eq_true hle
          have hcells : (loadCells ⟨b, off + m, none⟩ (C.extract m (m + i.size)).toList.length).run P W = .ok (C.extract m (m + i.size)).toList.toArray W := by
            refine run_loadCells_list W _ _ (fun j u hu => ?_)
            rw [Addr.add_lit, Nat.add_assoc]
            refine hC (m + j) u ?_
            rw [Array.getElem?_toList, Array.getElem?_extract] at hu
            split at hu
            · exact hu
            · cases hu
          have hlen : (C.extract m (m + i.size)).toList.length = i.size := by simp; omega
          rw [hlen] at hcells
          rw [Array.toArray_toList] at hcells
          rw [← hl]
          simp only [sizeOf, typeInfo, Sem.run_bind, run_program, Result.andThen_ok, hi, Sem.run_pure, if_true, hcells]

/-- A load. -/
theorem stepl (ha : Has n l a) (d : Nat) {b off : Nat} {C : Array Value} (hC : CA W b off C) (t m : Nat) (x : Operand) (v : Value) (ho : o.op = .load t x) (hp : ev l x = .pointer (some ⟨b, off + m, none⟩))
    (hl : loadB P t C m = some v) (hok : okB n l ops o d = true) (h : ∀ a', Has n ((d, v) :: l) a' → wpList P ops Q rest a' W) : wpList P ops Q (o :: rest) a W := by
  refine stepv ha d v hok ?_ h
  unfold execOp
  simp only [ho, hp, Instr.loadAt, Instr.sureAddr, Sem.run_bind, Sem.run_pure, Result.andThen_ok, run_loadVar_ca hC t m v hl]

theorem grown_setRow (w : World) (g : Nat) (cs : Array Value) : w.grownBy (w.setRow g cs) (some g) :=
  ⟨rfl, rfl, rfl, by simp, fun k _ hk => setRow_other w g k _ (fun e => hk (by rw [e]))⟩

def oneCells (l : List Value) : Bool := l.all (·.oneCell')

/-- Cells put at a place. -/
def putAt (C : Array Value) (m : Nat) (vs : List Value) : Array Value := (C.toList.take m ++ vs ++ C.toList.drop (m + vs.length)).toArray

theorem run_storeVar_blk {b : Nat} {C : Array Value} {T : Nat} (hb : W.heap[b]? = some (.cells C T (0, 0))) (t m : Nat) (v : Value) (hs : (P.info? t).map (·.size) = some v.cells.size) (hm : m + v.cells.size ≤ C.size) (h1 : oneCells v.cells.toList = true) :
    (storeVar t ⟨b, m, none⟩ v).run P W = .ok () (W.setRow b (putAt C m v.cells.toList)) := by
  cases hi : P.info? t with
  | none => simp [hi] at hs
  | some i =>
    have hs' : i.size = v.cells.size := by simpa [hi] using hs
    have := run_storeCells_at P b m T v.cells.toList 0 C W hb (by simpa using hm) (by intro u hu; exact List.all_eq_true.mp h1 u hu)
    simp only [Nat.add_zero] at this
    simp [storeVar, sizeOf, typeInfo, hi, hs', this, putAt]

/-- A store into a told block. -/
theorem stepst (ha : Has n l a) (HW : Wd w0 W bs os) (i : Nat) {b : Nat} {C : Array Value} {T : Nat} (hi : bs[i]? = some (b, .cells C T (0, 0))) (t m : Nat) (x y : Operand) (v : Value) (C' : Array Value)
    (ho : o.op = .store t x y) (hp : ev l x = .pointer (some ⟨b, m, none⟩)) (hv : ev l y = v) (hs : (P.info? t).map (·.size) = some v.cells.size) (hm : Nat.ble (m + v.cells.size) C.size = true) (h1 : oneCells v.cells.toList = true)
    (hC' : putAt C m v.cells.toList = C') (hok : okS l ops o = true)
    (h : ∀ a' W', Wd w0 W' (bs.set i (b, .cells C' T (0, 0))) os → Has n l a' → wpList P ops Q rest a' W') : wpList P ops Q (o :: rest) a W := by
  have hb := (HW.blk i _ hi).2
  refine steps (W' := W.setRow b C') ha hok ?_ fun a' ha' => h a' _ (HW.turnb hi (setRow_heap W b C C' T (0, 0) hb) (grown_setRow W b C')) ha'
  unfold execOp
  simp only [ho, hp, hv, Instr.storeAt, Instr.sureAddr, Sem.run_bind, Sem.run_pure, Result.andThen_ok, run_storeVar_blk hb t m v hs (Nat.le_of_ble_eq_true hm) h1, hC']

/-- The address of a slice's element. -/
theorem stepia (ha : Has n l a) (d : Nat) {sz len : Nat} {v : Value} {cs : List Value} (hr : Rd sz W v len cs) (t e : Nat) (x i : Operand) (k : IntKind) (j : Int) (ho : o.op = .indexAddr t x i) (hx : ev l x = v) (hi : ev l i = .int k j)
    (ht : P.underlying t = some (.slice e)) (hs : (P.info? e).map (·.size) = some sz) (h0 : 0 ≤ j) (h1 : j < len) (hok : okB n l ops o d = true)
    (h : ∀ b off a', (∀ (m : Nat) (u : Value), m < sz → cs[j.toNat * sz + m]? = some u → W.cell? ⟨b, off + m, none⟩ = some u) → Has n ((d, .pointer (some ⟨b, off, none⟩)) :: l) a' → wpList P ops Q rest a' W) : wpList P ops Q (o :: rest) a W := by
  obtain ⟨hl, hr⟩ := hr
  rcases hr with ⟨_, hn⟩ | ⟨b, off, cap, hv, hc, hcell⟩
  · omega
  · cases hie : P.info? e with
    | none => simp [hie] at hs
    | some ie =>
      have hsz : ie.size = sz := by simpa [hie] using hs
      refine stepv (W' := W) ha d (.pointer (some ⟨b, off + j.toNat * sz, none⟩)) hok ?_ fun a' ha' => h b (off + j.toNat * sz) a' (fun m u hm hu => by rw [Nat.add_assoc]; exact hcell _ u hu) ha'
      have hcond : 0 ≤ j ∧ j < (len : Int) := ⟨h0, h1⟩
      unfold execOp
      simp only [ho, hx, hi, hv, Instr.indexAt, asIntOf, Sem.run_bind, Sem.run_pure, Result.andThen_ok, run_underlying ht, if_pos hcond, sizeOf, typeInfo, run_program, hie, hsz, Addr.add_lit]
end
end Go.Proofs.Ytdcojinnjpihaaa.X
