/- A world told by lists whose parts are moved about: the order does not matter, parts may be left out. No condition. -/
import Derived.Test.YtdcojinnjpihaaaXMore
namespace Go.Proofs.Ytdcojinnjpihaaa.X
open Go Go.RowKit
set_option linter.unusedVariables false
set_option linter.unusedSimpArgs false

theorem all_iff {α : Type} {p : α → Prop} {l : List α} : (∀ (i : Nat) (x : α), l[i]? = some x → p x) ↔ ∀ x ∈ l, p x :=
  ⟨fun h x hx => by obtain ⟨i, hi⟩ := List.getElem?_of_mem hx; exact h i x hi, fun h i x hi => h x (List.mem_of_getElem? hi)⟩

theorem pw_iff {α : Type} {R : α → α → Prop} (hs : ∀ a b, R a b → R b a) {l : List α} : (∀ (i j : Nat) (p q : α), l[i]? = some p → l[j]? = some q → i ≠ j → R p q) ↔ l.Pairwise R := by
  rw [List.pairwise_iff_getElem]
  refine ⟨fun h i j hi hj hij => h i j _ _ (List.getElem?_eq_getElem hi) (List.getElem?_eq_getElem hj) (by omega), fun h i j p q hp hq hne => ?_⟩
  obtain ⟨hi, rfl⟩ := List.getElem?_eq_some_iff.1 hp
  obtain ⟨hj, rfl⟩ := List.getElem?_eq_some_iff.1 hq
  rcases Nat.lt_or_gt_of_ne hne with h1 | h1
  · exact h i j hi hj h1
  · exact hs _ _ (h j i hj hi h1)

def NeB (p q : Nat × Obj) : Prop := p.1 ≠ q.1
def NeO (p q : OwnA) : Prop := ∀ k, p.v.ownBlock = some k → q.v.ownBlock ≠ some k
theorem NeB.symm (a b : Nat × Obj) (h : NeB a b) : NeB b a := fun e => h e.symm
theorem NeO.symm (a b : OwnA) (h : NeO a b) : NeO b a := fun k hk hb => h k hb hk

section
variable {w0 W : World} {bs bs' bs1 bs2 : List (Nat × Obj)} {os os' os1 os2 : List OwnA}
theorem Wd.iff : Wd w0 W bs os ↔ Below w0.heap.size w0 W ∧ (∀ p ∈ bs, w0.heap.size ≤ p.1 ∧ W.heap[p.1]? = some p.2) ∧ (∀ q ∈ os, ownG W w0.heap.size q.e q.sz q.v q.n q.cs) ∧ bs.Pairwise NeB ∧ os.Pairwise NeO ∧ (∀ p ∈ bs, ∀ q ∈ os, q.v.ownBlock ≠ some p.1) := by
  constructor
  · intro h
    refine ⟨h.below, all_iff.mp h.blk, all_iff.mp h.own, (pw_iff NeB.symm).mp h.dbb, (pw_iff NeO.symm).mp h.doo, fun p hp q hq => ?_⟩
    obtain ⟨i, hi⟩ := List.getElem?_of_mem hp
    obtain ⟨j, hj⟩ := List.getElem?_of_mem hq
    exact h.dbo i j p q hi hj
  · rintro ⟨h1, h2, h3, h4, h5, h6⟩
    exact ⟨h1, all_iff.mpr h2, all_iff.mpr h3, (pw_iff NeB.symm).mpr h4, (pw_iff NeO.symm).mpr h5, fun i j p q hp hq => h6 p (List.mem_of_getElem? hp) q (List.mem_of_getElem? hq)⟩

/-- In another order. -/
theorem Wd.perm (h : Wd w0 W bs os) (hb : bs.Perm bs') (ho : os.Perm os') : Wd w0 W bs' os' := by
  obtain ⟨h1, h2, h3, h4, h5, h6⟩ := Wd.iff.mp h
  exact Wd.iff.mpr ⟨h1, fun p hp => h2 p (hb.mem_iff.mpr hp), fun q hq => h3 q (ho.mem_iff.mpr hq), (hb.pairwise_iff (NeB.symm _ _)).mp h4, (ho.pairwise_iff (NeO.symm _ _)).mp h5, fun p hp q hq => h6 p (hb.mem_iff.mpr hp) q (ho.mem_iff.mpr hq)⟩

/-- Fewer. -/
theorem Wd.less (h : Wd w0 W bs os) (hb : bs'.Sublist bs) (ho : os'.Sublist os) : Wd w0 W bs' os' := by
  obtain ⟨h1, h2, h3, h4, h5, h6⟩ := Wd.iff.mp h
  exact Wd.iff.mpr ⟨h1, fun p hp => h2 p (hb.subset hp), fun q hq => h3 q (ho.subset hq), h4.sublist hb, h5.sublist ho, fun p hp q hq => h6 p (hb.subset hp) q (ho.subset hq)⟩

/-- What a row of one's own is, as an object. -/
def RowO (e sz : Nat) (v : Value) (n : Nat) (cs : List Value) (g : Nat) (o : Obj) : Prop :=
  cs.length = n * sz ∧ ∃ cap cur fz, v = .slice (some ⟨g, 0, none⟩) n cap ∧ o = .cells cur e fz ∧ (∀ i, i < cur.size → ¬ (fz.1 ≤ i ∧ i < fz.2)) ∧ n ≤ cap ∧ cap ≤ maxLen ∧ cur.size = cap * sz ∧ cur.toList.take (n * sz) = cs

/-- A block told becomes a row. -/
theorem Wd.toRow {g : Nat} {o : Obj} {e sz n : Nat} {v : Value} {cs : List Value} (h : Wd w0 W ((g, o) :: bs) os) (hr : RowO e sz v n cs g o) : Wd w0 W bs (⟨e, sz, v, n, cs⟩ :: os) := by
  obtain ⟨h1, h2, h3, h4, h5, h6⟩ := Wd.iff.mp h
  obtain ⟨hl, cap, cur, fz, hv, ho, r⟩ := hr
  subst hv ho
  have hg := h2 _ List.mem_cons_self
  obtain ⟨h4a, h4b⟩ := List.pairwise_cons.mp h4
  refine Wd.iff.mpr ⟨h1, fun p hp => h2 p (List.mem_cons_of_mem _ hp), fun q hq => ?_, h4b, List.pairwise_cons.mpr ⟨fun q hq k hk hx => ?_, h5⟩, fun p hp q hq => ?_⟩
  · rcases List.mem_cons.mp hq with rfl | hq
    · exact ⟨hl, .inr ⟨g, cap, cur, fz, rfl, hg.1, hg.2, r⟩⟩
    · exact h3 q hq
  · simp only [Value.ownBlock, Option.some.injEq] at hk
    subst hk
    exact h6 _ List.mem_cons_self q hq hx
  · rcases List.mem_cons.mp hq with rfl | hq
    · simp only [Value.ownBlock, ne_eq, Option.some.injEq]
      exact h4a p hp
    · exact h6 p (List.mem_cons_of_mem _ hp) q hq

/-- A row becomes a block told, or was nil. -/
theorem Wd.ofRow {e sz n : Nat} {v : Value} {cs : List Value} (h : Wd w0 W bs (⟨e, sz, v, n, cs⟩ :: os)) : (v = .slice none 0 0 ∧ n = 0 ∧ cs = [] ∧ Wd w0 W bs os) ∨ ∃ g o, RowO e sz v n cs g o ∧ Wd w0 W ((g, o) :: bs) os := by
  obtain ⟨h1, h2, h3, h4, h5, h6⟩ := Wd.iff.mp h
  obtain ⟨h5a, h5b⟩ := List.pairwise_cons.mp h5
  have hq := h3 _ List.mem_cons_self
  have hrest : Wd w0 W bs os := Wd.iff.mpr ⟨h1, h2, fun q hq => h3 q (List.mem_cons_of_mem _ hq), h4, h5b, fun p hp q hq => h6 p hp q (List.mem_cons_of_mem _ hq)⟩
  obtain ⟨hl, hc⟩ := hq
  simp only at hl hc
  rcases hc with ⟨hv, hn⟩ | ⟨g, cap, cur, fz, hv, hg0, hg, r⟩
  · refine .inl ⟨hv, hn, List.eq_nil_of_length_eq_zero (by rw [hl, hn]; simp), hrest⟩
  · refine .inr ⟨g, _, ⟨hl, cap, cur, fz, hv, rfl, r⟩, Wd.iff.mpr ⟨h1, fun p hp => ?_, fun q hq => h3 q (List.mem_cons_of_mem _ hq), List.pairwise_cons.mpr ⟨fun p hp => ?_, h4⟩, h5b, fun p hp q hq => ?_⟩⟩
    · rcases List.mem_cons.mp hp with rfl | hp
      · exact ⟨hg0, hg⟩
      · exact h2 p hp
    · intro e
      have := h6 p hp _ List.mem_cons_self
      rw [hv] at this
      exact this (by simp only [Value.ownBlock]; rw [← e])
    · rcases List.mem_cons.mp hp with rfl | hp
      · exact h5a q hq g (by rw [hv]; rfl)
      · exact h6 p hp q (List.mem_cons_of_mem _ hq)

theorem mem_of_map {α : Type} {l l' : List α} {is : List Nat} (hb : is.map (fun i => l[i]?) = l'.map some) : ∀ x ∈ l', x ∈ l := by
  intro x hx
  have : some x ∈ l'.map some := List.mem_map.mpr ⟨x, hx, rfl⟩
  rw [← hb] at this
  obtain ⟨i, _, hi⟩ := List.mem_map.mp this
  exact List.mem_of_getElem? hi

/-- Fewer of the first ones; what stands behind them stays. -/
theorem Wd.pickT {l l' bt : List (Nat × Obj)} {m m' ot : List OwnA} (h : Wd w0 W (l ++ bt) (m ++ ot)) (is js : List Nat) (hi : is.Nodup) (hj : js.Nodup) (hb : is.map (fun i => l[i]?) = l'.map some) (ho : js.map (fun i => m[i]?) = m'.map some) :
    Wd w0 W (l' ++ bt) (m' ++ ot) := by
  have h' := (h.less (List.sublist_append_left l bt) (List.sublist_append_left m ot)).pick is js hi hj hb ho
  obtain ⟨h1, h2, h3, h4, h5, h6⟩ := Wd.iff.mp h
  obtain ⟨g1, g2, g3, g4, g5, g6⟩ := Wd.iff.mp h'
  obtain ⟨a1, a2, a3⟩ := List.pairwise_append.mp h4
  obtain ⟨c1, c2, c3⟩ := List.pairwise_append.mp h5
  have mb := mem_of_map hb
  have mo := mem_of_map ho
  have ib : ∀ p ∈ l' ++ bt, p ∈ l ++ bt := fun p hp => by
    rcases List.mem_append.mp hp with h | h
    · exact List.mem_append_left _ (mb p h)
    · exact List.mem_append_right _ h
  have io : ∀ p ∈ m' ++ ot, p ∈ m ++ ot := fun p hp => by
    rcases List.mem_append.mp hp with h | h
    · exact List.mem_append_left _ (mo p h)
    · exact List.mem_append_right _ h
  exact Wd.iff.mpr ⟨h1, fun p hp => h2 p (ib p hp), fun q hq => h3 q (io q hq), List.pairwise_append.mpr ⟨g4, a2, fun p hp q hq => a3 p (mb p hp) q hq⟩, List.pairwise_append.mpr ⟨g5, c2, fun p hp q hq => c3 p (mo p hp) q hq⟩, fun p hp q hq => h6 p (ib p hp) q (io q hq)⟩
end
end Go.Proofs.Ytdcojinnjpihaaa.X
