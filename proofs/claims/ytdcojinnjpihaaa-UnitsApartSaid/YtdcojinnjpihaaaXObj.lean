/- A told world in parts: segments that are moved about as wholes; rows behind a pool that no one changes. No condition. -/
import Derived.Test.YtdcojinnjpihaaaXSeg
namespace Go.Proofs.Ytdcojinnjpihaaa.X
open Go Go.RowKit
set_option linter.unusedVariables false
set_option linter.unusedSimpArgs false

/-- Two lists alike, one by one. -/
inductive F2 {α β : Type} (R : α → β → Prop) : List α → List β → Prop
  | nil : F2 R [] []
  | cons {a b l m} : R a b → F2 R l m → F2 R (a :: l) (b :: m)

theorem F2.mono {α β : Type} {R S : α → β → Prop} (h : ∀ a b, R a b → S a b) : ∀ {l : List α} {m : List β}, F2 R l m → F2 S l m
  | _, _, .nil => .nil
  | _, _, .cons a b => .cons (h _ _ a) (F2.mono h b)
theorem F2.length {α β : Type} {R : α → β → Prop} : ∀ {l : List α} {m : List β}, F2 R l m → l.length = m.length
  | _, _, .nil => rfl
  | _, _, .cons _ h => congrArg (· + 1) h.length
theorem F2.set {α β : Type} {R : α → β → Prop} {a : α} {b : β} (h : R a b) : ∀ {l : List α} {m : List β} (i : Nat), F2 R l m → F2 R (l.set i a) (m.set i b)
  | _, _, _, .nil => .nil
  | _, _, 0, .cons _ h2 => .cons h h2
  | _, _, i + 1, .cons h1 h2 => .cons h1 (F2.set h i h2)
theorem F2.append {α β : Type} {R : α → β → Prop} {l' : List α} {m' : List β} (h : F2 R l' m') : ∀ {l : List α} {m : List β}, F2 R l m → F2 R (l ++ l') (m ++ m')
  | _, _, .nil => h
  | _, _, .cons h1 h2 => .cons h1 (F2.append h h2)
theorem F2.one {α β : Type} {R : α → β → Prop} {a : α} {b : β} (h : R a b) : F2 R [a] [b] := .cons h .nil
theorem F2.eraseIdx {α β : Type} {R : α → β → Prop} : ∀ {l : List α} {m : List β} (i : Nat), F2 R l m → F2 R (l.eraseIdx i) (m.eraseIdx i)
  | _, _, _, .nil => by simp; exact .nil
  | _, _, 0, .cons _ h2 => h2
  | _, _, i + 1, .cons h1 h2 => .cons h1 (F2.eraseIdx i h2)
theorem F2.get {α β : Type} {R : α → β → Prop} : ∀ {l : List α} {m : List β}, F2 R l m → ∀ (i : Nat) (b : β), m[i]? = some b → ∃ a, l[i]? = some a ∧ R a b
  | _, _, .nil, i, b, h => by simp at h
  | _, _, .cons h1 h2, 0, b, h => by simp at h; subst h; exact ⟨_, rfl, h1⟩
  | _, _, .cons h1 h2, i + 1, b, h => F2.get h2 i b (by simpa using h)

/-- A call ends without a return. -/
theorem finn {P : Program} {n : Nat} {l : List (Nat × Value)} {a : Act} {W : World} {fn : Func} {R : Ending → World → Prop} (ha : Has n l a) (rs : List ResultVar) (vs : List Value) (hrs : fn.results = rs.toArray) (hres : ResOk P W l rs vs) (v : Value)
    (hv : oneOf vs = v) (hR : R (.returned v) W) : bodyPost P fn R .normal a W := finv ha rs vs hrs hres v hv hR

abbrev Blks := List (Nat × Obj)

def flatT (ss : List Blks) (bt : Blks) : Blks := ss.foldr (· ++ ·) bt

theorem flatT_eq (ss : List Blks) (bt : Blks) : flatT ss bt = ss.flatten ++ bt := by
  induction ss with
  | nil => rfl
  | cons s r ih =>
    show s ++ flatT r bt = _
    rw [ih, List.flatten_cons, List.append_assoc]

def permB (is : List Nat) (n : Nat) : Bool := is.isPerm (List.range n)

theorem perm_of {is : List Nat} {ss : List Blks} (h : permB is ss.length = true) : ss.Perm (is.map fun i => ss.getD i []) := by
  have h1 := List.isPerm_iff.mp h
  have h2 := (h1.map fun i => ss.getD i []).symm
  refine List.Perm.trans (List.Perm.of_eq ?_) h2
  apply List.ext_getElem?
  intro i
  by_cases hi : i < ss.length
  · simp [hi]
  · simp [hi]

section
variable {w0 W : World} {bt : Blks} {os m m' ot : List OwnA}
/-- Some of the segments, in another order; what stands behind them stays. -/
theorem Wd.segs {ss : List Blks} (ss' : List Blks) (m' : List OwnA) (h : Wd w0 W (flatT ss bt) (m ++ ot)) (is ir js : List Nat) (hp : permB (is ++ ir) ss.length = true) (hs : (is.map fun i => ss.getD i []) = ss') (hj : js.Nodup) (ho : js.map (fun i => m[i]?) = m'.map some) :
    Wd w0 W (flatT ss' bt) (m' ++ ot) := by
  rw [flatT_eq] at h ⊢
  have hq := perm_of hp
  rw [List.map_append, hs] at hq
  have hf : ss.flatten.Perm (ss'.flatten ++ (ir.map fun i => ss.getD i []).flatten) := by
    rw [← List.flatten_append]
    exact hq.flatten
  have h2 : Wd w0 W (([] : Blks) ++ (ss.flatten ++ bt)) (m ++ ot) := h
  have h3 := h2.pickT [] js List.nodup_nil hj (l' := []) (m' := m') rfl ho
  refine (h3.perm (bs' := ss'.flatten ++ ((ir.map fun i => ss.getD i []).flatten ++ bt)) ?_ (List.Perm.refl _)).less ?_ (List.Sublist.refl _)
  · show (ss.flatten ++ bt).Perm _
    rw [← List.append_assoc]
    exact hf.append_right _
  · exact List.Sublist.append_left (List.sublist_append_right _ _) _

theorem Wd.joinHead {N P r : Blks} {os : List OwnA} (h : Wd w0 W (N ++ (P ++ r)) os) : Wd w0 W ((N ++ P) ++ r) os := by rw [List.append_assoc]; exact h

/-- A row told by itself becomes a segment, and back. -/
def RowSeg (q : OwnA) (U : Blks) : Prop := (q.v = .slice none 0 0 ∧ q.n = 0 ∧ q.cs = [] ∧ U = []) ∨ ∃ g o, RowO q.e q.sz q.v q.n q.cs g o ∧ U = [(g, o)]

theorem Wd.rowFold {bs : Blks} {q : OwnA} (h : Wd w0 W bs (q :: os)) : ∃ U, RowSeg q U ∧ Wd w0 W (U ++ bs) os := by
  obtain ⟨e, sz, v, n, cs⟩ := q
  rcases h.ofRow with ⟨h1, h2, h3, h4⟩ | ⟨g, o, h1, h2⟩
  · exact ⟨[], .inl ⟨h1, h2, h3, rfl⟩, h4⟩
  · exact ⟨[(g, o)], .inr ⟨g, o, h1, rfl⟩, h2⟩

theorem Wd.rowUnfold {bs U : Blks} {q : OwnA} (h : Wd w0 W (U ++ bs) os) (hr : RowSeg q U) : Wd w0 W bs (q :: os) := by
  obtain ⟨e, sz, v, n, cs⟩ := q
  rcases hr with ⟨h1, h2, h3, rfl⟩ | ⟨g, o, h1, rfl⟩
  · simp only at h1 h2 h3
    subst h1 h2 h3
    exact h.nilo e sz
  · exact h.toRow h1

theorem pool_nil (F : Blks) : ∀ p ∈ F, p ∈ F := fun _ h => h
theorem pool_cons (N F : Blks) : ∀ p ∈ F, p ∈ N ++ F := fun _ h => List.mem_append_right _ h

/-- A slice that reads as its cells wherever the pool (which no one changes) and the beginning are told. -/
def RdF (w0 : World) (F : Blks) (sz : Nat) (v : Value) (n : Nat) (cs : List Value) : Prop := ∀ (W : World) (bs : Blks) (os : List OwnA), Wd w0 W bs os → (∀ p ∈ F, p ∈ bs) → Rd sz W v n cs

theorem RdF.mono {F F' : Blks} {sz n : Nat} {v : Value} {cs : List Value} (h : RdF w0 F sz v n cs) (hs : ∀ p ∈ F, p ∈ F') : RdF w0 F' sz v n cs := fun W bs os h1 h2 => h W bs os h1 (fun p hp => h2 p (hs p hp))

theorem RdF.old {F : Blks} {sz n : Nat} {v : Value} {cs : List Value} (h : Rd sz w0 v n cs) : RdF w0 F sz v n cs := fun W bs os h1 _ => h1.rd0 h

theorem RdF.nil {F : Blks} {sz : Nat} : RdF w0 F sz (.slice none 0 0) 0 [] := fun W _ _ _ _ => ⟨by simp, .inl ⟨rfl, rfl⟩⟩

theorem RdF.rd {F bs : Blks} {sz n : Nat} {v : Value} {cs : List Value} (h : RdF w0 F sz v n cs) (HW : Wd w0 W bs os) (hs : ∀ p ∈ F, p ∈ bs) : Rd sz W v n cs := h W bs os HW hs

/-- A row of one's own is never changed again: it goes to the pool. -/
theorem RdF.own {F U : Blks} {q : OwnA} (h : RowSeg q U) : RdF w0 (U ++ F) q.sz q.v q.n q.cs := by
  intro W bs os HW hs
  rcases h with ⟨h1, h2, h3, rfl⟩ | ⟨g, o, ⟨hl, cap, cur, fz, hv, ho, hz, hn, hm, hc, ht⟩, rfl⟩
  · exact ⟨by rw [h3, h2]; simp, .inl ⟨h1, h2⟩⟩
  · have hb := (Wd.iff.mp HW).2.1 (g, o) (hs _ List.mem_cons_self)
    refine ⟨hl, .inr ⟨g, 0, cap, hv, hn, fun j u hu => ?_⟩⟩
    rw [Nat.zero_add, cell_of_row W g j cur q.e fz (by rw [← ho]; exact hb.2)]
    rw [← ht, List.getElem?_take] at hu
    split at hu
    · rw [← Array.getElem?_toList]; exact hu
    · cases hu

theorem mem_flat {ss : List Blks} {F : Blks} (i : Nat) (h : ss[i]? = some F) : ∀ p ∈ F, p ∈ flatT ss bt := by
  intro p hp
  rw [flatT_eq]
  exact List.mem_append_left _ (List.mem_flatten.mpr ⟨F, List.mem_of_getElem? h, hp⟩)

/-- A pointer that may be none. -/
def OptAt {T : Type} (At : Nat → T → Blks → Prop) (r : Option T) (v : Value) (U : Blks) : Prop := match r with
  | none => v = .pointer none ∧ U = []
  | some x => ∃ p, v = .pointer (some ⟨p, 0, none⟩) ∧ At p x U
end
end Go.Proofs.Ytdcojinnjpihaaa.X
