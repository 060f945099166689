/- A package-level table that reads as its list lays: what its cells are. No condition. -/
import Derived.Test.YtdcojinnjpihaaaDoorXWorld
import Derived.ProofKit
import Derived.OpenShut
import Derived.Deep.DeepHandedRow
import Derived.Lib.LaidTab
namespace Go.Proofs.YtdcojinnjpihaaaDoor.X
open Go Go.RowKit Go.ChangeShapes Go.WideShapes
set_option linter.unusedVariables false
set_option linter.unusedSimpArgs false

mutual
/-- The cells of a datum of whole numbers, bools, texts, and rows of such. -/
def flatD {H : Type} : DataW H → List Value
  | .lit (.int k n) => [.int k n]
  | .lit (.bool b) => [.bool b]
  | .lit (.string bs) => [.string ⟨bs.toArray⟩]
  | .agg parts => flatDAll parts
  | _ => []
def flatDAll {H : Type} : List (DataW H) → List Value
  | [] => []
  | d :: r => flatD d ++ flatDAll r
end

/-- What reads as a datum has that datum's cells. -/
def XFlat (P : Program) (t : TypeId) : Prop :=
  ∀ (H : Type) (enc : TypeId × Value → H) (W : World) (base : Nat) (sp : Nat → Bool) (held : Bool) (fuel : Nat) (cs : List Value) (d : DataW H) (ps : List MemPlace),
    DataW.trod enc P W base sp held fuel t cs = some (d, ps) → cs = flatD d

def XFlatAll (P : Program) : List TypeId → Prop
  | [] => True
  | t :: ts => XFlat P t ∧ XFlatAll P ts

def offsIn (P : Program) : List Field → Nat → Nat → Bool
  | [], n, m => n == m
  | f :: fs, n, m => f.offset == n && offsIn P fs (n + P.cellsOf f.type) m

def putT (C : Array Value) : Obj → Obj
  | .cells _ t frozen => .cells C t frozen
  | o => o

section
variable {P : Program} {t : TypeId}

theorem XFlat.int {k : IntKind} (ht : P.underlying t = some (.int k)) : XFlat P t := by
  intro H enc W base sp held fuel cs d ps h
  cases fuel with
  | zero => simp [DataW.trod] at h
  | succ m =>
    unfold DataW.trod at h
    rw [ht] at h
    split at h <;> simp_all
    obtain ⟨⟨rfl, _⟩, rfl, _⟩ := h
    simp [flatD]

theorem XFlat.bool (ht : P.underlying t = some .bool) : XFlat P t := by
  intro H enc W base sp held fuel cs d ps h
  cases fuel with
  | zero => simp [DataW.trod] at h
  | succ m =>
    unfold DataW.trod at h
    rw [ht] at h
    split at h <;> simp_all
    obtain ⟨rfl, _⟩ := h
    simp [flatD]

theorem XFlat.str (ht : P.underlying t = some .string) : XFlat P t := by
  intro H enc W base sp held fuel cs d ps h
  cases fuel with
  | zero => simp [DataW.trod] at h
  | succ m =>
    unfold DataW.trod at h
    rw [ht] at h
    split at h <;> (try (rename_i hq; cases hq; done)) <;> (try (cases h; done))
    rename_i s _
    split at h
    · obtain ⟨rfl, _⟩ := Prod.mk.inj (Option.some.inj h)
      simp [flatD]
    · cases h

theorem XFlat.struct {fs : Array Field} (ht : P.underlying t = some (.struct fs)) (hR : XFlatAll P (fs.toList.map (·.type))) (ho : offsIn P fs.toList 0 (P.cellsOf t) = true) : XFlat P t := by
  intro H enc W base sp held fuel cs d ps h
  obtain ⟨xs, n, rfl, hx, hl, hn, hg⟩ := DataW.trod_struct ht h
  obtain ⟨rfl, rfl⟩ := Prod.mk.inj hx
  have key : ∀ (l : List Field) (o : Nat) (ys : List (DataW H × List MemPlace)), XFlatAll P (l.map (·.type)) → offsIn P l o (P.cellsOf t) = true → ys.length = l.length →
      (∀ (i : Nat) (f : Field), l[i]? = some f → DataW.trod enc P W base sp held n f.type ((cs.drop f.offset).take (P.cellsOf f.type)) = ys[i]?) → cs.drop o = flatDAll (ys.map (·.1)) := by
    intro l
    induction l with
    | nil =>
      intro o ys _ ho hy _
      simp only [offsIn, beq_iff_eq] at ho
      obtain rfl : ys = [] := List.eq_nil_of_length_eq_zero (by simpa using hy)
      simp [flatDAll, ho, hl]
    | cons f l ih =>
      intro o ys hR ho hy hg
      cases ys with
      | nil => simp at hy
      | cons y ys =>
        simp only [offsIn, Bool.and_eq_true, beq_iff_eq] at ho
        have g0 := hg 0 f (by simp)
        simp only [List.getElem?_cons_zero] at g0
        rw [ho.1] at g0
        have h1 := hR.1 H enc W base sp held n _ y.1 y.2 g0
        have h2 := ih (o + P.cellsOf f.type) ys hR.2 ho.2 (by simpa using hy) fun i f' hi => by
          have := hg (i + 1) f' (by simpa using hi)
          simpa using this
        rw [List.map_cons, flatDAll, ← h1, ← h2, ← List.drop_drop, List.take_append_drop]
  have := key fs.toList 0 xs hR ho (by simpa using hn) (fun i f hi => hg i f (by simpa using hi))
  simpa [flatD] using this

theorem XFlat.array {e : TypeId} {n : Nat} (ht : P.underlying t = some (.array n e)) (hR : XFlat P e) (ho : P.cellsOf t = n * P.cellsOf e) : XFlat P t := by
  intro H enc W base sp held fuel cs d ps h
  obtain ⟨xs, m, rfl, hx, hl, hn, hg⟩ := DataW.trod_array ht h
  obtain ⟨rfl, rfl⟩ := Prod.mk.inj hx
  have key : ∀ (k o : Nat) (ys : List (DataW H × List MemPlace)), o + k = n → ys.length = k →
      (∀ (i : Nat), i < k → DataW.trod enc P W base sp held m e ((cs.drop ((o + i) * P.cellsOf e)).take (P.cellsOf e)) = ys[i]?) → cs.drop (o * P.cellsOf e) = flatDAll (ys.map (·.1)) := by
    intro k
    induction k with
    | zero =>
      intro o ys ho' hy _
      simp at ho'
      subst ho'
      obtain rfl : ys = [] := List.eq_nil_of_length_eq_zero hy
      simp [flatDAll, hl, ho]
    | succ k ih =>
      intro o ys ho' hy hg
      cases ys with
      | nil => simp at hy
      | cons y ys =>
        have g0 := hg 0 (by omega)
        simp only [List.getElem?_cons_zero, Nat.add_zero] at g0
        have h1 := hR H enc W base sp held m _ y.1 y.2 g0
        have h2 := ih (o + 1) ys (by omega) (by simpa using hy) fun i hi => by
          have := hg (i + 1) (by omega)
          rw [← Nat.add_assoc, Nat.add_right_comm] at this
          simpa using this
        rw [Nat.succ_mul] at h2
        rw [List.map_cons, flatDAll, ← h1, ← h2, ← List.drop_drop, List.take_append_drop]
  have := key n 0 xs (by omega) hn (fun i hi => by simpa using hg i hi)
  simpa [flatD] using this

theorem laid_ca_go {W : World} : ∀ (laid : List (String × DataW Unit)) (ps : List MemPlace), DataW.LaidVars P W laid ps →
    ∀ {name : String} {d : DataW Unit} {g : Nat} {t : TypeId}, (name, d) ∈ laid → P.globalNamed name = some g → (P.globals[g]?).map (·.type) = some t → XFlat P t → CA W g 0 (flatD d).toArray
  | [], _, _, _, _, _, _, hm, _, _, _ => by simp at hm
  | (n0, d0) :: rest, ps, h, name, d, g, t, hm, hg, hty, hx => by
    obtain ⟨g', t', cs, fuel, p, q, hg', ht', hvar, hd, hr, _⟩ := h
    rcases List.mem_cons.1 hm with e | hm
    · obtain ⟨rfl, rfl⟩ := Prod.mk.inj e
      obtain rfl := Option.some.inj (hg.symm.trans hg')
      obtain rfl := Option.some.inj (hty.symm.trans ht')
      have := hx Unit _ W 0 _ _ fuel cs.toList _ p hd
      intro m u hu
      rw [← this, Array.toArray_toList] at hu
      have := World.var?_cell hg hvar m
      rw [Nat.zero_add, this, hu]
    · exact laid_ca_go rest q hr hm hg hty hx

/-- What the row's list gives: a table's cells. -/
theorem laid_ca {W : World} {laid : List (String × DataW Unit)} (h : laidMet P laid W) {name : String} {d : DataW Unit} {g : Nat} {t : TypeId} (hm : laid.find? (fun x => x.1 == name) = some (name, d)) (hg : P.globalNamed name = some g) (hty : (P.globals[g]?).map (·.type) = some t)
    (hx : XFlat P t) {C : Array Value} (hC : (flatD d).toArray = C) : CA W g 0 C := by
  obtain ⟨ps, h, _⟩ := h
  rw [← hC]
  exact laid_ca_go laid ps h (List.mem_of_find?_eq_some hm) hg hty hx
end
end Go.Proofs.YtdcojinnjpihaaaDoor.X
