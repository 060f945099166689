/- What an argument that reads as data tells of its cells, by its type; and what it weighs. No condition. -/
import Derived.Test.YtdcojinnjpihaaaXWorld
import Derived.ProofKit
import Derived.OpenShut
import Derived.ShutString
import Derived.ChangeOld
import Derived.Below
import Derived.SizedLaws
namespace Go.Proofs.Ytdcojinnjpihaaa.X
open Go Go.RowKit Go.ChangeShapes Go.WideShapes
set_option linter.unusedVariables false
set_option linter.unusedSimpArgs false

def Spot (v : Value) : Prop := ∀ a len cap, v = .slice (some a) len cap → a.spot = none

/-- What the reading of a value of a type tells of its cells. -/
def XTold (P : Program) (W : World) (t : TypeId) (R : List Value → Prop) : Prop :=
  ∀ (H : Type) (enc : TypeId × Value → H) (fuel : Nat) (cs : List Value) (d : DataW H) (ps : List MemPlace),
    DataW.trod enc P W 0 (fun _ => true) true fuel t cs = some (d, ps) → (∀ n ∈ d.weights P t, n ≤ reachBytes) → R cs

def XToldAll (P : Program) (W : World) : List TypeId → List (List Value → Prop) → Prop
  | [], [] => True
  | t :: ts, R :: Rs => XTold P W t R ∧ XToldAll P W ts Rs
  | _, _ => False

def Seq : List (List Value → Prop) → List Value → Prop
  | [], cs => cs = []
  | R :: Rs, cs => ∃ p q, cs = p ++ q ∧ R p ∧ Seq Rs q

def offsOk (P : Program) : List Field → Nat → Nat → Bool
  | [], n, m => n == m
  | f :: fs, n, m => f.offset == n && offsOk P fs (n + P.cellsOf f.type) m

section
variable {P : Program} {W : World} {t : TypeId}

theorem XTold.mono {R R' : List Value → Prop} (h : XTold P W t R) (hi : ∀ cs, R cs → R' cs) : XTold P W t R' :=
  fun H enc fuel cs d ps h1 h2 => hi cs (h H enc fuel cs d ps h1 h2)

theorem XTold.int {k : IntKind} (ht : P.underlying t = some (.int k)) : XTold P W t (fun cs => ∃ n, cs = [.int k n] ∧ (Lit.int k n).wf = true) := by
  intro H enc fuel cs d ps h _
  cases fuel with
  | zero => simp [DataW.trod] at h
  | succ m =>
    unfold DataW.trod at h
    rw [ht] at h
    split at h <;> simp_all

theorem XTold.bool (ht : P.underlying t = some .bool) : XTold P W t (fun cs => ∃ b, cs = [.bool b]) := by
  intro H enc fuel cs d ps h _
  cases fuel with
  | zero => simp [DataW.trod] at h
  | succ m =>
    unfold DataW.trod at h
    rw [ht] at h
    split at h <;> simp_all

theorem XTold.str (ht : P.underlying t = some .string) : XTold P W t (fun cs => ∃ s, cs = [.string s] ∧ s.size ≤ 140737488351232) := by
  intro H enc fuel cs d ps h hw
  cases fuel with
  | zero => simp [DataW.trod] at h
  | succ m =>
    unfold DataW.trod at h
    rw [ht] at h
    split at h <;> (try (rename_i hq; cases hq; done)) <;> (try (cases h; done))
    · rename_i s _
      split at h
      · rename_i h0
        obtain ⟨rfl, _⟩ := Prod.mk.inj (Option.some.inj h)
        refine ⟨s, rfl, ?_⟩
        have := hw s.data.toList.length (by simp [DataW.weights])
        rw [Array.length_toList] at this
        exact this
      · cases h

theorem XTold.struct {fs : Array Field} {Rs : List (List Value → Prop)} (ht : P.underlying t = some (.struct fs)) (hR : XToldAll P W (fs.toList.map (·.type)) Rs)
    (ho : offsOk P fs.toList 0 (P.cellsOf t) = true) : XTold P W t (Seq Rs) := by
  intro H enc fuel cs d ps h hw
  obtain ⟨xs, n, rfl, hx, hl, hn, hg⟩ := DataW.trod_struct ht h
  obtain ⟨rfl, rfl⟩ := Prod.mk.inj hx
  simp only [DataW.weights, ht] at hw
  have key : ∀ (l : List Field) (o : Nat) (Rs : List (List Value → Prop)) (ys : List (DataW H × List MemPlace)), XToldAll P W (l.map (·.type)) Rs → offsOk P l o (P.cellsOf t) = true → ys.length = l.length →
      (∀ n ∈ DataW.weightsEach P (l.map (·.type)) (ys.map (·.1)), n ≤ reachBytes) → (∀ (i : Nat) (f : Field), l[i]? = some f → DataW.trod enc P W 0 (fun _ => true) true n f.type ((cs.drop f.offset).take (P.cellsOf f.type)) = ys[i]?) → Seq Rs (cs.drop o) := by
    intro l
    induction l with
    | nil =>
      intro o Rs ys hR ho _ _ _
      cases Rs with
      | nil => simp only [offsOk, beq_iff_eq] at ho; simp [Seq, ho, hl]
      | cons _ _ => simp [XToldAll] at hR
    | cons f l ih =>
      intro o Rs ys hR ho hy hw hg
      cases Rs with
      | nil => simp [XToldAll] at hR
      | cons R Rs =>
        cases ys with
        | nil => simp at hy
        | cons y ys =>
          simp only [offsOk, Bool.and_eq_true, beq_iff_eq] at ho
          simp only [List.map_cons, DataW.weightsEach, List.mem_append] at hw
          obtain ⟨hR1, hR2⟩ := hR
          have g0 := hg 0 f (by simp)
          simp only [List.getElem?_cons_zero] at g0
          rw [ho.1] at g0
          refine ⟨(cs.drop o).take (P.cellsOf f.type), (cs.drop o).drop (P.cellsOf f.type), (List.take_append_drop _ _).symm, ?_, ?_⟩
          · exact hR1 H enc n _ y.1 y.2 g0 (fun n hn => hw n (.inl hn))
          · rw [List.drop_drop]
            refine ih _ Rs ys hR2 ho.2 (by simpa using hy) (fun n hn => hw n (.inr hn)) ?_
            intro i f' hi
            have := hg (i + 1) f' (by simpa using hi)
            simpa using this
  have := key fs.toList 0 Rs xs hR ho (by simpa using hn) hw (fun i f hi => hg i f (by simpa using hi))
  simpa using this

theorem XTold.array {e : TypeId} {n : Nat} {R : List Value → Prop} (ht : P.underlying t = some (.array n e)) (hR : XTold P W e R)
    (ho : P.cellsOf t = n * P.cellsOf e) : XTold P W t (Seq (List.replicate n R)) := by
  intro H enc fuel cs d ps h hw
  obtain ⟨xs, m, rfl, hx, hl, hn, hg⟩ := DataW.trod_array ht h
  obtain ⟨rfl, rfl⟩ := Prod.mk.inj hx
  simp only [DataW.weights, ht] at hw
  have key : ∀ (k o : Nat) (ys : List (DataW H × List MemPlace)), o + k = n → ys.length = k → (∀ n ∈ DataW.weightsAll P e (ys.map (·.1)), n ≤ reachBytes) →
      (∀ (i : Nat), i < k → DataW.trod enc P W 0 (fun _ => true) true m e ((cs.drop ((o + i) * P.cellsOf e)).take (P.cellsOf e)) = ys[i]?) → Seq (List.replicate k R) (cs.drop (o * P.cellsOf e)) := by
    intro k
    induction k with
    | zero => intro o ys ho' _ _ _; simp at ho'; subst ho'; simp [Seq, hl, ho]
    | succ k ih =>
      intro o ys ho' hy hw hg
      cases ys with
      | nil => simp at hy
      | cons y ys =>
        simp only [List.map_cons, DataW.weightsAll, List.mem_append] at hw
        have g0 := hg 0 (by omega)
        simp only [List.getElem?_cons_zero, Nat.add_zero] at g0
        refine ⟨(cs.drop (o * P.cellsOf e)).take (P.cellsOf e), (cs.drop (o * P.cellsOf e)).drop (P.cellsOf e), (List.take_append_drop _ _).symm, ?_, ?_⟩
        · exact hR H enc m _ y.1 y.2 g0 (fun n hn => hw n (.inl hn))
        · rw [List.drop_drop, ← Nat.succ_mul]
          refine ih (o + 1) ys (by omega) (by simpa using hy) (fun n hn => hw n (.inr hn)) ?_
          intro i hi
          have := hg (i + 1) (by omega)
          rw [← Nat.add_assoc, Nat.add_right_comm] at this
          simpa using this
  have := key n 0 xs (by omega) hn hw (fun i hi => by simpa using hg i hi)
  simpa using this

theorem cells?_get {b n : Nat} {a : Addr} {row : List Value} (h : W.cells? b a n = some row) : row.length = n ∧ ∀ (j : Nat) (u : Value), row[j]? = some u → W.cell? (a.add j) = some u := by
  unfold World.cells? at h
  split at h
  · refine ⟨by simpa using mapM_some_length h, fun j u hu => ?_⟩
    have hj : j < row.length := (List.getElem?_eq_some_iff.1 hu).1
    have hl : row.length = n := by simpa using mapM_some_length h
    have := mapM_some_get h j j (List.getElem?_range (by omega))
    rw [hu] at this
    exact this
  · cases h

theorem flat_get {sz : Nat} {f : Nat → Value → Prop} : ∀ (rows : List (List Value)) (o : Nat), (∀ row ∈ rows, row.length = sz) → (∀ (i : Nat) (row : List Value), rows[i]? = some row → ∀ (m : Nat) (u : Value), row[m]? = some u → f (o + i * sz + m) u) →
    ∀ (j : Nat) (u : Value), rows.flatten[j]? = some u → f (o + j) u
  | [], _, _, _, j, u, hu => by simp at hu
  | r :: rs, o, hl, hf, j, u, hu => by
    have hr := hl r (by simp)
    rw [List.flatten_cons] at hu
    by_cases hj : j < r.length
    · rw [List.getElem?_append_left hj] at hu
      simpa using hf 0 r rfl j u hu
    · rw [List.getElem?_append_right (by omega)] at hu
      have := flat_get rs (o + sz) (fun row hm => hl row (by simp [hm])) (fun i row hi m u hm => by
        have := hf (i + 1) row (by simpa using hi) m u hm
        rw [Nat.succ_mul] at this
        have e : o + (i * sz + sz) + m = o + sz + i * sz + m := by omega
        rwa [e] at this) (j - r.length) u hu
      have e : o + sz + (j - r.length) = o + j := by omega
      rwa [e] at this

/-- A slice: its rows, each as its type tells; what it weighs. -/
theorem XTold.slice {e : TypeId} {sz : Nat} {R : List Value → Prop} (ht : P.underlying t = some (.slice e)) (hsz : P.cellsOf e = sz) (hR : XTold P W e R) :
    XTold P W t (fun cs => ∃ (a : Option Addr) (cap : Nat) (rows : List (List Value)), cs = [.slice a rows.length cap] ∧ (Spot (.slice a rows.length cap) → Rd sz W (.slice a rows.length cap) rows.length rows.flatten) ∧
      (∀ row ∈ rows, R row) ∧ rows.length * P.bytesOf e ≤ 140737488351232 ∧ rows.length ≤ cap ∧ cap ≤ maxLen) := by
  intro H enc fuel cs d ps h hw
  cases fuel with
  | zero => simp [DataW.trod] at h
  | succ m =>
    unfold DataW.trod at h
    rw [ht] at h
    split at h <;> (try (rename_i hq; cases hq; done)) <;> (try (cases h; done))
    · exact ⟨none, 0, [], rfl, fun _ => ⟨by simp, .inl ⟨rfl, rfl⟩⟩, by simp, by simp, by simp, by simp⟩
    · rename_i a len cap he
      cases he
      simp only at h
      split at h
      · rename_i hc
        simp only [Option.bind_eq_some_iff, Option.map_eq_some_iff, Prod.mk.injEq] at h
        obtain ⟨elems, hel, rest, hrest, rfl, rfl⟩ := h
        simp only [DataW.weights, ht, List.mem_cons, forall_eq_or_imp, List.mem_append] at hw
        have hlen : elems.length = len := by simpa using mapM_some_length hel
        have each : ∀ i, ∃ row, i < len → W.cells? 0 (a.add (i * P.cellsOf e)) (P.cellsOf e) = some row ∧ DataW.trod enc P W 0 (fun _ => true) true m e row = elems[i]? := by
          intro i
          by_cases hi : i < len
          · have := mapM_some_get hel i i (List.getElem?_range (by omega))
            rw [List.getElem?_eq_getElem (by omega)] at this
            obtain ⟨row, h1, h2⟩ := Option.bind_eq_some_iff.1 this
            exact ⟨row, fun _ => ⟨h1, by rw [h2, List.getElem?_eq_getElem (by omega)]⟩⟩
          · exact ⟨[], fun h => absurd h hi⟩
        let rows := (List.range len).map fun i => (each i).choose
        have hrows : rows.length = len := by simp [rows]
        have hget : ∀ (i : Nat) (row : List Value), rows[i]? = some row → i < len ∧ W.cells? 0 (a.add (i * P.cellsOf e)) (P.cellsOf e) = some row ∧ DataW.trod enc P W 0 (fun _ => true) true m e row = elems[i]? := by
          intro i row hi
          have hl : i < len := by rw [← hrows]; exact (List.getElem?_eq_some_iff.1 hi).1
          simp only [rows, List.getElem?_map, List.getElem?_range hl, Option.map_some, Option.some.injEq] at hi
          subst hi
          exact ⟨hl, (each i).choose_spec hl⟩
        refine ⟨some a, cap, rows, by rw [hrows], fun hsp => ⟨?_, .inr ⟨a.block, a.off, cap, ?_, by omega, ?_⟩⟩, ?_, ?_, by omega, hc.2.2⟩
        · have : ∀ (l : List (List Value)), (∀ row ∈ l, row.length = sz) → l.flatten.length = l.length * sz := by
            intro l hl
            induction l with
            | nil => simp
            | cons r l ih => rw [List.flatten_cons, List.length_append, ih (fun x hx => hl x (by simp [hx])), hl r (by simp), List.length_cons, Nat.succ_mul]; omega
          refine this rows fun row hm => ?_
          obtain ⟨i, hi⟩ := List.getElem?_of_mem hm
          rw [← hsz]
          exact (cells?_get (hget i row hi).2.1).1
        · have := hsp a _ _ rfl
          cases a; simp_all
        · have hsa := hsp a _ _ rfl
          intro j u hu
          refine flat_get (sz := sz) (f := fun o u => W.cell? ⟨a.block, o, none⟩ = some u) rows a.off ?_ ?_ j u hu
          · intro row hm
            obtain ⟨i, hi⟩ := List.getElem?_of_mem hm
            rw [← hsz]
            exact (cells?_get (hget i row hi).2.1).1
          · intro i row hi k u hk
            have := (cells?_get (hget i row hi).2.1).2 k u hk
            rw [hsz] at this
            simp only [Addr.add] at this
            cases a
            (try simp only at hsa)
            subst hsa
            rw [← this]
            congr 1
            by_cases h1 : i * sz = 0 <;> by_cases h2 : k = 0 <;> simp [h1, h2]
        · intro row hm
          obtain ⟨i, hi⟩ := List.getElem?_of_mem hm
          obtain ⟨hl, _, h2⟩ := hget i row hi
          rw [List.getElem?_eq_getElem (by omega)] at h2
          refine hR H enc m row elems[i].1 elems[i].2 h2 fun n hn => hw.2 n (.inl ?_)
          have : ∀ (l : List (DataW H × List MemPlace)) (y : DataW H × List MemPlace), y ∈ l → n ∈ y.1.weights P e → n ∈ DataW.weightsAll P e (l.map (·.1)) := by
            intro l y hy hn
            induction l with
            | nil => simp at hy
            | cons z l ih =>
              simp only [List.map_cons, DataW.weightsAll, List.mem_append]
              rcases List.mem_cons.1 hy with rfl | hy
              · exact .inl hn
              · exact .inr (ih hy)
          exact this elems elems[i] (List.getElem_mem _) hn
        · have h1 := hw.1
          simp only [List.length_map, hlen] at h1
          rw [hrows]
          exact Nat.le_trans (Nat.mul_le_mul_right _ (Nat.le_add_right _ _)) h1
      · cases h

theorem rows_of {α : Type} {f : α → List Value} {q : α → Prop} : ∀ {rows : List (List Value)}, (∀ row ∈ rows, ∃ x, row = f x ∧ q x) → ∃ xs : List α, rows = xs.map f ∧ ∀ x ∈ xs, q x
  | [], _ => ⟨[], rfl, by simp⟩
  | r :: rs, h => by
    obtain ⟨x, h1, h2⟩ := h r (by simp)
    obtain ⟨xs, h3, h4⟩ := rows_of (rows := rs) fun row hm => h row (by simp [hm])
    refine ⟨x :: xs, by rw [h1, h3]; rfl, fun y hy => ?_⟩
    rcases List.mem_cons.1 hy with rfl | hy
    · exact h2
    · exact h4 y hy

theorem okWide_spot {r : Reach} {base : Nat} {v : Value} (h : Value.okWide P W r base t v) : ∀ x ∈ v.cells.toList, Spot x := by
  have cell : ∀ {u : TypeId} {x : Value}, Cell.okWide P W r base u x → Spot x := by
    intro u x hx a len cap hv
    subst hv
    unfold Cell.okWide Cell.ok at hx
    split at hx <;> simp_all
    split at hx <;> simp_all
    exact hx.2.2.2.1
  unfold Value.okWide at h
  split at h
  · obtain ⟨cs, rfl, _, ts, _, _, h⟩ := h
    intro x hx
    obtain ⟨i, hi⟩ := List.getElem?_of_mem hx
    obtain ⟨u, _, hu⟩ := h i x (by simpa [Value.cells] using hi)
    exact cell hu
  · obtain ⟨cs, rfl, _, ts, _, _, h⟩ := h
    intro x hx
    obtain ⟨i, hi⟩ := List.getElem?_of_mem hx
    obtain ⟨u, _, hu⟩ := h i x (by simpa [Value.cells] using hi)
    exact cell hu
  · intro x hx
    cases v <;> simp [Value.cells] at hx <;> (try subst hx) <;> (try exact cell h)
    all_goals (exfalso; revert h; unfold Cell.okWide Cell.ok; split <;> simp_all <;> (split <;> simp_all))

def scalar (P : Program) (t : TypeId) : Bool := match P.underlying t with | some .bool | some .string | some (.int _) | some (.slice _) => true | _ => false

theorem okWide_one {r : Reach} {base : Nat} {v x : Value} (hs : scalar P t = true) (h : Value.okWide P W r base t v) (hv : v.cells.toList = [x]) : v = x := by
  cases v <;> simp [Value.cells] at hv <;> (try exact hv)
  all_goals
    exfalso
    unfold scalar at hs
    unfold Value.okWide Cell.okWide Cell.ok at h
    split at hs <;> simp_all

def vector (P : Program) (t : TypeId) : Bool := match P.underlying t with | some (.struct _) | some (.array _ _) => true | _ => false

theorem okWide_agg {r : Reach} {base : Nat} {v : Value} {l : List Value} (hs : vector P t = true) (h : Value.okWide P W r base t v) (hv : v.cells.toList = l) : v = .agg l.toArray := by
  unfold vector at hs
  unfold Value.okWide at h
  split at hs <;> simp_all
  all_goals
    obtain ⟨cs, rfl, _⟩ := h
    simp [Value.cells] at hv
    subst hv
    simp

theorem XTold.arg {R : List Value → Prop} (ho : XTold P W t R) {H : Type} {enc : TypeId × Value → H} {v : Value} {d : DataW H} {ps : List MemPlace}
    (hd : DataW.Trod enc P W 0 (fun _ => true) true t v d ps) {ts : List TypeId} {ds : List (DataW H)} (hw : (DataW.weightsEach P ts ds).all (· ≤ reachBytes) = true) {j : Nat} (ht : ts[j]? = some t) (hj : ds[j]? = some d) : R v.cells.toList := by
  obtain ⟨m, hm⟩ := hd
  refine ho H enc m _ d ps hm fun n hn => ?_
  have := List.all_eq_true.1 hw n (DataW.weights_mem_each ht hj n hn)
  simpa using this

theorem trod_blocks {H : Type} {enc : TypeId × Value → H} {v : Value} {d : DataW H} {ps : List MemPlace} (h : DataW.Trod enc P W 0 (fun _ => true) true t v d ps) : ∀ x ∈ ps, x.block < W.heap.size := by
  obtain ⟨m, hm⟩ := h
  exact DataW.trod_lt m _ _ _ hm

end
end Go.Proofs.Ytdcojinnjpihaaa.X
