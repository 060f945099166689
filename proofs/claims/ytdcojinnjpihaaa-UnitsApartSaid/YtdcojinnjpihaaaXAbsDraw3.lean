/- A region whose order is drawn, in the plain run: the model's run comes to the same. No condition. -/
import Derived.Test.YtdcojinnjpihaaaXAbsDraw2
namespace Go.Proofs.Ytdcojinnjpihaaa.X
open Go Go.RowKit

def wr (ops : Array Oper) (k s : Nat) : Bool := match (ops[k]?).bind (·.dst) with
  | some d => Nat.beq d s
  | none => false

noncomputable def slotD (ops : Array Oper) (base : Nat) (recs : List DRec) (fr : List Value) (D : Nat → Bool) (s : Nat) : Value := match (List.range ops.size).find? (fun k => D k && wr ops k s) with
  | some k => (recs.getD k .off).value base k
  | none => frget fr s

section
variable {ds : List Deferred} {P : Program} {ng : Nat} {call : CallF} {ops : Array Oper} {base : Nat} {ms : List Nat} {recs : List DRec} {fr : List Value}

theorem wr_spec {k s : Nat} (h : wr ops k s = true) : ∃ o, ops[k]? = some o ∧ o.dst = some s ∧ k < ops.size := by
  unfold wr at h
  cases ho : ops[k]? with
  | none => simp [ho] at h
  | some o =>
    simp only [ho, Option.bind_some] at h
    cases hd : o.dst with
    | none => simp [hd] at h
    | some d =>
      simp only [hd] at h
      exact ⟨o, rfl, by rw [hd, Nat.eq_of_beq_eq_true h], (Array.getElem?_eq_some_iff.1 ho).1⟩

theorem wr_of {k s : Nat} {o : Oper} (ho : ops[k]? = some o) (hd : o.dst = some s) : wr ops k s = true := by
  unfold wr
  simp [ho, hd]

theorem wr_uniq (hc : chkB ops = true) {k k' s : Nat} (h : wr ops k s = true) (h' : wr ops k' s = true) : k = k' := by
  obtain ⟨o, ho, hd, _⟩ := wr_spec h
  obtain ⟨o', ho', hd', _⟩ := wr_spec h'
  rcases Nat.decEq k k' with hne | he
  · exact absurd hd (((chkB_spec hc ho).2 k' o' s ho' hd').1 hne)
  · exact he

theorem slotD_some (hc : chkB ops = true) {D : Nat → Bool} {k s : Nat} (hD : D k = true) (hw : wr ops k s = true) : slotD ops base recs fr D s = (recs.getD k .off).value base k := by
  unfold slotD
  obtain ⟨_, _, _, hlt⟩ := wr_spec hw
  cases hf : (List.range ops.size).find? (fun k => D k && wr ops k s) with
  | none =>
    have := List.find?_eq_none.mp hf k (List.mem_range.mpr hlt)
    simp [hD, hw] at this
  | some k' =>
    have h1 := List.find?_some hf
    simp only [Bool.and_eq_true] at h1
    rw [wr_uniq hc h1.2 hw]

theorem slotD_none {D : Nat → Bool} {s : Nat} (h : ∀ k, D k = true → wr ops k s = false) : slotD ops base recs fr D s = frget fr s := by
  unfold slotD
  have hf : (List.range ops.size).find? (fun k => D k && wr ops k s) = none := by
    refine List.find?_eq_none.mpr fun k _ => ?_
    cases hD : D k with
    | false => simp
    | true => simp [h k hD]
  rw [hf]

/-- One more is listed. -/
theorem slotD_put (hc : chkB ops = true) {D D' : Nat → Bool} {i s : Nat} {o : Oper} (ho : ops[i]? = some o) (hD' : ∀ k, k < ops.size → D' k = (D k || Nat.beq k i)) :
    slotD ops base recs fr D' s = if o.dst = some s then (recs.getD i .off).value base i else slotD ops base recs fr D s := by
  have hi : i < ops.size := (Array.getElem?_eq_some_iff.1 ho).1
  by_cases hd : o.dst = some s
  · rw [if_pos hd]
    exact slotD_some hc (by rw [hD' i hi]; simp) (wr_of ho hd)
  · rw [if_neg hd]
    by_cases hk : ∃ k, D k = true ∧ wr ops k s = true
    · obtain ⟨k, hk1, hk2⟩ := hk
      obtain ⟨_, _, _, hlt⟩ := wr_spec hk2
      rw [slotD_some hc hk1 hk2, slotD_some hc (by rw [hD' k hlt, hk1]; rfl) hk2]
    · rw [slotD_none (D := D) fun k hDk => by
        cases hw : wr ops k s with
        | false => rfl
        | true => exact absurd ⟨k, hDk, hw⟩ hk]
      refine slotD_none fun k hDk => ?_
      cases hw : wr ops k s with
      | false => rfl
      | true =>
        exfalso
        obtain ⟨o', ho', hd', hlt⟩ := wr_spec hw
        rw [hD' k hlt] at hDk
        simp only [Bool.or_eq_true] at hDk
        rcases hDk with h1 | h1
        · exact hk ⟨k, h1, hw⟩
        · rw [Nat.eq_of_beq_eq_true h1, ho] at ho'
          cases ho'
          exact hd hd'

theorem frget_put {f : List Value} {d : Nat} (hd : d < f.length) (v : Value) (s : Nat) : frget (f.set d v) s = if d = s then v else frget f s := by
  simp only [frget_eq]
  rw [List.getElem?_set]
  by_cases e : d = s
  · rw [if_pos e, if_pos e, if_pos hd]; rfl
  · rw [if_neg e, if_neg e]

/-- The frames of the pass. -/
theorem frs_slot (hc : chkB ops = true) (hdst : dstB fr.length ops = true) {C : DCert} (h0 : C.frs[0]? = some fr) (hv : ∀ j, j < ops.size → Val1 P ng call ops base ms C j) : ∀ i, i ≤ ops.size → ∃ f, C.frs[i]? = some f ∧ f.length = fr.length ∧ ∀ s, frget f s = slotD ops base C.recs fr (fun k => Nat.blt k i) s := by
  intro i
  induction i with
  | zero =>
    intro _
    refine ⟨fr, h0, rfl, fun s => ?_⟩
    rw [slotD_none]
    intro k hk
    exact absurd (Nat.le_of_ble_eq_true hk) (by omega)
  | succ i ih =>
    intro hi
    obtain ⟨f, h1, h2, h3⟩ := ih (by omega)
    obtain ⟨o, f', rec, q1, q2, q3, q4, _⟩ := hv i (by omega)
    rw [h1] at q2; cases q2
    refine ⟨_, q4, ?_, fun s => ?_⟩
    · rw [fput_eq]; split <;> simp [h2]
    · have hD' : ∀ k, k < ops.size → Nat.blt k (i + 1) = (Nat.blt k i || Nat.beq k i) := by
        intro k _
        rw [Bool.eq_iff_iff]
        simp only [Nat.blt_eq, Bool.or_eq_true, Nat.beq_eq]
        omega
      rw [slotD_put hc q1 hD']
      have hrec : (C.recs.getD i .off) = rec := by simp [List.getD_eq_getElem?_getD, q3]
      rw [hrec]
      cases hd : o.dst with
      | none => simp [fput_eq, h3]
      | some d =>
        have hdl : d < f.length := by
          rw [h2]
          unfold dstB at hdst
          rw [Array.all_eq_true_iff_forall_mem] at hdst
          have := hdst o (Array.mem_of_getElem? q1)
          simp only [hd] at this
          exact Nat.le_of_ble_eq_true this
        simp only [fput_eq]
        rw [frget_put hdl, h3]
        simp

/-- A slot that an operation looks at. -/
theorem slotD_see (hc : chkB ops = true) {D : Nat → Bool} (hD : Closed ops D) {i s : Nat} {o : Oper} (ho : ops[i]? = some o) (hi : D i = false) (hw : ∀ m, waits o m = true → D m = true) (hs : s ∈ o.looksAt ops) :
    slotD ops base recs fr D s = slotD ops base recs fr (fun k => Nat.blt k i) s := by
  have ahead : ∀ k, waits o k = true → k < i := by
    intro k hk
    unfold waits at hk
    obtain ⟨e, he, hbe⟩ := Array.any_eq_true'.mp hk
    simp only [Bool.and_eq_true] at hbe
    have := (chkB_spec hc ho).1 e he hbe.1
    rw [Nat.eq_of_beq_eq_true hbe.2] at this
    exact this
  have iff : ∀ k, wr ops k s = true → (D k = true ↔ Nat.blt k i = true) := by
    intro k hk
    obtain ⟨ok, hok, hdk, _⟩ := wr_spec hk
    rcases ((chkB_spec hc ho).2 k ok s hok hdk).2 hs with h1 | h1
    · exact ⟨fun _ => Nat.ble_eq_true_of_le (ahead k h1), fun _ => hw k h1⟩
    · constructor
      · intro h2
        have := hD k ok hok h2 i h1
        rw [hi] at this; cases this
      · intro h2
        exfalso
        unfold waits at h1
        obtain ⟨e, he, hbe⟩ := Array.any_eq_true'.mp h1
        simp only [Bool.and_eq_true] at hbe
        have h3 := (chkB_spec hc hok).1 e he hbe.1
        rw [Nat.eq_of_beq_eq_true hbe.2] at h3
        have h4 : k < i := Nat.le_of_ble_eq_true h2
        omega
  by_cases hk : ∃ k, D k = true ∧ wr ops k s = true
  · obtain ⟨k, hk1, hk2⟩ := hk
    rw [slotD_some hc (D := D) hk1 hk2, slotD_some hc (D := fun k => Nat.blt k i) (k := k) ((iff k hk2).mp hk1) hk2]
  · have n1 : ∀ k, D k = true → wr ops k s = false := fun k hDk => by
      cases hw2 : wr ops k s with
      | false => rfl
      | true => exact absurd ⟨k, hDk, hw2⟩ hk
    have n2 : ∀ k, Nat.blt k i = true → wr ops k s = false := fun k hlt => by
      cases hw2 : wr ops k s with
      | false => rfl
      | true => exact absurd ⟨k, (iff k hw2).mpr hlt, hw2⟩ hk
    rw [slotD_none (D := D) n1, slotD_none (D := fun k => Nat.blt k i) n2]
end

/-! ### What holds whatever has been done -/
structure DInv (ds : List Deferred) (P : Program) (w0 : World) (μ : Nat → Option Loc) (E : Nat → Option AObj) (ops : Array Oper) (base : Nat) (fr : List Value) (C : DCert) (listed : Array Bool) (a : Act) (W : World) (n : Nat) (S : Heap) (μ' : Nat → Option Loc) (G : Nat → Option AObj) : Prop where
  ext : ExtN base μ μ'
  size : listed.size = ops.size
  closed : Closed ops (fun k => listed.getD k true)
  effs : ∀ (l e : Nat), C.effs[l]? = some e → (listed.getD e true = true ↔ l < n)
  le : n ≤ C.effs.length
  defers : a.defers = ds
  tmps : a.tmps.size = fr.length
  slot : ∀ (s : Nat) (y : Value), a.tmps[s]? = some y → VR μ' (slotD ops base C.recs fr (fun k => listed.getD k true) s) y
  hr : HR P w0 μ' G W
  heap : C.hs[n]? = some S
  old : LeG S.get G
  own : ∀ (i : Nat) (c : List Value) (e : Nat × Bool) (sl : Option (Nat × Nat)), C.recs[i]? = some (.alloc c e sl) → listed.getD i true = true → S.get (base + i) = none → G (base + i) = some (.row c e)
  els : ∀ (k : Nat) (o : AObj), S.get k = none → E k = some o → o ≠ .dead → G k = some o
  free : Free μ' S.next
  resv : ∀ i, i < ops.size → listed.getD i true = false → μ' (base + i) = none
  next : base + ops.size ≤ S.next

section
variable {ds : List Deferred} {P : Program} {ng : Nat} {call : CallF} {w0 W : World} {μ μ' : Nat → Option Loc} {E G : Nat → Option AObj} {ops : Array Oper} {base : Nat} {fr : List Value} {C : DCert} {listed : Array Bool} {a : Act} {n : Nat} {S : Heap} {ms : List Nat}

/-- What an operation may see of the memory lies there. -/
theorem DInv.see (hI : DInv ds P w0 μ E ops base fr C listed a W n S μ' G) {mask i : Nat} (hm : ∀ k, mask.testBit k = true → listed.getD k true = true) : LeG (addA base mask (C.recs.take i) 0 S).get G := by
  intro k o hk
  rcases addA_get base mask _ _ _ _ _ hk with h1 | ⟨h0, j, c, e, sl, h1, h2, h3, h4⟩
  · exact hI.old k o h1
  · rw [Nat.zero_add] at h2 h3
    have h5 : C.recs[j]? = some (.alloc c e sl) := by
      rw [List.getElem?_take] at h1
      split at h1
      · exact h1
      · cases h1
    subst h3; subst h4
    exact hI.own j c e sl h5 (hm j h2) h0

theorem DInv.ev (hI : DInv ds P w0 μ E ops base fr C listed a W n S μ' G) (hg : Glob μ ng) {f : List Value} {i : Nat} {o : Oper} (ho : ops[i]? = some o) (hfl : f.length = fr.length) (hf : ∀ s, frget f s = slotD ops base C.recs fr (fun k => Nat.blt k i) s) (hc : chkB ops = true) (hi : listed.getD i true = false)
    (hw : ∀ m, waits o m = true → listed.getD m true = true) : (∀ x ∈ o.op.operands, opd1 ng x = true → VR μ' (aev f x) (a.eval x)) ∧ Region.wanted o (yielded ops a.tmps) = awant ops f o := by
  have see : ∀ s, s ∈ o.looksAt ops → ∀ y, a.tmps[s]? = some y → VR μ' (frget f s) y := by
    intro s hs y hy
    rw [hf s, ← slotD_see hc hI.closed ho hi hw hs]
    exact hI.slot s y hy
  constructor
  · intro x hx h1
    cases x with
    | tmp t =>
      simp only [aev, Act.eval, Array.getD_eq_getD_getElem?]
      cases hy : a.tmps[t]? with
      | none =>
        have : f[t]? = none := by
          rw [Array.getElem?_eq_none_iff, hI.tmps] at hy
          rw [List.getElem?_eq_none_iff]
          omega
        simp only [frget_eq, this]
        exact VR.undef
      | some y =>
        refine see t ?_ y hy
        exact List.mem_append_left _ (List.mem_filterMap.2 ⟨.tmp t, by simpa using hx, rfl⟩)
    | const v => exact flat_rel h1
    | global g =>
      obtain ⟨l, q1, q2, q3⟩ := (hg.ext hI.ext.ext) g (Nat.le_of_ble_eq_true h1)
      have := VR.ptr (μ := μ') (k := g) (o := 0) q1
      rw [q2, q3] at this
      exact this
    | func f => exact .func rfl (fun i x y hx => by simp at hx) rfl (fun i x y hx => by simp at hx)
  · unfold Region.wanted awant
    cases hgd : o.guard with
    | none => rfl
    | some q =>
      obtain ⟨j, want⟩ := q
      simp only
      have hy : yielded ops a.tmps j = ayield ops f j := by
        unfold yielded ayield
        cases hd : (ops[j]?).bind (·.dst) with
        | none => rfl
        | some d =>
          simp only [Option.bind_some]
          have hdl : d ∈ o.looksAt ops := by
            unfold Oper.looksAt
            refine List.mem_append_right _ ?_
            simp only [hgd, hd]
            simp
          cases hy : a.tmps[d]? with
          | none =>
            have : f[d]? = none := by
              rw [Array.getElem?_eq_none_iff, hI.tmps] at hy
              rw [List.getElem?_eq_none_iff]
              omega
            rw [this]
          | some y =>
            have h1 := see d hdl y hy
            have hlt : d < f.length := by rw [hfl, ← hI.tmps]; exact (Array.getElem?_eq_some_iff.1 hy).1
            have h2 : f[d]? = some f[d] := List.getElem?_eq_some_iff.2 ⟨hlt, rfl⟩
            simp only [frget_eq, h2, Option.getD_some] at h1
            rw [h2]
            generalize f[d] = x at h1
            cases h1 <;> rfl
      rw [hy]
      cases ayield ops f j with
      | none => rfl
      | some b => cases b <;> cases want <;> rfl

theorem DInv.next' (hI : DInv ds P w0 μ E ops base fr C listed a W n S μ' G) (hc : chkB ops = true) {i : Nat} {o : Oper} (ho : ops[i]? = some o) (hw : ∀ m, waits o m = true → listed.getD m true = true)
    {μ2 : Nat → Option Loc} {G2 : Nat → Option AObj} {W2 : World} {n2 : Nat} {S2 : Heap} {v' : Value} (e : Ext μ' μ2) (hlow : ∀ k, k < base → μ2 k = μ' k) (hv : VR μ2 ((C.recs.getD i .off).value base i) v') (heffs : ∀ (l x : Nat), C.effs[l]? = some x → ((x = i ∨ listed.getD x true = true) ↔ l < n2)) (hle : n2 ≤ C.effs.length)
    (hr : HR P w0 μ2 G2 W2) (hs : C.hs[n2]? = some S2) (hold : LeG S2.get G2) (hown : ∀ (j : Nat) (c : List Value) (e : Nat × Bool) (sl : Option (Nat × Nat)), C.recs[j]? = some (.alloc c e sl) → (j = i ∨ listed.getD j true = true) → S2.get (base + j) = none → G2 (base + j) = some (.row c e))
    (hels : ∀ (k : Nat) (o : AObj), S2.get k = none → E k = some o → o ≠ .dead → G2 k = some o) (hfree : Free μ2 S2.next) (hresv : ∀ j, j < ops.size → j ≠ i → listed.getD j true = false → μ2 (base + j) = none) (hnext : base + ops.size ≤ S2.next) :
    DInv ds P w0 μ E ops base fr C (listed.setIfInBounds i true) (a.put o.dst v') W2 n2 S2 μ2 G2 := by
  have hlt : i < ops.size := (Array.getElem?_eq_some_iff.1 ho).1
  have hli : i < listed.size := by rw [hI.size]; exact hlt
  have hD : ∀ j, (listed.setIfInBounds i true).getD j true = true ↔ (j = i ∨ listed.getD j true = true) := by
    intro j
    rw [getD_set hli]
    by_cases h1 : i = j
    · rw [if_pos h1]; simp [h1]
    · rw [if_neg h1]
      constructor
      · exact fun h => .inr h
      · rintro (h | h)
        · exact absurd h.symm h1
        · exact h
  refine ⟨⟨hI.ext.ext.trans e, fun k hk => (hlow k hk).trans (hI.ext.low k hk)⟩, by simpa using hI.size, ?_, ?_, hle, ?_, ?_, ?_, hr, hs, hold, ?_, hels, hfree, ?_, hnext⟩
  · intro j oj hj hl m hm
    rcases (hD j).mp hl with rfl | h1
    · rw [ho] at hj; cases hj
      exact (hD m).mpr (.inr (hw m hm))
    · exact (hD m).mpr (.inr (hI.closed j oj hj h1 m hm))
  · intro l x hx
    rw [hD]
    exact heffs l x hx
  · cases hd : o.dst with
    | none => exact hI.defers
    | some d => exact hI.defers
  · cases hd : o.dst with
    | none => exact hI.tmps
    | some d => simpa [Act.put] using hI.tmps
  · intro s y hy
    have hD' : ∀ k, k < ops.size → (fun k => (listed.setIfInBounds i true).getD k true) k = ((fun k => listed.getD k true) k || Nat.beq k i) := by
      intro k hk
      rw [Bool.eq_iff_iff]
      simp only [Bool.or_eq_true, Nat.beq_eq]
      rw [hD]
      exact or_comm
    rw [slotD_put hc ho hD']
    cases hd : o.dst with
    | none =>
      rw [hd] at hy
      rw [if_neg (by simp)]
      exact (hI.slot s y hy).ext e
    | some d =>
      rw [hd] at hy
      simp only [Act.put] at hy
      rw [Array.getElem?_setIfInBounds] at hy
      by_cases h1 : d = s
      · rw [if_pos h1] at hy
        rw [if_pos (by rw [h1])]
        split at hy
        · cases hy; exact hv
        · cases hy
      · rw [if_neg h1] at hy
        rw [if_neg (by intro h2; exact h1 (Option.some.inj h2))]
        exact (hI.slot s y hy).ext e
  · intro j c e' sl h1 h2 h3
    exact hown j c e' sl h1 ((hD j).mp h2) h3
  · intro j hj h1
    have hne : j ≠ i := fun h2 => by rw [(hD j).mpr (.inl h2)] at h1; cases h1
    have hnl : listed.getD j true = false := by
      cases h3 : listed.getD j true with
      | false => rfl
      | true => rw [(hD j).mpr (.inr h3)] at h1; cases h1
    exact hresv j hj hne hnl

theorem chkC_get {l : List Nat} (h : chkC ms l = true) : ∀ (j k a b : Nat), j < k → l[j]? = some a → l[k]? = some b → ∃ m c, l[m]? = some c ∧ j ≤ m ∧ m + 1 = k ∧ befB ms b c = true := by
  intro j k a b hjk ha hb
  have gen : ∀ (l : List Nat), chkC ms l = true → ∀ m x y, l[m]? = some x → l[m + 1]? = some y → befB ms y x = true := by
    intro l
    induction l with
    | nil => intro _ m x y h; simp at h
    | cons p r ih =>
      intro h m x y hx hy
      cases r with
      | nil => simp at hy
      | cons q r =>
        simp only [chkC, Bool.and_eq_true] at h
        cases m with
        | zero => simp at hx hy; subst hx; subst hy; exact h.1
        | succ m => exact ih h.2 m x y (by simpa using hx) (by simpa using hy)
  have hk : k - 1 < l.length := by have := (List.getElem?_eq_some_iff.1 hb).1; omega
  exact ⟨k - 1, l[k - 1], List.getElem?_eq_some_iff.2 ⟨hk, rfl⟩, by omega, by omega, gen l h (k - 1) _ b (List.getElem?_eq_some_iff.2 ⟨hk, rfl⟩) (by rw [show k - 1 + 1 = k by omega]; exact hb)⟩

/-- The effects ahead of one that may be done are done. -/
theorem DInv.at' (hI : DInv ds P w0 μ E ops base fr C listed a W n S μ' G) (hc : chkB ops = true) (hm : chkM ops ms = true) (hcc : chkC ms C.effs = true) {i l : Nat} {o : Oper} (ho : ops[i]? = some o) (hi : listed.getD i true = false) (hw : ∀ m, waits o m = true → listed.getD m true = true) (hl : C.effs[l]? = some i) : l = n := by
  have h1 : ¬ l < n := fun h => by rw [(hI.effs l i hl).mpr h] at hi; cases hi
  have h2 : ¬ n < l := by
    intro h
    have hn : n < C.effs.length := by have := (List.getElem?_eq_some_iff.1 hl).1; omega
    obtain ⟨m, c, q1, q2, q3, q4⟩ := chkC_get hcc n l _ i h (List.getElem?_eq_some_iff.2 ⟨hn, rfl⟩) hl
    have h3 := bef_listed hm hc hI.closed i o c ho hw q4
    have := (hI.effs m c q1).mp h3
    omega
  omega

theorem DInv.cond (hI : DInv ds P w0 μ E ops base fr C listed a W n S μ' G) (hc : chkB ops = true) (hm : chkM ops ms = true) (hlt : ∀ (l e : Nat), C.effs[l]? = some e → e < ops.size) {i : Nat} {o : Oper} (ho : ops[i]? = some o) (hi : listed.getD i true = false) (hw : ∀ m, waits o m = true → listed.getD m true = true) :
    (C.effs.take n).all (fun e => !befB ms e i) = true ∧ condB ms C.effs i n = true := by
  have h1 : (C.effs.take n).all (fun e => !befB ms e i) = true := by
    refine List.all_eq_true.mpr fun e he => ?_
    obtain ⟨l, hl⟩ := List.getElem?_of_mem he
    rw [List.getElem?_take] at hl
    split at hl
    · rename_i hln
      cases hb : befB ms e i with
      | false => rfl
      | true =>
        exfalso
        have hes := hlt l e hl
        have hle := (hI.effs l e hl).mpr hln
        have := bef_listed hm hc hI.closed e ops[e] i (Array.getElem?_eq_some_iff.2 ⟨hes, rfl⟩) (fun m hm2 => hI.closed e _ (Array.getElem?_eq_some_iff.2 ⟨hes, rfl⟩) hle m hm2) hb
        rw [hi] at this; cases this
    · cases hl
  refine ⟨h1, ?_⟩
  unfold condB
  rw [h1, Bool.true_and]
  refine List.all_eq_true.mpr fun e he => ?_
  obtain ⟨l, hl⟩ := List.getElem?_of_mem he
  rw [List.getElem?_drop] at hl
  cases hb : befB ms i e with
  | false => rfl
  | true =>
    exfalso
    have := bef_listed hm hc hI.closed i o e ho hw hb
    have := (hI.effs (n + l) e hl).mp this
    omega

/-- The checks of a region. -/
structure DChk (P : Program) (ng : Nat) (call : CallF) (ops : Array Oper) (base : Nat) (ms : List Nat) (fr : List Value) (C : DCert) : Prop where
  b : chkB ops = true
  m : chkM ops ms = true
  d : dstB fr.length ops = true
  e : C.effs = [] ∨ (chkC ms C.effs = true ∧ ChkW P base ms ops C)
  a : chkA base ms C = true
  zero : C.frs[0]? = some fr
  recs : C.recs.length = ops.size
  hs : C.hs.length = C.effs.length + 1
  lt : ∀ (l e : Nat), C.effs[l]? = some e → e < ops.size
  inc : ∀ (l m e : Nat), C.effs[l]? = some e → C.effs[m]? = some e → l = m
  eff : ∀ (l e : Nat), C.effs[l]? = some e → ∃ v, C.recs[e]? = some (.eff v)
  val : ∀ (j : Nat), j < ops.size → Val1 P ng call ops base ms C j

theorem DChk.chain (h : DChk P ng call ops base ms fr C) : chkC ms C.effs = true := by
  rcases h.e with h1 | h1
  · rw [h1]; rfl
  · exact h1.1

theorem HR.some_of (h : HR P w0 μ G W) {k : Nat} {o : AObj} (hk : G k = some o) (hd : o ≠ .dead) : ∃ l, μ k = some l := by
  cases o with
  | row c e => obtain ⟨l, _, _, h1, _⟩ := h.row k c e hk; exact ⟨l, h1⟩
  | ro c e => obtain ⟨l, h1, _⟩ := h.ro k c e hk; exact ⟨l, h1⟩
  | map es cl => obtain ⟨l, _, h1, _⟩ := h.mp k es cl hk; exact ⟨l, h1⟩
  | dead => exact absurd rfl hd

set_option maxHeartbeats 1000000 in
/-- One operation that may be done. -/
theorem DInv.step (hN : NoNum P) (hcall : ∀ f args H v H', call f args H = some (v, H') → CallOk P ng f args H v H') (hk : DChk P ng call ops base ms fr C) (hg : Glob μ ng) (hI : DInv ds P w0 μ E ops base fr C listed a W n S μ' G)
    {i : Nat} {o : Oper} (ho : ops[i]? = some o) (hi : listed.getD i true = false) (hw : ∀ m, waits o m = true → listed.getD m true = true) {Q : Exit → Act → World → Prop} {K : Act → World → Prop}
    (hK : ∀ a' W' n' S' μ2 G2, DInv ds P w0 μ E ops base fr C (listed.setIfInBounds i true) a' W' n' S' μ2 G2 → K a' W') : wpOp P ops Q i K a W := by
  have hlt : i < ops.size := (Array.getElem?_eq_some_iff.1 ho).1
  obtain ⟨o', f, rec, q1, q2, q3, q4, q5⟩ := hk.val i hlt
  rw [ho] at q1; cases q1
  obtain ⟨f', r1, r2, r3⟩ := frs_slot hk.b hk.d hk.zero hk.val i (by omega)
  rw [q2] at r1; cases r1
  obtain ⟨hops, hwant⟩ := hI.ev hg ho r2 r3 hk.b hi hw
  have hrec : (C.recs.getD i .off) = rec := by simp [List.getD_eq_getElem?_getD, q3]
  have hmask : ∀ k, (ms.getD i 0).testBit k = true → listed.getD k true = true := fun k hb => bef_listed hk.m hk.b hI.closed i o k ho hw hb
  have hsee := hI.see (mask := ms.getD i 0) (i := i) hmask
  have hnoeff : (∀ v, rec ≠ .eff v) → ∀ (l x : Nat), C.effs[l]? = some x → ((x = i ∨ listed.getD x true = true) ↔ l < n) := by
    intro hne l x hx
    rw [← hI.effs l x hx]
    constructor
    · rintro (rfl | h)
      · obtain ⟨v, hv⟩ := hk.eff l x hx
        rw [q3] at hv; cases hv
        exact absurd rfl (hne v)
      · exact h
    · exact fun h => .inr h
  unfold wpOp
  simp only [ho]
  rw [hwant]
  rcases q5 with ⟨rfl, q5⟩ | ⟨q5, q6, q7⟩
  · -- it is not wanted
    rw [q5, if_neg (by simp)]
    refine hK _ _ n S μ' G (hI.next' hk.b ho hw (Ext.refl _) (fun _ _ => rfl) (by rw [hrec]; exact VR.undef) (hnoeff (fun v h => by cases h)) hI.le hI.hr hI.heap hI.old ?_ hI.els hI.free (fun j h1 _ h3 => hI.resv j h1 h3) hI.next)
    intro j c e sl h1 h2 h3
    rcases h2 with rfl | h2
    · rw [q3] at h1; cases h1
    · exact hI.own j c e sl h1 h2 h3
  · rw [q5, if_pos rfl]
    left
    have hρ : OpsR μ' o (aev f) a.eval := fun x hx => by
      rw [Array.all_eq_true_iff_forall_mem] at q6
      exact hops x hx (q6 x hx)
    rcases q7 with ⟨v, l, S0, rfl, s1, s2, s3⟩ | ⟨c, e, sl, G0, rfl, s1⟩ | ⟨v, l, S0, S', res, rfl, s1, s2, s3, s4, s5, s6⟩
    · -- a value
      have hval : ∃ v2, v2 = v ∧ aop P G o (aev f) = some (.val v2) := by
        cases hnH : needsH o (aev f) with
        | false => exact ⟨v, rfl, by rw [← s3]; exact aop_noH hnH⟩
        | true =>
          rcases hk.e with h1 | ⟨_, h1⟩
          · have hl0 : l = 0 := by rw [h1] at s1; simpa using s1
            have hn0 : n = 0 := by have := hI.le; rw [h1] at this; simpa using this
            subst hl0; subst hn0
            have := hI.heap
            rw [s2] at this; cases this
            exact ⟨v, rfl, aop_mono hsee s3⟩
          · exact ⟨v, rfl, aop_mono hsee (h1 i o f v n S ho q2 q3 hnH (by have := hI.le; omega) (hI.cond hk.b hk.m hk.lt ho hi hw).2 hI.heap)⟩
      obtain ⟨_, rfl, hval⟩ := hval
      obtain ⟨v', W', t1, t2, t3⟩ := aop_ok hval hρ hI.hr
      unfold Oper.wp
      rw [t1, Oper.upon_value]
      refine hK _ _ n S μ' G (hI.next' hk.b ho hw (Ext.refl _) (fun _ _ => rfl) (by rw [hrec]; exact t2) (hnoeff (fun v h => by cases h)) hI.le t3 hI.heap hI.old ?_ hI.els hI.free (fun j h1 _ h3 => hI.resv j h1 h3) hI.next)
      intro j c e sl h1 h2 h3
      rcases h2 with rfl | h2
      · rw [q3] at h1; cases h1
      · exact hI.own j c e sl h1 h2 h3
    · -- a new block
      have hno := hI.resv i hlt hi
      obtain ⟨v', W', l, t1, t2, t3⟩ := aop_ok (aop_alloc (G' := G) s1) hρ hI.hr (base + i) hno
      have hSn : S.get (base + i) = none := by
        have h1 := List.all_eq_true.mp hk.a i (List.mem_range.mpr (by rw [hk.recs]; exact hlt))
        simp only [q3] at h1
        have h3 := List.all_eq_true.mp h1 n (List.mem_range.mpr (by have := hI.le; omega))
        rw [(hI.cond hk.b hk.m hk.lt ho hi hw).1] at h3
        simp only [hI.heap] at h3
        simpa using h3
      unfold Oper.wp
      rw [t1, Oper.upon_value]
      refine hK _ _ n S _ _ (hI.next' hk.b ho hw (upd_ext hno) (fun k h1 => upd_ne (by omega)) (by rw [hrec]; exact t2) (hnoeff (fun v h => by cases h)) hI.le t3 hI.heap ?_ ?_ ?_ ?_ ?_ hI.next)
      · intro k o2 h1
        by_cases hkk : k = base + i
        · rw [hkk, hSn] at h1; cases h1
        · rw [upd_ne hkk]; exact hI.old k o2 h1
      · intro j c' e' sl' h1 h2 h3
        by_cases hji : j = i
        · subst hji
          rw [q3] at h1; cases h1
          exact upd_same _ _ _
        · rw [upd_ne (by omega)]
          exact hI.own j c' e' sl' h1 (h2.resolve_left hji) h3
      · intro k o2 h1 h2 h3
        by_cases hkk : k = base + i
        · exfalso
          rw [hkk] at h1 h2
          obtain ⟨l', hl'⟩ := hI.hr.some_of (hI.els _ o2 h1 h2 h3) h3
          rw [hno] at hl'; cases hl'
        · rw [upd_ne hkk]; exact hI.els k o2 h1 h2 h3
      · intro k h1
        rw [upd_ne (by have := hI.next; omega)]
        exact hI.free k h1
      · intro j h1 h2 h3
        rw [upd_ne (by omega)]
        exact hI.resv j h1 h3
    · -- an effect
      have hln := hI.at' hk.b hk.m hk.chain ho hi hw s1
      subst hln
      have := hI.heap
      rw [s2] at this; cases this
      have hov : ov (addA base (ms.getD i 0) (C.recs.take i) 0 S) G = G := by
        funext k
        unfold ov
        split
        · rename_i o2 h1; exact (hsee k o2 h1).symm
        · rfl
      have hdom := applyR_dom hcall s6
      have hback : ∀ k, S'.get k = none → S.get k = none := by
        intro k h1
        cases h2 : S.get k with
        | none => rfl
        | some o2 =>
          obtain ⟨o3, h3⟩ := hdom.get k o2 (addA_old _ _ _ _ _ _ _ h2)
          rw [h1] at h3; cases h3
      have hnx : (addA base (ms.getD i 0) (C.recs.take i) 0 S).next = S.next := addA_next _ _ _ _ _
      refine stepP (E := G) hN hcall hρ s5 s6 (by rw [hnx]; exact hI.free) (hg.ext hI.ext.ext) (by rw [hov]; exact hI.hr) fun μ2 v' W' e1 e2 e3 e4 => ?_
      have hnn := hdom.next
      rw [hnx] at hnn e1
      have hll : l < C.effs.length := (List.getElem?_eq_some_iff.1 s1).1
      refine hK _ _ (l + 1) S' μ2 (ov S' G) (hI.next' hk.b ho hw e1.ext (fun k h1 => e1.low k (by have := hI.next; omega)) (by rw [hrec]; exact e2) ?_ (by omega) e4 s3 (LeG.ov S' G) ?_ ?_ e3 ?_ (by have := hI.next; omega))
      · intro m x hx
        constructor
        · rintro (rfl | h)
          · rcases Nat.lt_or_ge l m with h1 | h1
            · exfalso
              obtain ⟨p, c, z1, z2, z3, z4⟩ := chkC_get hk.chain l m x x h1 s1 hx
              have h3 := bef_listed hk.m hk.b hI.closed x o c ho hw z4
              have := (hI.effs p c z1).mp h3
              omega
            · omega
          · have := (hI.effs m x hx).mp h; omega
        · intro h
          by_cases hml : m = l
          · subst hml; rw [s1] at hx; cases hx; exact .inl rfl
          · exact .inr ((hI.effs m x hx).mpr (by omega))
      · intro j c e sl h1 h2 h3
        rcases h2 with rfl | h2
        · rw [q3] at h1; cases h1
        · have := hI.own j c e sl h1 h2 (hback _ h3)
          simp only [ov, h3]
          exact this
      · intro k o2 h1 h2 h3
        have := hI.els k o2 (hback k h1) h2 h3
        simp only [ov, h1]
        exact this
      · intro j h1 h2 h3
        rw [e1.low _ (by have := hI.next; omega)]
        exact hI.resv j h1 h3
end
end Go.Proofs.Ytdcojinnjpihaaa.X
