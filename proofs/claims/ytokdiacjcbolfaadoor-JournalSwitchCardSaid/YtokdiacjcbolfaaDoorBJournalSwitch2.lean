import Derived.Defers
import Derived.Laws.LoneSync
import Derived.Lib.Repeat
import Derived.Recover
import Derived.Shelf.Bits.Mul64
import Derived.Shelf.Small.Strs
import Derived.Shelf.Small.Utf8
import Derived.Shelf.Strings.AsciiSet
import Derived.Shelf.Strings.Builder1
import Derived.Shelf.Strings.Builder2
import Derived.Shelf.Strings.BuilderF
import Derived.Shelf.Strings.Prefix
import Derived.Shelf.Strings.Repeat
import Derived.Shelf.Strings.Runes
import Derived.Shelf.Strings.Search1
import Derived.Shelf.Strings.Trim
import Derived.Shelf.Unicode.Decode
import Derived.Shelf.Unicode.DecodeAny
import Derived.Shelf.Unicode.DecodeLast
import Derived.Shelf.Unicode.DecodeSlow
import Derived.Test.YtokdiacjcbolfaaDoorProg
import Derived.Test.YtokdiacjcbolfaaDoorBJournalSwitch1
set_option linter.unusedVariables false
set_option linter.unusedSimpArgs false
namespace Go.Proofs.YtokdiacjcbolfaaDoor.X
open Go Go.RowKit
def wr (ops : Array Oper) (k s : Nat) : Bool := match (ops[k]?).bind (·.dst) with
 | some d => Nat.beq d s
 | none => false
noncomputable def slotD (ops : Array Oper) (base : Nat) (recs : List DRec) (fr : List Value) (D : Nat → Bool) (s : Nat) : Value := match (List.range ops.size).find? (fun k => D k && wr ops k s) with
 | some k => (recs.getD k .off).value base k
 | none => frget fr s
section
variable {ds : List Deferred} {P : Program} {ng : Nat} {call : CallF} {ops : Array Oper} {base : Nat} {ms : List Nat} {recs : List DRec} {fr : List Value}
theorem wr_spec {k s : Nat} (h : wr ops k s = true) : ∃ o, ops[k]? = some o ∧ o.dst = some s ∧ k < ops.size := by
 unfold wr at h
 cases ho : ops[k]? with
 | none => simp [ho] at h
 | some o =>
  simp only [ho, Option.bind_some] at h
  cases hd : o.dst with
  | none => simp [hd] at h
  | some d =>
   simp only [hd] at h
   exact ⟨o, rfl, by rw [hd, Nat.eq_of_beq_eq_true h], (Array.getElem?_eq_some_iff.1 ho).1⟩
theorem wr_of {k s : Nat} {o : Oper} (ho : ops[k]? = some o) (hd : o.dst = some s) : wr ops k s = true := by
 unfold wr
 simp [ho, hd]
theorem wr_uniq (hc : chkB ops = true) {k k' s : Nat} (h : wr ops k s = true) (h' : wr ops k' s = true) : k = k' := by
 obtain ⟨o, ho, hd, _⟩ := wr_spec h
 obtain ⟨o', ho', hd', _⟩ := wr_spec h'
 rcases Nat.decEq k k' with hne | he
 ·exact absurd hd (((q1q hc ho).2 k' o' s ho' hd').1 hne)
 ·exact he
theorem q2s (hc : chkB ops = true) {D : Nat → Bool} {k s : Nat} (hD : D k = true) (hw : wr ops k s = true) : slotD ops base recs fr D s = (recs.getD k .off).value base k := by
 unfold slotD
 obtain ⟨_, _, _, hlt⟩ := wr_spec hw
 cases hf : (List.range ops.size).find? (fun k => D k && wr ops k s) with
 | none =>
  have := List.find?_eq_none.mp hf k (List.mem_range.mpr hlt)
  simp [hD, hw] at this
 | some k' =>
  have h1 := List.find?_some hf
  simp only [Bool.and_eq_true] at h1
  rw [wr_uniq hc h1.2 hw]
theorem q2n {D : Nat → Bool} {s : Nat} (h : ∀ k, D k = true → wr ops k s = false) : slotD ops base recs fr D s = frget fr s := by
 unfold slotD
 have hf : (List.range ops.size).find? (fun k => D k && wr ops k s) = none := by
  refine List.find?_eq_none.mpr fun k _ => ?_
  cases hD : D k with
  | false => simp
  | true => simp [h k hD]
 rw [hf]
theorem slotD_put (hc : chkB ops = true) {D D' : Nat → Bool} {i s : Nat} {o : Oper} (ho : ops[i]? = some o) (hD' : ∀ k, k < ops.size → D' k = (D k || Nat.beq k i)) :
  slotD ops base recs fr D' s = if o.dst = some s then (recs.getD i .off).value base i else slotD ops base recs fr D s := by
 have hi : i < ops.size := (Array.getElem?_eq_some_iff.1 ho).1
 by_cases hd : o.dst = some s
 ·rw [if_pos hd]
  exact q2s hc (by rw [hD' i hi]; simp) (wr_of ho hd)
 ·rw [if_neg hd]
  by_cases hk : ∃ k, D k = true ∧ wr ops k s = true
  ·obtain ⟨k, hk1, hk2⟩ := hk
   obtain ⟨_, _, _, hlt⟩ := wr_spec hk2
   rw [q2s hc hk1 hk2, q2s hc (by rw [hD' k hlt, hk1]; rfl) hk2]
  ·rw [q2n (D := D) fun k hDk => by
    cases hw : wr ops k s with
    | false => rfl
    | true => exact absurd ⟨k, hDk, hw⟩ hk]
   refine q2n fun k hDk => ?_
   cases hw : wr ops k s with
   | false => rfl
   | true =>
    exfalso
    obtain ⟨o', ho', hd', hlt⟩ := wr_spec hw
    rw [hD' k hlt] at hDk
    simp only [Bool.or_eq_true] at hDk
    rcases hDk with h1 | h1
    ·exact hk ⟨k, h1, hw⟩
    ·rw [Nat.eq_of_beq_eq_true h1, ho] at ho'
     cases ho'
     exact hd hd'
theorem frget_put {f : List Value} {d : Nat} (hd : d < f.length) (v : Value) (s : Nat) : frget (f.set d v) s = if d = s then v else frget f s := by
 simp only [frget_eq]
 rw [List.getElem?_set]
 by_cases e : d = s
 ·rw [if_pos e, if_pos e, if_pos hd]; rfl
 ·rw [if_neg e, if_neg e]
theorem frs_slot (hc : chkB ops = true) (hdst : dstB fr.length ops = true) {C : DCert} (h0 : C.frs[0]? = some fr) (hv : ∀ j, j < ops.size → Val1 P ng call ops base ms C j) : ∀ i, i ≤ ops.size → ∃ f, C.frs[i]? = some f ∧ f.length = fr.length ∧ ∀ s, frget f s = slotD ops base C.recs fr (fun k => Nat.blt k i) s := by
 intro i
 induction i with
 | zero =>
  intro _
  refine ⟨fr, h0, rfl, fun s => ?_⟩
  rw [q2n]
  intro k hk
  exact absurd (Nat.le_of_ble_eq_true hk) (by omega)
 | succ i ih =>
  intro hi
  obtain ⟨f, h1, h2, h3⟩ := ih (by omega)
  obtain ⟨o, f', rec, q1, q2, q3, q4, _⟩ := hv i (by omega)
  rw [h1] at q2; cases q2
  refine ⟨_, q4, ?_, fun s => ?_⟩
  ·rw [fput_eq]; split <;> simp [h2]
  ·have hD' : ∀ k, k < ops.size → Nat.blt k (i + 1) = (Nat.blt k i || Nat.beq k i) := by
    intro k _
    rw [Bool.eq_iff_iff]
    simp only [Nat.blt_eq, Bool.or_eq_true, Nat.beq_eq]
    omega
   rw [slotD_put hc q1 hD']
   have hrec : (C.recs.getD i .off) = rec := by simp [List.getD_eq_getElem?_getD, q3]
   rw [hrec]
   cases hd : o.dst with
   | none => simp [fput_eq, h3]
   | some d =>
    have hdl : d < f.length := by
     rw [h2]
     unfold dstB at hdst
     rw [Array.all_eq_true_iff_forall_mem] at hdst
     have := hdst o (Array.mem_of_getElem? q1)
     simp only [hd] at this
     exact Nat.le_of_ble_eq_true this
    simp only [fput_eq]
    rw [frget_put hdl, h3]
    simp
theorem slotD_see (hc : chkB ops = true) {D : Nat → Bool} (hD : Closed ops D) {i s : Nat} {o : Oper} (ho : ops[i]? = some o) (hi : D i = false) (hw : ∀ m, waits o m = true → D m = true) (hs : s ∈ o.looksAt ops) :
  slotD ops base recs fr D s = slotD ops base recs fr (fun k => Nat.blt k i) s := by
 have ahead : ∀ k, waits o k = true → k < i := by
  intro k hk
  unfold waits at hk
  obtain ⟨e, he, hbe⟩ := Array.any_eq_true'.mp hk
  simp only [Bool.and_eq_true] at hbe
  have := (q1q hc ho).1 e he hbe.1
  rw [Nat.eq_of_beq_eq_true hbe.2] at this
  exact this
 have iff : ∀ k, wr ops k s = true → (D k = true ↔ Nat.blt k i = true) := by
  intro k hk
  obtain ⟨ok, hok, hdk, _⟩ := wr_spec hk
  rcases ((q1q hc ho).2 k ok s hok hdk).2 hs with h1 | h1
  ·exact ⟨fun _ => Nat.ble_eq_true_of_le (ahead k h1), fun _ => hw k h1⟩
  ·constructor
   ·intro h2
    have := hD k ok hok h2 i h1
    rw [hi] at this; cases this
   ·intro h2
    exfalso
    unfold waits at h1
    obtain ⟨e, he, hbe⟩ := Array.any_eq_true'.mp h1
    simp only [Bool.and_eq_true] at hbe
    have h3 := (q1q hc hok).1 e he hbe.1
    rw [Nat.eq_of_beq_eq_true hbe.2] at h3
    have h4 : k < i := Nat.le_of_ble_eq_true h2
    omega
 by_cases hk : ∃ k, D k = true ∧ wr ops k s = true
 ·obtain ⟨k, hk1, hk2⟩ := hk
  rw [q2s hc (D := D) hk1 hk2, q2s hc (D := fun k => Nat.blt k i) (k := k) ((iff k hk2).mp hk1) hk2]
 ·have n1 : ∀ k, D k = true → wr ops k s = false := fun k hDk => by
   cases hw2 : wr ops k s with
   | false => rfl
   | true => exact absurd ⟨k, hDk, hw2⟩ hk
  have n2 : ∀ k, Nat.blt k i = true → wr ops k s = false := fun k hlt => by
   cases hw2 : wr ops k s with
   | false => rfl
   | true => exact absurd ⟨k, (iff k hw2).mpr hlt, hw2⟩ hk
  rw [q2n (D := D) n1, q2n (D := fun k => Nat.blt k i) n2]
end
structure DInv (ds : List Deferred) (P : Program) (w0 : World) (μ : Nat → Option Loc) (E : Nat → Option AObj) (ops : Array Oper) (base : Nat) (fr : List Value) (C : DCert) (listed : Array Bool) (a : Act) (W : World) (n : Nat) (S : Heap) (μ' : Nat → Option Loc) (G : Nat → Option AObj) : Prop where
 ext : ExtN base μ μ'
 size : listed.size = ops.size
 closed : Closed ops (fun k => listed.getD k true)
 effs : ∀ (l e : Nat), C.effs[l]? = some e → (listed.getD e true = true ↔ l < n)
 le : n ≤ C.effs.length
 defers : a.defers = ds
 tmps : a.tmps.size = fr.length
 slot : ∀ (s : Nat) (y : Value), a.tmps[s]? = some y → VR μ' (slotD ops base C.recs fr (fun k => listed.getD k true) s) y
 hr : HR P w0 μ' G W
 heap : C.hs[n]? = some S
 old : LeG S.get G
 own : ∀ (i : Nat) (c : List Value) (e : Nat × Bool) (sl : Option (Nat × Nat)), C.recs[i]? = some (.alloc c e sl) → listed.getD i true = true → S.get (base + i) = none → G (base + i) = some (.row c e)
 els : ∀ (k : Nat) (o : AObj), S.get k = none → E k = some o → o ≠ .dead → G k = some o
 free : Free μ' S.next
 resv : ∀ i, i < ops.size → listed.getD i true = false → μ' (base + i) = none
 next : base + ops.size ≤ S.next
section
variable {ds : List Deferred} {P : Program} {ng : Nat} {call : CallF} {w0 W : World} {μ μ' : Nat → Option Loc} {E G : Nat → Option AObj} {ops : Array Oper} {base : Nat} {fr : List Value} {C : DCert} {listed : Array Bool} {a : Act} {n : Nat} {S : Heap} {ms : List Nat}
theorem DInv.see (hI : DInv ds P w0 μ E ops base fr C listed a W n S μ' G) {mask i : Nat} (hm : ∀ k, mask.testBit k = true → listed.getD k true = true) : LeG (addA base mask (C.recs.take i) 0 S).get G := by
 intro k o hk
 rcases addA_get base mask _ _ _ _ _ hk with h1 | ⟨h0, j, c, e, sl, h1, h2, h3, h4⟩
 ·exact hI.old k o h1
 ·rw [Nat.zero_add] at h2 h3
  have h5 : C.recs[j]? = some (.alloc c e sl) := by
   rw [List.getElem?_take] at h1
   split at h1
   ·exact h1
   ·cases h1
  subst h3; subst h4
  exact hI.own j c e sl h5 (hm j h2) h0
theorem DInv.ev (hI : DInv ds P w0 μ E ops base fr C listed a W n S μ' G) (hg : Glob μ ng) {f : List Value} {i : Nat} {o : Oper} (ho : ops[i]? = some o) (hfl : f.length = fr.length) (hf : ∀ s, frget f s = slotD ops base C.recs fr (fun k => Nat.blt k i) s) (hc : chkB ops = true) (hi : listed.getD i true = false)
  (hw : ∀ m, waits o m = true → listed.getD m true = true) : (∀ x ∈ o.op.operands, opd1 ng x = true → VR μ' (aev f x) (a.eval x)) ∧ Region.wanted o (yielded ops a.tmps) = awant ops f o := by
 have see : ∀ s, s ∈ o.looksAt ops → ∀ y, a.tmps[s]? = some y → VR μ' (frget f s) y := by
  intro s hs y hy
  rw [hf s, ← slotD_see hc hI.closed ho hi hw hs]
  exact hI.slot s y hy
 constructor
 ·intro x hx h1
  cases x with
  | tmp t =>
   simp only [aev, Act.eval, Array.getD_eq_getD_getElem?]
   cases hy : a.tmps[t]? with
   | none =>
    have : f[t]? = none := by
     rw [Array.getElem?_eq_none_iff, hI.tmps] at hy
     rw [List.getElem?_eq_none_iff]
     omega
    simp only [frget_eq, this]
    exact VR.undef
   | some y =>
    refine see t ?_ y hy
    exact List.mem_append_left _ (List.mem_filterMap.2 ⟨.tmp t, by simpa using hx, rfl⟩)
  | const v => exact q1w h1
  | global g =>
   obtain ⟨l, q1, q2, q3⟩ := (hg.ext hI.ext.ext) g (Nat.le_of_ble_eq_true h1)
   have := VR.ptr (μ := μ') (k := g) (o := 0) q1
   rw [q2, q3] at this
   exact this
  | func f => exact .func rfl (fun i x y hx => by simp at hx) rfl (fun i x y hx => by simp at hx)
 ·unfold Region.wanted awant
  cases hgd : o.guard with
  | none => rfl
  | some q =>
   obtain ⟨j, want⟩ := q
   simp only
   have hy : yielded ops a.tmps j = ayield ops f j := by
    unfold yielded ayield
    cases hd : (ops[j]?).bind (·.dst) with
    | none => rfl
    | some d =>
     simp only [Option.bind_some]
     have hdl : d ∈ o.looksAt ops := by
      unfold Oper.looksAt
      refine List.mem_append_right _ ?_
      simp only [hgd, hd]
      simp
     cases hy : a.tmps[d]? with
     | none =>
      have : f[d]? = none := by
       rw [Array.getElem?_eq_none_iff, hI.tmps] at hy
       rw [List.getElem?_eq_none_iff]
       omega
      rw [this]
     | some y =>
      have h1 := see d hdl y hy
      have hlt : d < f.length := by rw [hfl, ← hI.tmps]; exact (Array.getElem?_eq_some_iff.1 hy).1
      have h2 : f[d]? = some f[d] := List.getElem?_eq_some_iff.2 ⟨hlt, rfl⟩
      simp only [frget_eq, h2, Option.getD_some] at h1
      rw [h2]
      generalize f[d] = x at h1
      cases h1 <;> rfl
   rw [hy]
   cases ayield ops f j with
   | none => rfl
   | some b => cases b <;> cases want <;> rfl
theorem DInv.next' (hI : DInv ds P w0 μ E ops base fr C listed a W n S μ' G) (hc : chkB ops = true) {i : Nat} {o : Oper} (ho : ops[i]? = some o) (hw : ∀ m, waits o m = true → listed.getD m true = true)
  {μ2 : Nat → Option Loc} {G2 : Nat → Option AObj} {W2 : World} {n2 : Nat} {S2 : Heap} {v' : Value} (e : Ext μ' μ2) (hlow : ∀ k, k < base → μ2 k = μ' k) (hv : VR μ2 ((C.recs.getD i .off).value base i) v') (heffs : ∀ (l x : Nat), C.effs[l]? = some x → ((x = i ∨ listed.getD x true = true) ↔ l < n2)) (hle : n2 ≤ C.effs.length)
  (hr : HR P w0 μ2 G2 W2) (hs : C.hs[n2]? = some S2) (hold : LeG S2.get G2) (hown : ∀ (j : Nat) (c : List Value) (e : Nat × Bool) (sl : Option (Nat × Nat)), C.recs[j]? = some (.alloc c e sl) → (j = i ∨ listed.getD j true = true) → S2.get (base + j) = none → G2 (base + j) = some (.row c e))
  (hels : ∀ (k : Nat) (o : AObj), S2.get k = none → E k = some o → o ≠ .dead → G2 k = some o) (hfree : Free μ2 S2.next) (hresv : ∀ j, j < ops.size → j ≠ i → listed.getD j true = false → μ2 (base + j) = none) (hnext : base + ops.size ≤ S2.next) :
  DInv ds P w0 μ E ops base fr C (listed.setIfInBounds i true) (a.put o.dst v') W2 n2 S2 μ2 G2 := by
 have hlt : i < ops.size := (Array.getElem?_eq_some_iff.1 ho).1
 have hli : i < listed.size := by rw [hI.size]; exact hlt
 have hD : ∀ j, (listed.setIfInBounds i true).getD j true = true ↔ (j = i ∨ listed.getD j true = true) := by
  intro j
  rw [q16 hli]
  by_cases h1 : i = j
  ·rw [if_pos h1]; simp [h1]
  ·rw [if_neg h1]
   constructor
   ·exact fun h => .inr h
   ·rintro (h | h)
    ·exact absurd h.symm h1
    ·exact h
 refine ⟨⟨hI.ext.ext.trans e, fun k hk => (hlow k hk).trans (hI.ext.low k hk)⟩, by simpa using hI.size, ?_, ?_, hle, ?_, ?_, ?_, hr, hs, hold, ?_, hels, hfree, ?_, hnext⟩
 ·intro j oj hj hl m hm
  rcases (hD j).mp hl with rfl | h1
  ·rw [ho] at hj; cases hj
   exact (hD m).mpr (.inr (hw m hm))
  ·exact (hD m).mpr (.inr (hI.closed j oj hj h1 m hm))
 ·intro l x hx
  rw [hD]
  exact heffs l x hx
 ·cases hd : o.dst with
  | none => exact hI.defers
  | some d => exact hI.defers
 ·cases hd : o.dst with
  | none => exact hI.tmps
  | some d => simpa [Act.put] using hI.tmps
 ·intro s y hy
  have hD' : ∀ k, k < ops.size → (fun k => (listed.setIfInBounds i true).getD k true) k = ((fun k => listed.getD k true) k || Nat.beq k i) := by
   intro k hk
   rw [Bool.eq_iff_iff]
   simp only [Bool.or_eq_true, Nat.beq_eq]
   rw [hD]
   exact or_comm
  rw [slotD_put hc ho hD']
  cases hd : o.dst with
  | none =>
   rw [hd] at hy
   rw [if_neg (by simp)]
   exact (hI.slot s y hy).ext e
  | some d =>
   rw [hd] at hy
   simp only [Act.put] at hy
   rw [Array.getElem?_setIfInBounds] at hy
   by_cases h1 : d = s
   ·rw [if_pos h1] at hy
    rw [if_pos (by rw [h1])]
    split at hy
    ·cases hy; exact hv
    ·cases hy
   ·rw [if_neg h1] at hy
    rw [if_neg (by intro h2; exact h1 (Option.some.inj h2))]
    exact (hI.slot s y hy).ext e
 ·intro j c e' sl h1 h2 h3
  exact hown j c e' sl h1 ((hD j).mp h2) h3
 ·intro j hj h1
  have hne : j ≠ i := fun h2 => by rw [(hD j).mpr (.inl h2)] at h1; cases h1
  have hnl : listed.getD j true = false := by
   cases h3 : listed.getD j true with
   | false => rfl
   | true => rw [(hD j).mpr (.inr h3)] at h1; cases h1
  exact hresv j hj hne hnl
theorem chkC_get {l : List Nat} (h : chkC ms l = true) : ∀ (j k a b : Nat), j < k → l[j]? = some a → l[k]? = some b → ∃ m c, l[m]? = some c ∧ j ≤ m ∧ m + 1 = k ∧ befB ms b c = true := by
 intro j k a b hjk ha hb
 have gen : ∀ (l : List Nat), chkC ms l = true → ∀ m x y, l[m]? = some x → l[m + 1]? = some y → befB ms y x = true := by
  intro l
  induction l with
  | nil => intro _ m x y h; simp at h
  | cons p r ih =>
   intro h m x y hx hy
   cases r with
   | nil => simp at hy
   | cons q r =>
    simp only [chkC, Bool.and_eq_true] at h
    cases m with
    | zero => simp at hx hy; subst hx; subst hy; exact h.1
    | succ m => exact ih h.2 m x y (by simpa using hx) (by simpa using hy)
 have hk : k - 1 < l.length := by have := (List.getElem?_eq_some_iff.1 hb).1; omega
 exact ⟨k - 1, l[k - 1], List.getElem?_eq_some_iff.2 ⟨hk, rfl⟩, by omega, by omega, gen l h (k - 1) _ b (List.getElem?_eq_some_iff.2 ⟨hk, rfl⟩) (by rw [show k - 1 + 1 = k by omega]; exact hb)⟩
theorem DInv.at' (hI : DInv ds P w0 μ E ops base fr C listed a W n S μ' G) (hc : chkB ops = true) (hm : chkM ops ms = true) (hcc : chkC ms C.effs = true) {i l : Nat} {o : Oper} (ho : ops[i]? = some o) (hi : listed.getD i true = false) (hw : ∀ m, waits o m = true → listed.getD m true = true) (hl : C.effs[l]? = some i) : l = n := by
 have h1 : ¬ l < n := fun h => by rw [(hI.effs l i hl).mpr h] at hi; cases hi
 have h2 : ¬ n < l := by
  intro h
  have hn : n < C.effs.length := by have := (List.getElem?_eq_some_iff.1 hl).1; omega
  obtain ⟨m, c, q1, q2, q3, q4⟩ := chkC_get hcc n l _ i h (List.getElem?_eq_some_iff.2 ⟨hn, rfl⟩) hl
  have h3 := q3k hm hc hI.closed i o c ho hw q4
  have := (hI.effs m c q1).mp h3
  omega
 omega
theorem DInv.cond (hI : DInv ds P w0 μ E ops base fr C listed a W n S μ' G) (hc : chkB ops = true) (hm : chkM ops ms = true) (hlt : ∀ (l e : Nat), C.effs[l]? = some e → e < ops.size) {i : Nat} {o : Oper} (ho : ops[i]? = some o) (hi : listed.getD i true = false) (hw : ∀ m, waits o m = true → listed.getD m true = true) :
  (C.effs.take n).all (fun e => !befB ms e i) = true ∧ condB ms C.effs i n = true := by
 have h1 : (C.effs.take n).all (fun e => !befB ms e i) = true := by
  refine List.all_eq_true.mpr fun e he => ?_
  obtain ⟨l, hl⟩ := List.getElem?_of_mem he
  rw [List.getElem?_take] at hl
  split at hl
  ·rename_i hln
   cases hb : befB ms e i with
   | false => rfl
   | true =>
    exfalso
    have hes := hlt l e hl
    have hle := (hI.effs l e hl).mpr hln
    have := q3k hm hc hI.closed e ops[e] i (Array.getElem?_eq_some_iff.2 ⟨hes, rfl⟩) (fun m hm2 => hI.closed e _ (Array.getElem?_eq_some_iff.2 ⟨hes, rfl⟩) hle m hm2) hb
    rw [hi] at this; cases this
  ·cases hl
 refine ⟨h1, ?_⟩
 unfold condB
 rw [h1, Bool.true_and]
 refine List.all_eq_true.mpr fun e he => ?_
 obtain ⟨l, hl⟩ := List.getElem?_of_mem he
 rw [List.getElem?_drop] at hl
 cases hb : befB ms i e with
 | false => rfl
 | true =>
  exfalso
  have := q3k hm hc hI.closed i o e ho hw hb
  have := (hI.effs (n + l) e hl).mp this
  omega
structure DChk (P : Program) (ng : Nat) (call : CallF) (ops : Array Oper) (base : Nat) (ms : List Nat) (fr : List Value) (C : DCert) : Prop where
 b : chkB ops = true
 m : chkM ops ms = true
 d : dstB fr.length ops = true
 e : C.effs = [] ∨ (chkC ms C.effs = true ∧ ChkW P base ms ops C)
 a : chkA base ms C = true
 zero : C.frs[0]? = some fr
 recs : C.recs.length = ops.size
 hs : C.hs.length = C.effs.length + 1
 lt : ∀ (l e : Nat), C.effs[l]? = some e → e < ops.size
 inc : ∀ (l m e : Nat), C.effs[l]? = some e → C.effs[m]? = some e → l = m
 eff : ∀ (l e : Nat), C.effs[l]? = some e → ∃ v, C.recs[e]? = some (.eff v)
 val : ∀ (j : Nat), j < ops.size → Val1 P ng call ops base ms C j
theorem DChk.chain (h : DChk P ng call ops base ms fr C) : chkC ms C.effs = true := by
 rcases h.e with h1 | h1
 ·rw [h1]; rfl
 ·exact h1.1
theorem HR.some_of (h : HR P w0 μ G W) {k : Nat} {o : AObj} (hk : G k = some o) (hd : o ≠ .dead) : ∃ l, μ k = some l := by
 cases o with
 | row c e => obtain ⟨l, _, _, h1, _⟩ := h.row k c e hk; exact ⟨l, h1⟩
 | ro c e => obtain ⟨l, h1, _⟩ := h.ro k c e hk; exact ⟨l, h1⟩
 | map es cl => obtain ⟨l, _, h1, _⟩ := h.mp k es cl hk; exact ⟨l, h1⟩
 | dead => exact absurd rfl hd
set_option maxHeartbeats 1000000 in
theorem DInv.step (hN : NoNum P) (hcall : ∀ f args H v H', call f args H = some (v, H') → q1o P ng f args H v H') (hk : DChk P ng call ops base ms fr C) (hg : Glob μ ng) (hI : DInv ds P w0 μ E ops base fr C listed a W n S μ' G)
  {i : Nat} {o : Oper} (ho : ops[i]? = some o) (hi : listed.getD i true = false) (hw : ∀ m, waits o m = true → listed.getD m true = true) {Q : Exit → Act → World → Prop} {K : Act → World → Prop}
  (hK : ∀ a' W' n' S' μ2 G2, DInv ds P w0 μ E ops base fr C (listed.setIfInBounds i true) a' W' n' S' μ2 G2 → K a' W') : wpOp P ops Q i K a W := by
 have hlt : i < ops.size := (Array.getElem?_eq_some_iff.1 ho).1
 obtain ⟨o', f, rec, q1, q2, q3, q4, q5⟩ := hk.val i hlt
 rw [ho] at q1; cases q1
 obtain ⟨f', r1, r2, r3⟩ := frs_slot hk.b hk.d hk.zero hk.val i (by omega)
 rw [q2] at r1; cases r1
 obtain ⟨hops, hwant⟩ := hI.ev hg ho r2 r3 hk.b hi hw
 have hrec : (C.recs.getD i .off) = rec := by simp [List.getD_eq_getElem?_getD, q3]
 have hmask : ∀ k, (ms.getD i 0).testBit k = true → listed.getD k true = true := fun k hb => q3k hk.m hk.b hI.closed i o k ho hw hb
 have hsee := hI.see (mask := ms.getD i 0) (i := i) hmask
 have hnoeff : (∀ v, rec ≠ .eff v) → ∀ (l x : Nat), C.effs[l]? = some x → ((x = i ∨ listed.getD x true = true) ↔ l < n) := by
  intro hne l x hx
  rw [← hI.effs l x hx]
  constructor
  ·rintro (rfl | h)
   ·obtain ⟨v, hv⟩ := hk.eff l x hx
    rw [q3] at hv; cases hv
    exact absurd rfl (hne v)
   ·exact h
  ·exact fun h => .inr h
 unfold wpOp
 simp only [ho]
 rw [hwant]
 rcases q5 with ⟨rfl, q5⟩ | ⟨q5, q6, q7⟩
 ·
  rw [q5, if_neg (by simp)]
  refine hK _ _ n S μ' G (hI.next' hk.b ho hw (Ext.refl _) (fun _ _ => rfl) (by rw [hrec]; exact VR.undef) (hnoeff (fun v h => by cases h)) hI.le hI.hr hI.heap hI.old ?_ hI.els hI.free (fun j h1 _ h3 => hI.resv j h1 h3) hI.next)
  intro j c e sl h1 h2 h3
  rcases h2 with rfl | h2
  ·rw [q3] at h1; cases h1
  ·exact hI.own j c e sl h1 h2 h3
 ·rw [q5, if_pos rfl]
  left
  have hρ : OpsR μ' o (aev f) a.eval := fun x hx => by
   rw [Array.all_eq_true_iff_forall_mem] at q6
   exact hops x hx (q6 x hx)
  rcases q7 with ⟨v, l, S0, rfl, s1, s2, s3⟩ | ⟨c, e, sl, G0, rfl, s1⟩ | ⟨v, l, S0, S', res, rfl, s1, s2, s3, s4, s5, s6⟩
  ·
   have hval : ∃ v2, v2 = v ∧ aop P G o (aev f) = some (.val v2) := by
    cases hnH : needsH o (aev f) with
    | false => exact ⟨v, rfl, by rw [← s3]; exact aop_noH hnH⟩
    | true =>
     rcases hk.e with h1 | ⟨_, h1⟩
     ·have hl0 : l = 0 := by rw [h1] at s1; simpa using s1
      have hn0 : n = 0 := by have := hI.le; rw [h1] at this; simpa using this
      subst hl0; subst hn0
      have := hI.heap
      rw [s2] at this; cases this
      exact ⟨v, rfl, aop_mono hsee s3⟩
     ·exact ⟨v, rfl, aop_mono hsee (h1 i o f v n S ho q2 q3 hnH (by have := hI.le; omega) (hI.cond hk.b hk.m hk.lt ho hi hw).2 hI.heap)⟩
   obtain ⟨_, rfl, hval⟩ := hval
   obtain ⟨v', W', t1, t2, t3⟩ := aop_ok hval hρ hI.hr
   unfold Oper.wp
   rw [t1, Oper.upon_value]
   refine hK _ _ n S μ' G (hI.next' hk.b ho hw (Ext.refl _) (fun _ _ => rfl) (by rw [hrec]; exact t2) (hnoeff (fun v h => by cases h)) hI.le t3 hI.heap hI.old ?_ hI.els hI.free (fun j h1 _ h3 => hI.resv j h1 h3) hI.next)
   intro j c e sl h1 h2 h3
   rcases h2 with rfl | h2
   ·rw [q3] at h1; cases h1
   ·exact hI.own j c e sl h1 h2 h3
  ·
   have hno := hI.resv i hlt hi
   obtain ⟨v', W', l, t1, t2, t3⟩ := aop_ok (aop_alloc (G' := G) s1) hρ hI.hr (base + i) hno
   have hSn : S.get (base + i) = none := by
    have h1 := List.all_eq_true.mp hk.a i (List.mem_range.mpr (by rw [hk.recs]; exact hlt))
    simp only [q3] at h1
    have h3 := List.all_eq_true.mp h1 n (List.mem_range.mpr (by have := hI.le; omega))
    rw [(hI.cond hk.b hk.m hk.lt ho hi hw).1] at h3
    simp only [hI.heap] at h3
    simpa using h3
   unfold Oper.wp
   rw [t1, Oper.upon_value]
   refine hK _ _ n S _ _ (hI.next' hk.b ho hw (upd_ext hno) (fun k h1 => q1s (by omega)) (by rw [hrec]; exact t2) (hnoeff (fun v h => by cases h)) hI.le t3 hI.heap ?_ ?_ ?_ ?_ ?_ hI.next)
   ·intro k o2 h1
    by_cases hkk : k = base + i
    ·rw [hkk, hSn] at h1; cases h1
    ·rw [q1s hkk]; exact hI.old k o2 h1
   ·intro j c' e' sl' h1 h2 h3
    by_cases hji : j = i
    ·subst hji
     rw [q3] at h1; cases h1
     exact q14 _ _ _
    ·rw [q1s (by omega)]
     exact hI.own j c' e' sl' h1 (h2.resolve_left hji) h3
   ·intro k o2 h1 h2 h3
    by_cases hkk : k = base + i
    ·exfalso
     rw [hkk] at h1 h2
     obtain ⟨l', hl'⟩ := hI.hr.some_of (hI.els _ o2 h1 h2 h3) h3
     rw [hno] at hl'; cases hl'
    ·rw [q1s hkk]; exact hI.els k o2 h1 h2 h3
   ·intro k h1
    rw [q1s (by have := hI.next; omega)]
    exact hI.free k h1
   ·intro j h1 h2 h3
    rw [q1s (by omega)]
    exact hI.resv j h1 h3
  ·
   have hln := hI.at' hk.b hk.m hk.chain ho hi hw s1
   subst hln
   have := hI.heap
   rw [s2] at this; cases this
   have hov : ov (addA base (ms.getD i 0) (C.recs.take i) 0 S) G = G := by
    funext k
    unfold ov
    split
    ·rename_i o2 h1; exact (hsee k o2 h1).symm
    ·rfl
   have hdom := q2d hcall s6
   have hback : ∀ k, S'.get k = none → S.get k = none := by
    intro k h1
    cases h2 : S.get k with
    | none => rfl
    | some o2 =>
     obtain ⟨o3, h3⟩ := hdom.get k o2 (addA_old _ _ _ _ _ _ _ h2)
     rw [h1] at h3; cases h3
   have hnx : (addA base (ms.getD i 0) (C.recs.take i) 0 S).next = S.next := addA_next _ _ _ _ _
   refine stepP (E := G) hN hcall hρ s5 s6 (by rw [hnx]; exact hI.free) (hg.ext hI.ext.ext) (by rw [hov]; exact hI.hr) fun μ2 v' W' e1 e2 e3 e4 => ?_
   have hnn := hdom.next
   rw [hnx] at hnn e1
   have hll : l < C.effs.length := (List.getElem?_eq_some_iff.1 s1).1
   refine hK _ _ (l + 1) S' μ2 (ov S' G) (hI.next' hk.b ho hw e1.ext (fun k h1 => e1.low k (by have := hI.next; omega)) (by rw [hrec]; exact e2) ?_ (by omega) e4 s3 (LeG.ov S' G) ?_ ?_ e3 ?_ (by have := hI.next; omega))
   ·intro m x hx
    constructor
    ·rintro (rfl | h)
     ·rcases Nat.lt_or_ge l m with h1 | h1
      ·exfalso
       obtain ⟨p, c, z1, z2, z3, z4⟩ := chkC_get hk.chain l m x x h1 s1 hx
       have h3 := q3k hk.m hk.b hI.closed x o c ho hw z4
       have := (hI.effs p c z1).mp h3
       omega
      ·omega
     ·have := (hI.effs m x hx).mp h; omega
    ·intro h
     by_cases hml : m = l
     ·subst hml; rw [s1] at hx; cases hx; exact .inl rfl
     ·exact .inr ((hI.effs m x hx).mpr (by omega))
   ·intro j c e sl h1 h2 h3
    rcases h2 with rfl | h2
    ·rw [q3] at h1; cases h1
    ·have := hI.own j c e sl h1 h2 (hback _ h3)
     simp only [ov, h3]
     exact this
   ·intro k o2 h1 h2 h3
    have := hI.els k o2 (hback k h1) h2 h3
    simp only [ov, h1]
    exact this
   ·intro j h1 h2 h3
    rw [e1.low _ (by have := hI.next; omega)]
    exact hI.resv j h1 h3
end
end Go.Proofs.YtokdiacjcbolfaaDoor.X
namespace Go.Proofs.YtokdiacjcbolfaaDoor.X
open Go Go.RowKit
section
variable {ds : List Deferred} {P : Program} {ng : Nat} {call : CallF} {w0 W : World} {μ : Nat → Option Loc} {E : Nat → Option AObj} {ops : Array Oper} {fr : List Value} {H : Heap} {a : Act}
theorem getD_replicate (n j : Nat) : (Array.replicate n false).getD j true = Nat.ble n j := by
 simp only [Array.getD_eq_getD_getElem?, Array.getElem?_replicate]
 by_cases h : j < n
 ·rw [if_pos h]
  have : Nat.ble n j = false := by
   cases hb : Nat.ble n j with
   | false => rfl
   | true => have := Nat.le_of_ble_eq_true hb; omega
  rw [this]; rfl
 ·rw [if_neg h, Nat.ble_eq_true_of_le (by omega)]; rfl
def CertOk (P : Program) (ng : Nat) (call : CallF) (ops : Array Oper) (fr : List Value) (H : Heap) (fr' : List Value) (H' : Heap) : Prop :=
 ∃ C S, DChk P ng call ops H.next (masks ops.toList) fr C ∧ C.frs[ops.size]? = some fr' ∧ C.hs[C.effs.length]? = some S ∧ C.hs[0]? = some ⟨H.next + ops.size, H.t⟩ ∧ H' = addA H.next (2 ^ ops.size - 1) C.recs 0 S
theorem runD_cert {fr' : List Value} {H' : Heap} (h : runD P ng call ops fr H = some (fr', H')) : CertOk P ng call ops fr H fr' H' := by
 unfold runD at h
 split at h
 ·cases h
 ·rename_i hb
  simp only [Bool.and_eq_true] at hb
  split at h
  ·cases h
  ·rename_i C hC
   split at h
   ·cases h
   ·rename_i he
    split at h
    ·cases h
    ·rename_i ha
     split at h
     ·rename_i f S hf hS
      simp only [Option.some.injEq, Prod.mk.injEq] at h
      obtain ⟨rfl, rfl⟩ := h
      obtain ⟨S2, hI, hle⟩ := passD_ok (P := P) (ng := ng) (call := call) (ops := ops) (base := H.next) (ms := masks ops.toList) ops.toList 0 fr ⟨H.next + ops.size, H.t⟩ [] [] [⟨H.next + ops.size, H.t⟩] [] C (by simp) (Nat.zero_le _)
       ⟨rfl, rfl, rfl, rfl, fun l e he => by simp at he, fun j v hj => by simp at hj, fun l m e he => by simp at he, fun l e he => by simp at he, fun j hj => by omega⟩ hC
      obtain ⟨⟨x1, e1⟩, ⟨x2, e2⟩, ⟨x3, e3⟩, ⟨x4, e4⟩⟩ := hle
      refine ⟨C, S, ⟨hb.1.1, hb.1.2, hb.2, ?_, ha, by rw [e2]; rfl, hI.recs, hI.hs, hI.lt, hI.inc, hI.effr, hI.val⟩, hf, hS, by rw [e3]; rfl, rfl⟩
      rcases Bool.or_eq_true_iff.mp he with h1 | h1
      ·exact .inl (List.isEmpty_iff.mp h1)
      ·simp only [Bool.and_eq_true] at h1
       exact .inr ⟨h1.1, chkW_prop h1.2⟩
     ·cases h
set_option maxHeartbeats 1000000 in
theorem runD_okC (hN : NoNum P) (hmix : P.follows .mixedOrders = true) (hcall : ∀ f args H v H', call f args H = some (v, H') → q1o P ng f args H v H') {Q : Exit → Act → World → Prop} {id : Nat} {fr' : List Value} {H' : Heap}
  (h : CertOk P ng call ops fr H fr' H') (hf : FR ds μ fr a) (hfree : Free μ H.next) (hg : Glob μ ng) (hw : HR P w0 μ (ov H E) W) (hQ : ∀ a' W', PostO ds P w0 μ E H.next fr' H' a' W' → Q .normal a' W') : (Code.region id ops true).wp P Q a W := by
 obtain ⟨C, Sf, hk, hfr, hSf, hS0, rfl⟩ := h
 have htm : a.tmps.size = fr.length := by have := hf.2.1; simpa using this.symm
 refine wp_region_any hmix ?_
 have key : ∀ (fuel : Nat) (listed : Array Bool) (a' : Act) (W' : World) (n : Nat) (S : Heap) (μ' : Nat → Option Loc) (G : Nat → Option AObj), ((List.range ops.size).filter fun i => !listed.getD i true).length = fuel → DInv ds P w0 μ E ops H.next fr C listed a' W' n S μ' G → wpAny P .any ops Q fuel listed a' W' := by
  intro fuel
  induction fuel with
  | zero =>
   intro listed a' W' n S μ' G hc hI
   have hnil := List.eq_nil_of_length_eq_zero hc
   have hall : ∀ j, j < ops.size → listed.getD j true = true := by
    intro j hj
    cases hb : listed.getD j true with
    | true => rfl
    | false =>
     have : j ∈ (List.range ops.size).filter fun i => !listed.getD i true := List.mem_filter.mpr ⟨List.mem_range.mpr hj, by rw [hb]; rfl⟩
     rw [hnil] at this
     cases this
   refine ⟨?_, hQ a' W' ?_⟩
   ·unfold Region.ready
    refine List.filter_eq_nil_iff.mpr (fun k hk => ?_)
    rw [hall k (List.mem_range.mp hk)]
    simp
   ·obtain ⟨f, r1, r2, r3⟩ := frs_slot hk.b hk.d hk.zero hk.val ops.size (Nat.le_refl _)
    rw [hfr] at r1; cases r1
    have hn : n = C.effs.length := by
     have h1 : ¬ n < C.effs.length := by
      intro hlt
      have h2 : C.effs[n]? = some C.effs[n] := List.getElem?_eq_some_iff.2 ⟨hlt, rfl⟩
      have := (hI.effs n _ h2).mp (hall _ (hk.lt n _ h2))
      omega
     have := hI.le
     omega
    subst hn
    have := hI.heap
    rw [hSf] at this; cases this
    refine ⟨μ', hI.ext, ⟨hI.defers, ?_⟩, ?_, ?_⟩
    ·refine .of_get (by have h8 := hI.tmps; have h9 : a'.tmps.toList.length = a'.tmps.size := Array.length_toList; omega) fun s x hx => ?_
     have hs : s < a'.tmps.size := by rw [hI.tmps, ← r2]; exact (List.getElem?_eq_some_iff.1 hx).1
     refine ⟨a'.tmps[s], by rw [Array.getElem?_toList]; exact Array.getElem?_eq_some_iff.2 ⟨hs, rfl⟩, ?_⟩
     have h1 := hI.slot s _ (Array.getElem?_eq_some_iff.2 ⟨hs, rfl⟩)
     have h2 : slotD ops H.next C.recs fr (fun k => listed.getD k true) s = slotD ops H.next C.recs fr (fun k => Nat.blt k ops.size) s := by
      by_cases hk2 : ∃ k, wr ops k s = true
      ·obtain ⟨k, hk3⟩ := hk2
       obtain ⟨_, _, _, hlt⟩ := wr_spec hk3
       rw [q2s hk.b (D := fun k => listed.getD k true) (hall k hlt) hk3, q2s hk.b (D := fun k => Nat.blt k ops.size) (k := k) (Nat.ble_eq_true_of_le hlt) hk3]
      ·have hno : ∀ k, wr ops k s = false := fun k => by
        cases hb : wr ops k s with
        | false => rfl
        | true => exact absurd ⟨k, hb⟩ hk2
       rw [q2n fun k _ => hno k, q2n fun k _ => hno k]
     rw [h2, ← r3] at h1
     simp only [frget_eq, hx, Option.getD_some] at h1
     exact h1
    ·intro k hk2
     rw [addA_next] at hk2
     exact hI.free k hk2
    ·refine hI.hr.less fun k o hko hd => ?_
     unfold ov at hko
     split at hko
     ·rename_i o2 h1
      cases hko
      rcases addA_get _ _ _ _ _ _ _ h1 with h2 | ⟨h0, j, c, e, sl, h2, h3, h4, h5⟩
      ·exact hI.old k _ h2
      ·rw [Nat.zero_add] at h4
       subst h4; subst h5
       have hj : j < ops.size := by rw [← hk.recs]; exact (List.getElem?_eq_some_iff.1 h2).1
       exact hI.own j c e sl h2 (hall j hj) h0
     ·rename_i h1
      refine hI.els k o ?_ hko hd
      cases h2 : Sf.get k with
      | none => rfl
      | some o2 => rw [addA_old _ _ _ _ _ _ _ h2] at h1; cases h1
  | succ fuel ih =>
   intro listed a' W' n S μ' G hc hI
   have hmin : ∃ j, j < ops.size ∧ listed.getD j true = false ∧ ∀ k, k < j → listed.getD k true = true := by
    have hex : ∃ j, j < ops.size ∧ listed.getD j true = false := by
     cases hf2 : (List.range ops.size).filter fun i => !listed.getD i true with
     | nil => rw [hf2] at hc; cases hc
     | cons j r =>
      have : j ∈ (List.range ops.size).filter fun i => !listed.getD i true := by rw [hf2]; exact List.mem_cons_self
      obtain ⟨h1, h2⟩ := List.mem_filter.mp this
      exact ⟨j, List.mem_range.mp h1, by simpa using h2⟩
    obtain ⟨j, hj, hb⟩ := hex
    induction j using Nat.strongRecOn with
    | _ j ihj =>
     by_cases hall : ∀ k, k < j → listed.getD k true = true
     ·exact ⟨j, hj, hb, hall⟩
     ·simp only [Classical.not_forall] at hall
      obtain ⟨k, hk, hkb⟩ := hall
      exact ihj k hk (by omega) (by simpa using hkb)
   obtain ⟨jm, hjm, hjb, hlow⟩ := hmin
   refine ⟨fun hr => ?_, fun i hi => ?_⟩
   ·exfalso
    obtain ⟨o, ho⟩ : ∃ o, ops[jm]? = some o := ⟨ops[jm]'hjm, Array.getElem?_eq_some_iff.2 ⟨hjm, rfl⟩⟩
    have := ready_of hI.size ho hk.b hjb hlow
    rw [hr] at this
    cases this
   ·have hi' := hi
    unfold Region.ready at hi'
    obtain ⟨hir, hic⟩ := List.mem_filter.mp hi'
    have hilt := List.mem_range.mp hir
    obtain ⟨o, ho⟩ : ∃ o, ops[i]? = some o := ⟨ops[i], Array.getElem?_eq_some_iff.2 ⟨hilt, rfl⟩⟩
    simp only [ho, Option.map_some, Option.getD_some, Bool.and_eq_true] at hic
    obtain ⟨hib, hdeps⟩ := hic
    have hib' : listed.getD i true = false := by simpa using hib
    refine hI.step hN hcall hk hg ho hib' (fun m hm => q1r hdeps m hm) fun a2 W2 n2 S2 μ2 G2 hI2 => ih _ a2 W2 n2 S2 μ2 G2 ?_ hI2
    have hli : i < listed.size := by rw [hI.size]; exact hilt
    have hcount : ∀ (l : List Nat), l.Nodup → i ∈ l → (l.filter fun k => !(listed.setIfInBounds i true).getD k true).length + 1 = (l.filter fun k => !listed.getD k true).length := by
     intro l
     induction l with
     | nil => intro _ h; cases h
     | cons x r ihr =>
      intro hnd hmem
      have hx : ∀ k, (listed.setIfInBounds i true).getD k true = if i = k then true else listed.getD k true := fun k => q16 hli
      obtain ⟨hxr, hnr⟩ := List.nodup_cons.mp hnd
      by_cases hxi : x = i
      ·subst hxi
       have hsame : (r.filter fun k => !(listed.setIfInBounds x true).getD k true) = r.filter fun k => !listed.getD k true := by
        refine List.filter_congr fun k hk => ?_
        rw [hx k, if_neg]
        intro e; subst e; exact hxr hk
       have hxx : (listed.setIfInBounds x true).getD x true = true := by rw [hx x, if_pos rfl]
       rw [List.filter_cons, List.filter_cons, hxx, hib', hsame]
       simp
      ·have hir2 : i ∈ r := by
        rcases List.mem_cons.mp hmem with e | e
        ·exact absurd e.symm hxi
        ·exact e
       have := ihr hnr hir2
       have hxx : (listed.setIfInBounds i true).getD x true = listed.getD x true := by rw [hx x, if_neg (fun e => hxi e.symm)]
       rw [List.filter_cons, List.filter_cons, hxx]
       split
       ·simp only [List.length_cons]; omega
       ·exact this
    have := hcount (List.range ops.size) List.nodup_range (List.mem_range.mpr hilt)
    omega
 have hD0 : ∀ j, j < ops.size → (Array.replicate ops.size false).getD j true = false := by
  intro j hj
  rw [getD_replicate]
  cases hb : Nat.ble ops.size j with
  | false => rfl
  | true => have := Nat.le_of_ble_eq_true hb; omega
 refine key ops.size _ a _ 0 ⟨H.next + ops.size, H.t⟩ μ (ov H E) ?_ ⟨.refl _ μ, by simp, ?_, ?_, Nat.zero_le _, hf.1, htm, ?_, hw.drew _, hS0, ?_, ?_, ?_, ?_, ?_, Nat.le_refl _⟩
 ·have : (List.range ops.size).filter (fun i => !(Array.replicate ops.size false).getD i true) = List.range ops.size := by
   refine List.filter_eq_self.mpr fun i hi => ?_
   rw [hD0 i (List.mem_range.mp hi)]; rfl
  rw [this]; simp
 ·intro j o hj hl
  have hl' : (Array.replicate ops.size false).getD j true = true := hl
  rw [hD0 j (Array.getElem?_eq_some_iff.1 hj).1] at hl'
  cases hl'
 ·intro l e he
  rw [hD0 e (hk.lt l e he)]
  simp
 ·intro s y hy
  rw [q2n]
  ·have hs : s < fr.length := by rw [← htm]; exact (Array.getElem?_eq_some_iff.1 hy).1
   have h2 : fr[s]? = some fr[s] := List.getElem?_eq_some_iff.2 ⟨hs, rfl⟩
   obtain ⟨y', hy', hr⟩ := hf.2.get h2
   rw [Array.getElem?_toList, hy] at hy'
   cases hy'
   simp only [frget_eq, h2, Option.getD_some]
   exact hr
  ·intro k hk2
   rw [getD_replicate] at hk2
   cases hw2 : wr ops k s with
   | false => rfl
   | true =>
    obtain ⟨_, _, _, hlt⟩ := wr_spec hw2
    have := Nat.le_of_ble_eq_true hk2
    omega
 ·intro k o h1
  exact ov_get h1
 ·intro i c e sl h1 h2
  rw [hD0 i (by rw [← hk.recs]; exact (List.getElem?_eq_some_iff.1 h1).1)] at h2
  cases h2
 ·intro k o h1 h2 _
  have h3 : H.get k = none := h1
  simp only [ov, h3]
  exact h2
 ·intro k h1
  exact hfree k (by simp only at h1; omega)
 ·intro i _ _
  exact hfree _ (by omega)
theorem runD_ok (hN : NoNum P) (hmix : P.follows .mixedOrders = true) (hcall : ∀ f args H v H', call f args H = some (v, H') → q1o P ng f args H v H') {Q : Exit → Act → World → Prop} {id : Nat} {fr' : List Value} {H' : Heap}
  (h : runD P ng call ops fr H = some (fr', H')) (hf : FR ds μ fr a) (hfree : Free μ H.next) (hg : Glob μ ng) (hw : HR P w0 μ (ov H E) W) (hQ : ∀ a' W', PostO ds P w0 μ E H.next fr' H' a' W' → Q .normal a' W') : (Code.region id ops true).wp P Q a W := runD_okC hN hmix hcall (runD_cert h) hf hfree hg hw hQ
theorem runD_domC (hcall : ∀ f args H v H', call f args H = some (v, H') → q1o P ng f args H v H') {fr' : List Value} {H' : Heap} (h : CertOk P ng call ops fr H fr' H') : Dom H H' ∧ fr'.length = fr.length := by
 obtain ⟨C, Sf, hk, hfr, hSf, hS0, rfl⟩ := h
 obtain ⟨f, r1, r2, r3⟩ := frs_slot hk.b hk.d hk.zero hk.val ops.size (Nat.le_refl _)
 rw [hfr] at r1; cases r1
 refine ⟨?_, r2⟩
 have chain : ∀ n S, n ≤ C.effs.length → C.hs[n]? = some S → Dom H S := by
  intro n
  induction n with
  | zero =>
   intro S _ hS
   rw [hS0] at hS; cases hS
   exact ⟨fun k o h => ⟨o, h⟩, Nat.le_add_right _ _⟩
  | succ n ih =>
   intro S hn hS
   have hlt : n < C.effs.length := by omega
   have h2 : C.effs[n]? = some C.effs[n] := List.getElem?_eq_some_iff.2 ⟨hlt, rfl⟩
   obtain ⟨v, hv⟩ := hk.eff n _ h2
   obtain ⟨o, f, rec, q1, q2, q3, q4, q5⟩ := hk.val _ (hk.lt n _ h2)
   rw [hv] at q3; cases q3
   rcases q5 with ⟨h5, _⟩ | ⟨_, _, ⟨_, _, _, h5, _⟩ | ⟨_, _, _, _, h5, _⟩ | ⟨v', l, S0, S', res, h5, s1, s2, s3, s4, s5, s6⟩⟩
   ·cases h5
   ·cases h5
   ·cases h5
   ·have hl := hk.inc l n _ s1 h2
    subst hl
    rw [hS] at s3; cases s3
    have h6 := q2d hcall s6
    have h7 := ih S0 (by omega) s2
    refine ⟨fun k o hko => ?_, ?_⟩
    ·obtain ⟨o1, h8⟩ := h7.get k o hko
     exact h6.get k o1 (addA_old _ _ _ _ _ _ _ h8)
    ·have := h6.next
     rw [addA_next] at this
     exact Nat.le_trans h7.next this
 have h1 := chain C.effs.length Sf (Nat.le_refl _) hSf
 exact ⟨fun k o h => by obtain ⟨o1, h2⟩ := h1.get k o h; exact ⟨o1, addA_old _ _ _ _ _ _ _ h2⟩, by rw [addA_next]; exact h1.next⟩
theorem runD_dom (hcall : ∀ f args H v H', call f args H = some (v, H') → q1o P ng f args H v H') {fr' : List Value} {H' : Heap} (h : runD P ng call ops fr H = some (fr', H')) : Dom H H' ∧ fr'.length = fr.length := runD_domC hcall (runD_cert h)
end
inductive Ex where
 | normal
 | exit (id : Nat)
 | ret
def Ex.toExit : Ex → Exit
 | .normal => .normal
 | .exit id => .exit id
 | .ret => .ret
noncomputable def stepC (P : Program) (ng : Nat) (call : CallF) (go : Code → List Value → Heap → Option (Ex × List Value × Heap)) (c : Code) (fr : List Value) (H : Heap) : Option (Ex × List Value × Heap) := match c with
 | .skip => some (.normal, fr, H)
 | .region _ ops draw => match draw with
  | false => match runO P ng call ops ops.toList fr H with
   | some (fr', H') => some (.normal, fr', H')
   | none => none
  | true => match runD P ng call ops fr H with
   | some (fr', H') => some (.normal, fr', H')
   | none => none
 | .seq x y => match go x fr H with
  | some (.normal, fr', H') => go y fr' H'
  | r => r
 | .cond b x y => match opd1 ng b with
  | false => none
  | true => match aev fr b with
   | .bool true => go x fr H
   | .bool false => go y fr H
   | _ => none
 | .block id x => match go x fr H with
  | some (.exit id', fr', H') => match Nat.beq id' id with
   | true => some (.normal, fr', H')
   | false => some (.exit id', fr', H')
  | r => r
 | .loop x => match go x fr H with
  | some (.normal, fr', H') => go (.loop x) fr' H'
  | r => r
 | .exit id => some (.exit id, fr, H)
 | .ret => some (.ret, fr, H)
 | _ => none
noncomputable def ares (P : Program) (fr : List Value) (H : Heap) : List ResultVar → Option (List Value)
 | [] => some []
 | .tmp t :: r => match ares P fr H r with
  | some vs => some (frget fr t :: vs)
  | none => none
 | .cell a t :: r => match aload1 P H.get t (frget fr a) with
  | none => none
  | some v => match ares P fr H r with
   | some vs => some (v :: vs)
   | none => none
noncomputable def stepF (P : Program) (lib : Nat → Option (List Value → Heap → Option (Value × Heap))) (go : Code → List Value → Heap → Option (Ex × List Value × Heap)) (f : Nat) (args : List Value) (H : Heap) : Option (Value × Heap) := match lib f with
 | some g => g args H
 | none => match P.funcs[f]? with
  | none => none
  | some fn => match fn.body with
   | none => none
   | some c => match go c (args ++ List.replicate (fn.ntmps - args.length) undef) H with
    | some (.normal, fr, H') => match ares P fr H' fn.results.toList with
     | some vs => some (oneOf vs, H')
     | none => none
    | some (.ret, fr, H') => match ares P fr H' fn.results.toList with
     | some vs => some (oneOf vs, H')
     | none => none
    | _ => none
noncomputable def runC (P : Program) (ng : Nat) (lib : Nat → Option (List Value → Heap → Option (Value × Heap))) (n : Nat) : Code → List Value → Heap → Option (Ex × List Value × Heap) :=
 Nat.rec (motive := fun _ => Code → List Value → Heap → Option (Ex × List Value × Heap)) (fun _ _ _ => none) (fun _ go => stepC P ng (stepF P lib go) go) n
theorem runC_succ (P : Program) (ng : Nat) (lib) (n : Nat) : runC P ng lib (n + 1) = stepC P ng (stepF P lib (runC P ng lib n)) (runC P ng lib n) := rfl
noncomputable def runF (P : Program) (ng : Nat) (lib : Nat → Option (List Value → Heap → Option (Value × Heap))) (n : Nat) : CallF := stepF P lib (runC P ng lib n)
def LibOk (P : Program) (ng : Nat) (lib : Nat → Option (List Value → Heap → Option (Value × Heap))) : Prop :=
 ∀ f g, lib f = some g → ∀ args H v H', g args H = some (v, H') → q1o P ng f args H v H'
section
variable {ds : List Deferred} {P : Program} {ng : Nat} {lib : Nat → Option (List Value → Heap → Option (Value × Heap))}
def PostC (ds : List Deferred) (P : Program) (w0 : World) (μ : Nat → Option Loc) (E : Nat → Option AObj) (n : Nat) (ex : Ex) (fr' : List Value) (H' : Heap) (e : Exit) (a : Act) (W : World) : Prop :=
 e = ex.toExit ∧ PostO ds P w0 μ E n fr' H' a W
structure q3e (P : Program) (ng : Nat) (c : Code) (fr : List Value) (H : Heap) (ex : Ex) (fr' : List Value) (H' : Heap) : Prop where
 dom : Dom H H'
 wp : ∀ (ds : List Deferred) (w0 : World) (μ : Nat → Option Loc) (E : Nat → Option AObj) (W : World) (a : Act), FR ds μ fr a → Free μ H.next → Glob μ ng → HR P w0 μ (ov H E) W → c.wp P (PostC ds P w0 μ E H.next ex fr' H') a W
theorem ares_ok {w0 W : World} {μ : Nat → Option Loc} {G : Nat → Option AObj} {H : Heap} (hG : LeG H.get G) {fr : List Value} {a : Act} (hf : FR ds μ fr a) (hw : HR P w0 μ G W) : ∀ (rs : List ResultVar) (vs : List Value), ares P fr H rs = some vs →
  ∃ vs', VL μ vs vs' ∧ (rs.mapM (fun x : ResultVar => match x with | .tmp t => (pure (a.tmps.getD t undef) : Sem Value) | .cell b t => do loadVar t (← asAddr (a.tmps.getD b undef)))).run P W = .ok vs' W := by
 have hget : ∀ t, VR μ (frget fr t) (a.tmps.getD t undef) := by
  intro t
  have := hf.ev (ng := 0) (fun g hg => by omega) (x := .tmp t) rfl
  exact this
 intro rs
 induction rs with
 | nil => intro vs h; simp only [ares, Option.some.injEq] at h; subst h; exact ⟨[], .nil, by simp⟩
 | cons r rs ih =>
  intro vs h
  cases r with
  | tmp t =>
   simp only [ares] at h
   split at h
   ·rename_i vs1 h1
    cases h
    obtain ⟨vs', q1, q2⟩ := ih vs1 h1
    refine ⟨_, .cons (hget t) q1, ?_⟩
    simp only [List.mapM_cons, Sem.run_bind, Sem.run_pure, Result.andThen_ok, q2]
   ·cases h
  | cell b t =>
   simp only [ares] at h
   split at h
   ·cases h
   ·rename_i v hv
    split at h
    ·rename_i vs1 h1
     cases h
     obtain ⟨vs', q1, q2⟩ := ih vs1 h1
     obtain ⟨v', q3, q4⟩ := aload1_ok (aload1_mono hG hv) (hget b) hw
     refine ⟨_, .cons q4 q1, ?_⟩
     have hp : ∃ ad, a.tmps.getD b undef = .pointer (some ad) := by
      have := hget b
      unfold aload1 at hv
      split at hv
      ·rename_i e; rw [e] at this; exact this.ptr_inv
      ·cases hv
     obtain ⟨ad, hp⟩ := hp
     rw [hp] at q3
     simp only [Instr.loadAt, Instr.sureAddr, Sem.run_bind, Sem.run_pure, Result.andThen_ok] at q3
     have has : ∀ W : World, (asAddr (.pointer (some ad))).run P W = .ok ad W := fun _ => rfl
     simp only [List.mapM_cons, Sem.run_bind, Sem.run_pure, Result.andThen_ok, q2, hp, has, q3]
    ·cases h
theorem q34 {w0 W : World} {μ : Nat → Option Loc} {G : Nat → Option AObj} {H : Heap} (hG : LeG H.get G) {fr : List Value} {a : Act} (hf : FR ds μ fr a) (hw : HR P w0 μ G W) {fn : Func} {vs : List Value} (h : ares P fr H fn.results.toList = some vs) :
  ∃ v', (results fn a.tmps).run P W = .ok v' W ∧ VR μ (oneOf vs) v' := by
 obtain ⟨vs', h1, h2⟩ := ares_ok hG hf hw _ _ h
 refine ⟨oneOf vs', ?_, ?_⟩
 ·unfold results
  rw [← Array.toArray_toList (xs := fn.results), List.mapM_toArray, Sem.run_bind, Sem.run_map]
  refine (congrArg (fun z => Result.andThen (Result.andThen z _) _) h2).trans ?_
  simp only [Result.andThen_ok, Sem.run_pure]
  congr 1
  match vs' with
  | [] => rfl
  | [v] => rfl
  | u :: v :: r => simp [oneOf]
 ·match vs, vs', h1 with
  | [], [], _ => exact VR.undef
  | [x], [y], h1 => exact h1.head
  | x :: y :: r, x' :: y' :: r', h1 => exact VL.tuple (by simpa using h1)
  | [], _ :: _, h1 => have := h1.1; simp at this
  | [_], [], h1 => have := h1.1; simp at this
  | [_], _ :: _ :: _, h1 => have := h1.1; simp at this
  | _ :: _ :: _, [], h1 => have := h1.1; simp at this
  | _ :: _ :: _, [_], h1 => have := h1.1; simp at this
theorem PostO.trans {w0 W : World} {μ μ1 : Nat → Option Loc} {E : Nat → Option AObj} {n n1 : Nat} {fr' : List Value} {H' : Heap} {a : Act} (h : PostO ds P w0 μ1 E n1 fr' H' a W) (he : ExtN n μ μ1) (hle : n ≤ n1) : PostO ds P w0 μ E n fr' H' a W := by
 obtain ⟨μ2, p1, p2⟩ := h
 exact ⟨μ2, he.trans p1 hle, p2⟩
theorem PostC.trans {w0 W : World} {μ μ1 : Nat → Option Loc} {E : Nat → Option AObj} {n n1 : Nat} {ex : Ex} {fr' : List Value} {H' : Heap} {e : Exit} {a : Act} (h : PostC ds P w0 μ1 E n1 ex fr' H' e a W) (he : ExtN n μ μ1) (hle : n ≤ n1) : PostC ds P w0 μ E n ex fr' H' e a W := ⟨h.1, h.2.trans he hle⟩
structure LoopOk (P : Program) (ng n : Nat) (x : Code) (fr : List Value) (H : Heap) (ex : Ex) (fr' : List Value) (H' : Heap) : Prop where
 dom : Dom H H'
 rounds : ∀ (ds : List Deferred) (w0 : World) (μ : Nat → Option Loc) (E : Nat → Option AObj) (W : World) (a : Act), FR ds μ fr a → Free μ H.next → Glob μ ng → HR P w0 μ (ov H E) W → Code.rounds P x (PostC ds P w0 μ E H.next ex fr' H') n a W
theorem rounds_mono {x : Code} {Q Q' : Exit → Act → World → Prop} (hq : ∀ e a w, Q e a w → Q' e a w) : ∀ (n : Nat) (a : Act) (W : World), Code.rounds P x Q n a W → Code.rounds P x Q' n a W := by
 intro n
 induction n with
 | zero => intro a W h; exact h
 | succ n ih =>
  intro a W h
  rw [rounds_succ] at h ⊢
  refine wp_mono h fun e a w q => ?_
  cases e <;> first | exact ih _ _ q | exact hq _ _ _ q
theorem stepF_ok {go : Code → List Value → Heap → Option (Ex × List Value × Heap)} (hlib : LibOk P ng lib) (hgo : ∀ c fr H ex fr' H', go c fr H = some (ex, fr', H') → q3e P ng c fr H ex fr' H') :
  ∀ f args H v H', stepF P lib go f args H = some (v, H') → q1o P ng f args H v H' := by
 intro f args H v H' h
 unfold stepF at h
 split at h
 ·rename_i g hg
  exact hlib f g hg args H v H' h
 ·split at h
  ·cases h
  ·rename_i fn hfn
   split at h
   ·cases h
   ·rename_i c hc
    have key : ∀ ex fr, (ex = .normal ∨ ex = .ret) → go c (args ++ List.replicate (fn.ntmps - args.length) undef) H = some (ex, fr, H') → ∀ vs, ares P fr H' fn.results.toList = some vs → v = oneOf vs → q1o P ng f args H v H' := by
     intro ex fr hex hrun vs hvs hv
     subst hv
     have hok := hgo _ _ _ _ _ _ hrun
     refine ⟨hok.dom, fun w0 μ E W args' hfree hglob hw hargs => ?_⟩
     unfold Calls2
     simp only [hfn, Option.bind_some, hc]
     refine calls_of_wp hfn hc ?_
     have hsz : args'.size = args.length := by have := hargs.1; simpa using this.symm
     have hf : FR [] μ (args ++ List.replicate (fn.ntmps - args.length) undef) { tmps := args' ++ Array.replicate (fn.ntmps - args'.size) undef, defers := [] } := by
      refine ⟨rfl, ?_⟩
      simp only [Array.toList_append, Array.toList_replicate, hsz]
      refine hargs.append ⟨rfl, fun i x y hx hy => ?_⟩
      rw [hx] at hy; cases hy
      have := List.eq_of_mem_replicate (List.mem_of_getElem? hx)
      rw [this]; exact VR.undef
     refine wp_mono (hok.wp [] w0 μ E W _ hf hfree hglob hw) fun e a W' hp => ?_
     obtain ⟨rfl, μ', p1, p2, p3, p4⟩ := hp
     obtain ⟨v', r1, r2⟩ := q34 (LeG.ov H' E) p2 p4 hvs
     rcases hex with rfl | rfl
     ·exact ⟨p2.1, v', r1, μ', v', rfl, p1, r2, p3, p4⟩
     ·exact ⟨p2.1, v', r1, μ', v', rfl, p1, r2, p3, p4⟩
    split at h
    ·rename_i fr H1 hrun
     split at h
     ·rename_i vs hvs
      simp only [Option.some.injEq, Prod.mk.injEq] at h
      obtain ⟨h1, rfl⟩ := h
      exact key _ _ (.inl rfl) hrun vs hvs h1.symm
     ·cases h
    ·rename_i fr H1 hrun
     split at h
     ·rename_i vs hvs
      simp only [Option.some.injEq, Prod.mk.injEq] at h
      obtain ⟨h1, rfl⟩ := h
      exact key _ _ (.inr rfl) hrun vs hvs h1.symm
     ·cases h
    ·cases h
set_option maxHeartbeats 1000000 in
theorem runC_ok (hN : NoNum P) (hmix : P.follows .mixedOrders = true) (hlib : LibOk P ng lib) : ∀ n, (∀ c fr H ex fr' H', runC P ng lib n c fr H = some (ex, fr', H') → q3e P ng c fr H ex fr' H') ∧
  (∀ x fr H ex fr' H', runC P ng lib n (.loop x) fr H = some (ex, fr', H') → LoopOk P ng n x fr H ex fr' H') := by
 intro n
 induction n with
 | zero => exact ⟨fun c fr H ex fr' H' h => (by cases h), fun x fr H ex fr' H' h => (by cases h)⟩
 | succ n ih =>
  obtain ⟨ihc, ihl⟩ := ih
  have hcall := stepF_ok hlib ihc
  have loop : ∀ x fr H ex fr' H', runC P ng lib (n + 1) (.loop x) fr H = some (ex, fr', H') → LoopOk P ng (n + 1) x fr H ex fr' H' := by
   intro x fr H ex fr' H' h
   rw [runC_succ] at h
   simp only [stepC] at h
   split at h
   ·rename_i fr1 H1 h1
    have hx := ihc _ _ _ _ _ _ h1
    have hl := ihl _ _ _ _ _ _ h
    refine ⟨hx.dom.trans hl.dom, fun ds w0 μ E W a hf hfree hg hw => ?_⟩
    rw [rounds_succ]
    refine wp_mono (hx.wp ds w0 μ E W a hf hfree hg hw) fun e a' W' hp => ?_
    obtain ⟨rfl, μ', p1, p2, p3, p4⟩ := hp
    exact rounds_mono (fun e a w q => q.trans p1 hx.dom.next) n a' W' (hl.rounds ds w0 μ' E W' a' p2 p3 (hg.ext p1.ext) p4)
   ·rename_i hne
    have hx := ihc _ _ _ _ _ _ h
    refine ⟨hx.dom, fun ds w0 μ E W a hf hfree hg hw => ?_⟩
    rw [rounds_succ]
    refine wp_mono (hx.wp ds w0 μ E W a hf hfree hg hw) fun e a' W' hp => ?_
    obtain ⟨rfl, hp2⟩ := hp
    cases ex with
    | normal => exact absurd h (hne _ _)
    | exit id => exact ⟨rfl, hp2⟩
    | ret => exact ⟨rfl, hp2⟩
  refine ⟨?_, loop⟩
  intro c fr H ex fr' H' h
  have h0 := h
  rw [runC_succ] at h
  unfold stepC at h
  split at h
  ·
   simp only [Option.some.injEq, Prod.mk.injEq] at h
   obtain ⟨rfl, rfl, rfl⟩ := h
   exact ⟨.refl _, fun ds w0 μ E W a hf hfree hg hw => wp_skip ⟨rfl, μ, .refl _ μ, hf, hfree, hw⟩⟩
  ·
   rename_i id ops draw
   split at h
   ·split at h
    ·rename_i fr1 H1 h1
     simp only [Option.some.injEq, Prod.mk.injEq] at h
     obtain ⟨rfl, rfl, rfl⟩ := h
     refine ⟨(runO_dom hcall _ _ _ _ _ h1).1, fun ds w0 μ E W a hf hfree hg hw => wp_region_list ?_⟩
     exact runO_ok hN hcall ops.toList fr H fr1 H1 μ a W h1 hf hfree hg hw fun a' W' hp => ⟨rfl, hp⟩
    ·cases h
   ·split at h
    ·rename_i fr1 H1 h1
     simp only [Option.some.injEq, Prod.mk.injEq] at h
     obtain ⟨rfl, rfl, rfl⟩ := h
     refine ⟨(runD_dom hcall h1).1, fun ds w0 μ E W a hf hfree hg hw => ?_⟩
     exact runD_ok hN hmix hcall h1 hf hfree hg hw fun a' W' hp => ⟨rfl, hp⟩
    ·cases h
  ·
   rename_i x y
   split at h
   ·rename_i fr1 H1 h1
    have hx := ihc _ _ _ _ _ _ h1
    have hy := ihc _ _ _ _ _ _ h
    refine ⟨hx.dom.trans hy.dom, fun ds w0 μ E W a hf hfree hg hw => wp_seq ?_⟩
    refine wp_mono (hx.wp ds w0 μ E W a hf hfree hg hw) fun e a' W' hp => ?_
    obtain ⟨rfl, μ', p1, p2, p3, p4⟩ := hp
    exact wp_mono (hy.wp ds w0 μ' E W' a' p2 p3 (hg.ext p1.ext) p4) fun e a w q => q.trans p1 hx.dom.next
   ·rename_i hne
    have hx := ihc _ _ _ _ _ _ h
    refine ⟨hx.dom, fun ds w0 μ E W a hf hfree hg hw => wp_seq ?_⟩
    refine wp_mono (hx.wp ds w0 μ E W a hf hfree hg hw) fun e a' W' hp => ?_
    obtain ⟨rfl, hp2⟩ := hp
    cases ex with
    | normal => exact absurd h (hne _ _)
    | exit id => exact ⟨rfl, hp2⟩
    | ret => exact ⟨rfl, hp2⟩
  ·
   rename_i b x y
   split at h
   ·cases h
   ·rename_i hb
    split at h
    ·rename_i e
     have hx := ihc _ _ _ _ _ _ h
     refine ⟨hx.dom, fun ds w0 μ E W a hf hfree hg hw => ?_⟩
     have h1 := hf.ev hg hb
     rw [e] at h1
     exact wp_cond_true (q1j rfl h1) (hx.wp ds w0 μ E W a hf hfree hg hw)
    ·rename_i e
     have hx := ihc _ _ _ _ _ _ h
     refine ⟨hx.dom, fun ds w0 μ E W a hf hfree hg hw => ?_⟩
     have h1 := hf.ev hg hb
     rw [e] at h1
     exact wp_cond_false (q1j rfl h1) (hx.wp ds w0 μ E W a hf hfree hg hw)
    ·cases h
  ·
   rename_i id x
   split at h
   ·rename_i id' fr1 H1 h1
    have hx := ihc _ _ _ _ _ _ h1
    split at h
    ·rename_i hb
     simp only [Option.some.injEq, Prod.mk.injEq] at h
     obtain ⟨rfl, rfl, rfl⟩ := h
     have e1 := Nat.eq_of_beq_eq_true hb
     subst e1
     refine ⟨hx.dom, fun ds w0 μ E W a hf hfree hg hw => wp_block ?_⟩
     refine wp_mono (hx.wp ds w0 μ E W a hf hfree hg hw) fun e a' W' hp => ?_
     obtain ⟨rfl, hp2⟩ := hp
     simp only [Ex.toExit, Exit.inBlock, if_true]
     exact ⟨rfl, hp2⟩
    ·rename_i hb
     simp only [Option.some.injEq, Prod.mk.injEq] at h
     obtain ⟨rfl, rfl, rfl⟩ := h
     have e1 := Nat.ne_of_beq_eq_false hb
     refine ⟨hx.dom, fun ds w0 μ E W a hf hfree hg hw => wp_block ?_⟩
     refine wp_mono (hx.wp ds w0 μ E W a hf hfree hg hw) fun e a' W' hp => ?_
     obtain ⟨rfl, hp2⟩ := hp
     simp only [Ex.toExit, Exit.inBlock, if_neg e1]
     exact ⟨rfl, hp2⟩
   ·rename_i hne
    have hx := ihc _ _ _ _ _ _ h
    refine ⟨hx.dom, fun ds w0 μ E W a hf hfree hg hw => wp_block ?_⟩
    refine wp_mono (hx.wp ds w0 μ E W a hf hfree hg hw) fun e a' W' hp => ?_
    obtain ⟨rfl, hp2⟩ := hp
    cases ex with
    | normal => exact ⟨rfl, hp2⟩
    | exit id => exact absurd h (hne _ _ _)
    | ret => exact ⟨rfl, hp2⟩
  ·
   have hl := loop _ _ _ _ _ _ h0
   exact ⟨hl.dom, fun ds w0 μ E W a hf hfree hg hw => wp_loop_rounds (n + 1) (hl.rounds ds w0 μ E W a hf hfree hg hw)⟩
  ·simp only [Option.some.injEq, Prod.mk.injEq] at h
   obtain ⟨rfl, rfl, rfl⟩ := h
   exact ⟨.refl _, fun ds w0 μ E W a hf hfree hg hw => wp_exit ⟨rfl, μ, .refl _ μ, hf, hfree, hw⟩⟩
  ·simp only [Option.some.injEq, Prod.mk.injEq] at h
   obtain ⟨rfl, rfl, rfl⟩ := h
   exact ⟨.refl _, fun ds w0 μ E W a hf hfree hg hw => wp_ret ⟨rfl, μ, .refl _ μ, hf, hfree, hw⟩⟩
  ·cases h
theorem runF_ok (hN : NoNum P) (hmix : P.follows .mixedOrders = true) (hlib : LibOk P ng lib) (n f : Nat) (args : List Value) (H : Heap) (v : Value) (H' : Heap) (h : runF P ng lib n f args H = some (v, H')) : q1o P ng f args H v H' :=
 stepF_ok hlib (runC_ok hN hmix hlib n).1 f args H v H' h
end
end Go.Proofs.YtokdiacjcbolfaaDoor.X
namespace Go.Proofs.YtokdiacjcbolfaaDoor.X
open Go Go.RowKit
set_option linter.unusedVariables false
set_option linter.unusedSimpArgs false
def isRec (op : Op) : Bool := match op with
 | .call c => match c.callee with
  | .builtin .recover => true
  | _ => false
 | _ => false
noncomputable def runOR (P : Program) (ng : Nat) (call : CallF) (ops : Array Oper) : List Oper → List Value → Heap → Option (List Value × Heap)
 | [], fr, H => some (fr, H)
 | o :: r, fr, H => match awant ops fr o with
  | false => runOR P ng call ops r (fput fr o.dst undef) H
  | true => match isRec o.op with
   | true => runOR P ng call ops r (fput fr o.dst .nilIface) H
   | false => match opsOk ng o.op with
    | false => none
    | true => match aop P H.get o (aev fr) with
     | none => none
     | some res => match q2v call H res with
      | none => none
      | some (v, H') => runOR P ng call ops r (fput fr o.dst v) H'
noncomputable def runR (P : Program) (ng : Nat) (call : CallF) (go : Code → List Value → Heap → Option (Ex × List Value × Heap)) : Code → List Value → Heap → Option (Ex × List Value × Heap)
 | .seq x y, fr, H => match runR P ng call go x fr H with
  | some (.normal, fr', H') => runR P ng call go y fr' H'
  | r => r
 | .region id ops draw, fr, H => match draw with
  | false => match runOR P ng call ops ops.toList fr H with
   | some (fr', H') => some (.normal, fr', H')
   | none => none
  | true => go (.region id ops true) fr H
 | c, fr, H => go c fr H
noncomputable def stepR (P : Program) (ng : Nat) (call : CallF) (go : Code → List Value → Heap → Option (Ex × List Value × Heap)) (f : Nat) (args : List Value) (H : Heap) : Option (Value × Heap) := match P.funcs[f]? with
 | none => none
 | some fn => match fn.body with
  | none => none
  | some c => match runR P ng call go c (args ++ List.replicate (fn.ntmps - args.length) undef) H with
   | some (.exit _, _, _) => none
   | some (_, fr, H') => match ares P fr H' fn.results.toList with
    | some vs => some (oneOf vs, H')
    | none => none
   | none => none
section
variable {P : Program} {ng : Nat} {w0 W : World} {μ : Nat → Option Loc} {H : Heap} {E : Nat → Option AObj} {fr : List Value} {a : Act} {ops : Array Oper}
theorem isRec_run {o : Oper} (h : isRec o.op = true) (ev : Operand → Value) (W : World) : (execOp ev o).run P W = .ok .recover W := by
 unfold isRec at h
 split at h
 ·rename_i c ho
  split at h
  ·rename_i hc
   simp [execOp, ho, resolve, hc, invoke, builtin]
  ·cases h
 ·cases h
theorem upon_ne_recover {o : Oper} {a : Act} {K : Act → World → Prop} {Q : Exit → Act → World → Prop} {r : Result Next} (h : o.upon P a K Q r) : ∀ W', r ≠ .ok .recover W' := by
 intro W' e
 subst e
 exact h
theorem runOR_dom {call : CallF} (hcall : ∀ f args H v H', call f args H = some (v, H') → q1o P ng f args H v H') : ∀ (l : List Oper) (fr : List Value) (H : Heap) (fr' : List Value) (H' : Heap), runOR P ng call ops l fr H = some (fr', H') → Dom H H' := by
 intro l
 induction l with
 | nil => intro fr H fr' H' h; simp only [runOR, Option.some.injEq, Prod.mk.injEq] at h; rw [← h.2]; exact .refl _
 | cons o r ih =>
  intro fr H fr' H' h
  unfold runOR at h
  split at h
  ·exact ih _ _ _ _ h
  ·split at h
   ·exact ih _ _ _ _ h
   ·split at h
    ·cases h
    ·split at h
     ·cases h
     ·split at h
      ·cases h
      ·rename_i v H1 h3
       exact (q2d hcall h3).trans (ih _ _ _ _ h)
theorem runOR_ok (hN : NoNum P) {call : CallF} (hcall : ∀ f args H v H', call f args H = some (v, H') → q1o P ng f args H v H') {cs : List Frame} (hcs : recoverD cs = none) {Q : Exit → Act → List Frame → World → Prop} : ∀ (l : List Oper) (k : Nat) (fr : List Value) (H : Heap) (fr' : List Value) (H' : Heap) (μ : Nat → Option Loc) (a : Act) (W : World),
  (∀ j, l[j]? = ops[k + j]?) → runOR P ng call ops l fr H = some (fr', H') → FR [] μ fr a → Free μ H.next → Glob μ ng → HR P w0 μ (ov H E) W →
  (∀ a' W', PostO [] P w0 μ E H.next fr' H' a' W' → Q .normal a' cs W') → wpOpsS P ops Q (List.range' k l.length) a cs W := by
 intro l
 induction l with
 | nil =>
  intro k fr H fr' H' μ a W _ h hf hfree hg hw hQ
  simp only [runOR, Option.some.injEq, Prod.mk.injEq] at h
  obtain ⟨rfl, rfl⟩ := h
  exact hQ a W ⟨μ, .refl _ μ, hf, hfree, hw⟩
 | cons o r ih =>
  intro k fr H fr' H' μ a W hl h hf hfree hg hw hQ
  have ho : ops[k]? = some o := by have := hl 0; simpa using this.symm
  have hr : ∀ j, r[j]? = ops[k + 1 + j]? := fun j => by have := hl (j + 1); rw [List.getElem?_cons_succ] at this; rw [this]; congr 1; omega
  rw [List.length_cons, List.range'_succ]
  unfold runOR at h
  unfold wpOpsS
  simp only [ho]
  rw [hf.want]
  split at h
  ·rename_i hwant
   rw [hwant, if_neg (by simp)]
   exact ih (k + 1) _ _ _ _ μ _ W hr h (hf.put o.dst VR.undef) hfree hg hw hQ
  ·rename_i hwant
   rw [hwant, if_pos rfl]
   split at h
   ·rename_i hrec
    rw [isRec_run hrec]
    simp only [hcs]
    exact ih (k + 1) _ _ _ _ μ _ W hr h (hf.put o.dst (q1w rfl)) hfree hg hw hQ
   ·split at h
    ·cases h
    ·rename_i h1
     split at h
     ·cases h
     ·rename_i res h2
      split at h
      ·cases h
      ·rename_i v H1 h3
       have hstep := stepP (Q := fun e a' W' => Q e a' cs W') hN hcall (FR.opsR hf hg (q3m h1)) h2 h3 hfree hg hw (K := fun a' W' => wpOpsS P ops Q (List.range' (k + 1) r.length) a' cs W') fun μ' v' W' e1 e2 e3 e4 => by
        refine ih (k + 1) _ _ _ _ μ' _ W' hr h ((hf.ext e1.ext).put o.dst e2) e3 (hg.ext e1.ext) e4 fun a' W'' hp => hQ a' W'' ?_
        obtain ⟨μ2, p1, p2⟩ := hp
        exact ⟨μ2, e1.trans p1 (q2d hcall h3).next, p2⟩
       unfold Oper.wp at hstep
       have hne := upon_ne_recover hstep
       generalize hres : (execOp a.eval o).run P W = rr at hstep hne
       split
       ·exact absurd rfl (hne _)
       ·exact hstep
structure ROk (P : Program) (ng : Nat) (c : Code) (fr : List Value) (H : Heap) (ex : Ex) (fr' : List Value) (H' : Heap) : Prop where
 dom : Dom H H'
 wp : ∀ (w0 : World) (μ : Nat → Option Loc) (E : Nat → Option AObj) (W : World) (a : Act) (cs : List Frame), recoverD cs = none → FR [] μ fr a → Free μ H.next → Glob μ ng → HR P w0 μ (ov H E) W →
  c.wpS P (fun e a' cs' W' => cs' = cs ∧ PostC [] P w0 μ E H.next ex fr' H' e a' W') a cs W
theorem rok_of {c : Code} {ex : Ex} {fr' : List Value} {H' : Heap} (h : q3e P ng c fr H ex fr' H') : ROk P ng c fr H ex fr' H' :=
 ⟨h.dom, fun w0 μ E W a cs _ hf hfree hg hw => wpS_of_wp (wp_mono (h.wp [] w0 μ E W a hf hfree hg hw) fun e a' W' hp => ⟨rfl, hp⟩)⟩
theorem wpS_mono {c : Code} {Q Q' : Exit → Act → List Frame → World → Prop} {cs : List Frame} (h : c.wpS P Q a cs W) (hq : ∀ e a cs w, Q e a cs w → Q' e a cs w) : c.wpS P Q' a cs W :=
 fun b k hb hr => let ⟨e, a', cs', w', q, r⟩ := h b k hb hr; ⟨e, a', cs', w', hq _ _ _ _ q, r⟩
theorem runR_ok (hN : NoNum P) {call : CallF} (hcall : ∀ f args H v H', call f args H = some (v, H') → q1o P ng f args H v H') {go : Code → List Value → Heap → Option (Ex × List Value × Heap)}
  (hgo : ∀ c fr H ex fr' H', go c fr H = some (ex, fr', H') → q3e P ng c fr H ex fr' H') : ∀ (c : Code) (fr : List Value) (H : Heap) (ex : Ex) (fr' : List Value) (H' : Heap),
  runR P ng call go c fr H = some (ex, fr', H') → ROk P ng c fr H ex fr' H' := by
 intro c fr H
 fun_induction runR P ng call go c fr H with
 | case1 x y fr H fr1 H1 hx ihx ihy =>
  intro ex fr' H' h
  have h1 := ihx _ _ _ hx
  have h2 := ihy _ _ _ h
  refine ⟨h1.dom.trans h2.dom, fun w0 μ E W a cs hcs hf hfree hg hw => wpS_seq ?_⟩
  refine wpS_mono (h1.wp w0 μ E W a cs hcs hf hfree hg hw) fun e a' cs' W' hp => ?_
  obtain ⟨rfl, rfl, μ', p1, p2, p3, p4⟩ := hp
  refine wpS_mono (h2.wp w0 μ' E W' a' cs' hcs p2 p3 (hg.ext p1.ext) p4) fun e a2 cs2 W2 hq => ?_
  exact ⟨hq.1, hq.2.trans p1 h1.dom.next⟩
 | case2 x y fr H hne ihx =>
  intro ex fr' H' h
  have h1 := ihx _ _ _ h
  refine ⟨h1.dom, fun w0 μ E W a cs hcs hf hfree hg hw => wpS_seq ?_⟩
  refine wpS_mono (h1.wp w0 μ E W a cs hcs hf hfree hg hw) fun e a' cs' W' hp => ?_
  obtain ⟨rfl, rfl, hp⟩ := hp
  cases ex with
  | normal => exact absurd h (hne _ _)
  | _ => exact ⟨rfl, rfl, hp⟩
 | case3 id ops fr H fr1 H1 hr =>
  intro ex fr' H' h
  simp only [Option.some.injEq, Prod.mk.injEq] at h
  obtain ⟨rfl, rfl, rfl⟩ := h
  refine ⟨runOR_dom hcall _ _ _ _ _ hr, fun w0 μ E W a cs hcs hf hfree hg hw => wpS_region ?_⟩
  have := runOR_ok (Q := fun e a' cs' W' => cs' = cs ∧ PostC [] P w0 μ E H.next Ex.normal fr1 H1 e a' W') hN hcall hcs ops.toList 0 _ _ _ _ μ a W (fun j => by simp) hr hf hfree hg hw fun a' W' hp => ⟨rfl, rfl, hp⟩
  rwa [Array.length_toList, ← List.range_eq_range'] at this
 | case4 id ops fr H hr =>
  intro ex fr' H' h
  cases h
 | case5 id ops fr H =>
  intro ex fr' H' h
  exact rok_of (hgo _ _ _ _ _ _ h)
 | case6 c fr H _ _ =>
  intro ex fr' H' h
  exact rok_of (hgo _ _ _ _ _ _ h)
theorem stepR_ok (hN : NoNum P) {call : CallF} (hcall : ∀ f args H v H', call f args H = some (v, H') → q1o P ng f args H v H') {go : Code → List Value → Heap → Option (Ex × List Value × Heap)}
  (hgo : ∀ c fr H ex fr' H', go c fr H = some (ex, fr', H') → q3e P ng c fr H ex fr' H') {f : Nat} {args : List Value} {v : Value} {H' : Heap} (h : stepR P ng call go f args H = some (v, H')) :
  Dom H H' ∧ (∃ fn c, P.funcs[f]? = some fn ∧ fn.body = some c) ∧ ∀ (w0 : World) (μ : Nat → Option Loc) (E : Nat → Option AObj) (W : World) (args' : Array Value), Free μ H.next → Glob μ ng → HR P w0 μ (ov H E) W → VL μ args args'.toList →
   CallsD P f args' .returning W fun e u' W' => u' = .returning ∧ ∃ μ' v', e = .returned v' ∧ ExtN H.next μ μ' ∧ VR μ' v v' ∧ Free μ' H'.next ∧ HR P w0 μ' (ov H' E) W' := by
 unfold stepR at h
 split at h
 ·cases h
 ·rename_i fn hfn
  split at h
  ·cases h
  ·rename_i c hc
   split at h
   ·cases h
   ·rename_i ex fr H1 hex hrun
    split at h
    ·rename_i vs hvs
     simp only [Option.some.injEq, Prod.mk.injEq] at h
     obtain ⟨rfl, rfl⟩ := h
     have hok := runR_ok hN hcall hgo _ _ _ _ _ _ hrun
     refine ⟨hok.dom, ⟨fn, c, hfn, hc⟩, fun w0 μ E W args' hfree hglob hw hargs => ?_⟩
     refine callsD_of_wpS hfn hc fun c0 cs hmode => ?_
     have hsz : args'.size = args.length := by have := hargs.1; simpa using this.symm
     have hf : FR [] μ (args ++ List.replicate (fn.ntmps - args.length) undef) { tmps := args' ++ Array.replicate (fn.ntmps - args'.size) undef, defers := [] } := by
      refine ⟨rfl, ?_⟩
      simp only [Array.toList_append, Array.toList_replicate, hsz]
      refine hargs.append ⟨rfl, fun i x y hx hy => ?_⟩
      rw [hx] at hy; cases hy
      have := List.eq_of_mem_replicate (List.mem_of_getElem? hx)
      rw [this]; exact VR.undef
     refine wpS_mono (hok.wp w0 μ E W _ (c0 :: cs) (by simp [recoverD, hmode]) hf hfree hglob hw) fun e a cs' W' hp => ?_
     obtain ⟨rfl, rfl, μ', p1, p2, p3, p4⟩ := hp
     obtain ⟨v', r1, r2⟩ := q34 (LeG.ov H1 E) p2 p4 hvs
     have hc0 : c0 :: cs = { c0 with mode := .returning } :: cs := by rw [← hmode]
     cases ex with
     | normal => exact ⟨p2.1, .returning, hc0, v', r1, rfl, μ', v', rfl, p1, r2, p3, p4⟩
     | ret => exact ⟨p2.1, .returning, hc0, v', r1, rfl, μ', v', rfl, p1, r2, p3, p4⟩
     | exit id => exact (hex id rfl).elim
    ·cases h
   ·cases h
end
end Go.Proofs.YtokdiacjcbolfaaDoor.X
namespace Go.Proofs.YtokdiacjcbolfaaDoor.X
open Go Go.RowKit
abbrev PD := Nat × List Value
noncomputable def adefer (ng : Nat) (o : Oper) (fr : List Value) : Option PD := match o.op with
 | .defer c => match c.callee with
  | .value f => match opd1 ng f && c.args.toList.all (opd1 ng) with
   | true => match aev fr f with
    | .func (.func g) first captured => some (g, first.toList ++ c.args.toList.map (aev fr) ++ captured.toList)
    | _ => none
   | false => none
  | _ => none
 | _ => none
noncomputable def runOT (P : Program) (ng : Nat) (call : CallF) (ops : Array Oper) : List Oper → List Value → List PD → Heap → Option (List Value × List PD × Heap)
 | [], fr, ds, H => some (fr, ds, H)
 | o :: r, fr, ds, H => match awant ops fr o with
  | false => runOT P ng call ops r (fput fr o.dst undef) ds H
  | true => match adefer ng o fr with
   | some d => runOT P ng call ops r (fput fr o.dst undef) (d :: ds) H
   | none => match opsOk ng o.op with
    | false => none
    | true => match aop P H.get o (aev fr) with
     | none => none
     | some res => match q2v call H res with
      | none => none
      | some (v, H') => runOT P ng call ops r (fput fr o.dst v) ds H'
noncomputable def runT (P : Program) (ng : Nat) (call : CallF) (go : Code → List Value → Heap → Option (Ex × List Value × Heap)) : Code → List Value → List PD → Heap → Option (Ex × List Value × List PD × Heap)
 | .seq x y, fr, ds, H => match runT P ng call go x fr ds H with
  | some (.normal, fr', ds', H') => runT P ng call go y fr' ds' H'
  | r => r
 | .cond b x y, fr, ds, H => match opd1 ng b with
  | false => none
  | true => match aev fr b with
   | .bool true => runT P ng call go x fr ds H
   | .bool false => runT P ng call go y fr ds H
   | _ => none
 | .region id ops draw, fr, ds, H => match draw with
  | false => match runOT P ng call ops ops.toList fr ds H with
   | some (fr', ds', H') => some (.normal, fr', ds', H')
   | none => none
  | true => match go (.region id ops true) fr H with
   | some (ex, fr', H') => some (ex, fr', ds, H')
   | none => none
 | c, fr, ds, H => match go c fr H with
  | some (ex, fr', H') => some (ex, fr', ds, H')
  | none => none
noncomputable def stepD (P : Program) (ng : Nat) (call : CallF) (go : Code → List Value → Heap → Option (Ex × List Value × Heap)) (g : Nat) (xs : List Value) (H : Heap) : Option (Value × Heap) := match stepF P (fun _ => none) go g xs H with
 | some r => some r
 | none => stepR P ng call go g xs H
noncomputable def runDs (P : Program) (ng : Nat) (call : CallF) (go : Code → List Value → Heap → Option (Ex × List Value × Heap)) : List PD → Heap → Option Heap
 | [], H => some H
 | (g, xs) :: r, H => match stepD P ng call go g xs H with
  | some (_, H') => runDs P ng call go r H'
  | none => none
noncomputable def runTF (P : Program) (ng : Nat) (lib : Nat → Option (List Value → Heap → Option (Value × Heap))) (n : Nat) (f : Nat) (args : List Value) (H : Heap) : Option (Value × Heap) := match P.funcs[f]? with
 | none => none
 | some fn => match fn.body with
  | none => none
  | some c => match runT P ng (runF P ng lib n) (runC P ng lib n) c (args ++ List.replicate (fn.ntmps - args.length) undef) [] H with
   | some (ex, fr, ds, H1) => match ex with
    | .exit _ => none
    | _ => match runDs P ng (runF P ng lib n) (runC P ng lib n) ds H1 with
     | none => none
     | some H2 => match ares P fr H2 fn.results.toList with
      | some vs => some (oneOf vs, H2)
      | none => none
   | none => none
def DR1 (μ : Nat → Option Loc) (p : PD) (d : Deferred) : Prop := ∃ cap args, d = { target := .fn (.func p.1) cap, args := args } ∧ VL μ p.2 (args.toList ++ cap.toList)
inductive DR (μ : Nat → Option Loc) : List PD → List Deferred → Prop
 | nil : DR μ [] []
 | cons {p d ps ds} (h : DR1 μ p d) (hs : DR μ ps ds) : DR μ (p :: ps) (d :: ds)
theorem DR.ext {μ μ' : Nat → Option Loc} (he : Ext μ μ') {ps : List PD} {ds : List Deferred} (h : DR μ ps ds) : DR μ' ps ds := by
 induction h with
 | nil => exact .nil
 | cons h _ ih =>
  obtain ⟨cap, args, h1, h2⟩ := h
  exact .cons ⟨cap, args, h1, h2.ext he⟩ ih
section
variable {P : Program} {ng : Nat} {w0 W : World} {μ : Nat → Option Loc} {H : Heap} {E : Nat → Option AObj} {fr : List Value} {a : Act} {ops : Array Oper} {Ds : List Deferred} {ds : List PD}
theorem adefer_ok {o : Oper} {d : PD} (h : adefer ng o fr = some d) (hf : FR Ds μ fr a) (hg : Glob μ ng) : ∃ D, (∀ W, (execOp a.eval o).run P W = .ok (.defer D) W) ∧ DR1 μ d D := by
 unfold adefer at h
 split at h
 ·rename_i c ho
  split at h
  ·rename_i f hc
   split at h
   ·rename_i hb
    simp only [Bool.and_eq_true] at hb
    have h1 := hf.ev hg hb.1
    split at h
    ·rename_i g first captured e
     cases h
     rw [e] at h1
     generalize hy : a.eval f = y at h1
     cases h1 with
     | func hs1 q1 hs2 q2 =>
      rename_i first' captured'
      have v1 : VL μ first.toList first'.toList := ⟨by simpa using hs1, fun i x y hx hy => q1 i x y (by simpa using hx) (by simpa using hy)⟩
      have v2 : VL μ captured.toList captured'.toList := ⟨by simpa using hs2, fun i x y hx hy => q2 i x y (by simpa using hx) (by simpa using hy)⟩
      have v3 : VL μ (c.args.toList.map (aev fr)) (c.args.toList.map a.eval) := VL.map fun x hx => hf.ev hg (List.all_eq_true.mp hb.2 x hx)
      refine ⟨{ target := .fn (.func g) captured', args := first' ++ c.args.map a.eval }, fun W => ?_, captured', first' ++ c.args.map a.eval, rfl, ?_⟩
      ·simp [execOp, ho, resolve, hc, hy, Deferred.ofValue]
      ·simpa using (v1.append v3).append v2
    ·cases h
   ·cases h
  ·cases h
 ·cases h
theorem runOT_dom {call : CallF} (hcall : ∀ f args H v H', call f args H = some (v, H') → q1o P ng f args H v H') : ∀ (l : List Oper) (fr : List Value) (ds : List PD) (H : Heap) (fr' : List Value) (ds' : List PD) (H' : Heap), runOT P ng call ops l fr ds H = some (fr', ds', H') → Dom H H' := by
 intro l
 induction l with
 | nil => intro fr ds H fr' ds' H' h; simp only [runOT, Option.some.injEq, Prod.mk.injEq] at h; rw [← h.2.2]; exact .refl _
 | cons o r ih =>
  intro fr ds H fr' ds' H' h
  unfold runOT at h
  split at h
  ·exact ih _ _ _ _ _ _ h
  ·split at h
   ·exact ih _ _ _ _ _ _ h
   ·split at h
    ·cases h
    ·split at h
     ·cases h
     ·split at h
      ·cases h
      ·rename_i v H1 h3
       exact (q2d hcall h3).trans (ih _ _ _ _ _ _ h)
theorem runOT_ok (hN : NoNum P) {call : CallF} (hcall : ∀ f args H v H', call f args H = some (v, H') → q1o P ng f args H v H') {Q : Exit → Act → World → Prop} : ∀ (l : List Oper) (fr : List Value) (ds : List PD) (H : Heap) (fr' : List Value) (ds' : List PD) (H' : Heap) (μ : Nat → Option Loc) (a : Act) (W : World) (Ds : List Deferred),
  runOT P ng call ops l fr ds H = some (fr', ds', H') → FR Ds μ fr a → DR μ ds Ds → Free μ H.next → Glob μ ng → HR P w0 μ (ov H E) W →
  (∀ a' W' Ds' μ', DR μ' ds' Ds' → ExtN H.next μ μ' → FR Ds' μ' fr' a' → Free μ' H'.next → HR P w0 μ' (ov H' E) W' → Q .normal a' W') → wpList P ops Q l a W := by
 intro l
 induction l with
 | nil =>
  intro fr ds H fr' ds' H' μ a W Ds h hf hd hfree hg hw hQ
  simp only [runOT, Option.some.injEq, Prod.mk.injEq] at h
  obtain ⟨rfl, rfl, rfl⟩ := h
  exact hQ a W Ds μ hd (.refl _ μ) hf hfree hw
 | cons o r ih =>
  intro fr ds H fr' ds' H' μ a W Ds h hf hd hfree hg hw hQ
  unfold runOT at h
  unfold wpList
  rw [hf.want]
  split at h
  ·rename_i hwant
   rw [hwant, if_neg (by simp)]
   exact ih _ _ _ _ _ _ μ _ W Ds h (hf.put o.dst VR.undef) hd hfree hg hw hQ
  ·rename_i hwant
   rw [hwant, if_pos rfl]
   left
   split at h
   ·rename_i d hde
    obtain ⟨D, h1, h2⟩ := adefer_ok (P := P) hde hf hg
    unfold Oper.wp
    rw [h1 W, Oper.upon_defer]
    have hf2 : FR (D :: Ds) μ fr { a with defers := D :: a.defers } := ⟨by rw [← hf.1], hf.2⟩
    exact ih _ _ _ _ _ _ μ _ W (D :: Ds) h (hf2.put o.dst VR.undef) (.cons h2 hd) hfree hg hw hQ
   ·split at h
    ·cases h
    ·rename_i h1
     split at h
     ·cases h
     ·rename_i res h2
      split at h
      ·cases h
      ·rename_i v H1 h3
       refine stepP hN hcall (FR.opsR hf hg (q3m h1)) h2 h3 hfree hg hw fun μ' v' W' e1 e2 e3 e4 => ?_
       refine ih _ _ _ _ _ _ μ' _ W' Ds h ((hf.ext e1.ext).put o.dst e2) (hd.ext e1.ext) e3 (hg.ext e1.ext) e4 fun a' W'' Ds' μ2 p0 p1 p2 p3 p4 => ?_
       exact hQ a' W'' Ds' μ2 p0 (e1.trans p1 (q2d hcall h3).next) p2 p3 p4
structure TOk (P : Program) (ng : Nat) (c : Code) (fr : List Value) (ds : List PD) (H : Heap) (ex : Ex) (fr' : List Value) (ds' : List PD) (H' : Heap) : Prop where
 dom : Dom H H'
 wp : ∀ (Ds : List Deferred) (w0 : World) (μ : Nat → Option Loc) (E : Nat → Option AObj) (W : World) (a : Act), FR Ds μ fr a → DR μ ds Ds → Free μ H.next → Glob μ ng → HR P w0 μ (ov H E) W →
  c.wp P (fun e a' W' => e = ex.toExit ∧ ∃ Ds' μ', DR μ' ds' Ds' ∧ ExtN H.next μ μ' ∧ FR Ds' μ' fr' a' ∧ Free μ' H'.next ∧ HR P w0 μ' (ov H' E) W') a W
theorem tok_of {c : Code} {ex : Ex} {fr' : List Value} {H' : Heap} (h : q3e P ng c fr H ex fr' H') (ds : List PD) : TOk P ng c fr ds H ex fr' ds H' :=
 ⟨h.dom, fun Ds w0 μ E W a hf hd hfree hg hw => wp_mono (h.wp Ds w0 μ E W a hf hfree hg hw) fun e a' W' hp => by
  obtain ⟨h1, μ', p1, p2, p3, p4⟩ := hp
  exact ⟨h1, Ds, μ', hd.ext p1.ext, p1, p2, p3, p4⟩⟩
theorem runT_ok (hN : NoNum P) {call : CallF} (hcall : ∀ f args H v H', call f args H = some (v, H') → q1o P ng f args H v H') {go : Code → List Value → Heap → Option (Ex × List Value × Heap)}
  (hgo : ∀ c fr H ex fr' H', go c fr H = some (ex, fr', H') → q3e P ng c fr H ex fr' H') : ∀ (c : Code) (fr : List Value) (ds : List PD) (H : Heap) (ex : Ex) (fr' : List Value) (ds' : List PD) (H' : Heap),
  runT P ng call go c fr ds H = some (ex, fr', ds', H') → TOk P ng c fr ds H ex fr' ds' H' := by
 intro c fr ds H
 have leaf : ∀ (c : Code) (fr : List Value) (ds : List PD) (H : Heap) (ex : Ex) (fr' : List Value) (ds' : List PD) (H' : Heap), (match go c fr H with
   | some (ex, fr', H') => some (ex, fr', ds, H')
   | none => none) = some (ex, fr', ds', H') → TOk P ng c fr ds H ex fr' ds' H' := by
  intro c fr ds H ex fr' ds' H' h
  split at h
  ·rename_i hr
   simp only [Option.some.injEq, Prod.mk.injEq] at h
   obtain ⟨rfl, rfl, rfl, rfl⟩ := h
   exact tok_of (hgo _ _ _ _ _ _ hr) _
  ·cases h
 fun_induction runT P ng call go c fr ds H with
 | case1 x y fr ds H fr1 ds1 H1 hx ihx ihy =>
  intro ex fr' ds' H' h
  have h1 := ihx _ _ _ _ hx
  have h2 := ihy _ _ _ _ h
  refine ⟨h1.dom.trans h2.dom, fun Ds w0 μ E W a hf hd hfree hg hw => wp_seq ?_⟩
  refine wp_mono (h1.wp Ds w0 μ E W a hf hd hfree hg hw) fun e a' W' hp => ?_
  obtain ⟨rfl, Ds', μ', p0, p1, p2, p3, p4⟩ := hp
  refine wp_mono (h2.wp Ds' w0 μ' E W' a' p2 p0 p3 (hg.ext p1.ext) p4) fun e a2 W2 hq => ?_
  obtain ⟨q0, Ds2, μ2, q1, q2, q3⟩ := hq
  exact ⟨q0, Ds2, μ2, q1, p1.trans q2 h1.dom.next, q3⟩
 | case2 x y fr ds H hne ihx =>
  intro ex fr' ds' H' h
  have h1 := ihx _ _ _ _ h
  refine ⟨h1.dom, fun Ds w0 μ E W a hf hd hfree hg hw => wp_seq ?_⟩
  refine wp_mono (h1.wp Ds w0 μ E W a hf hd hfree hg hw) fun e a' W' hp => ?_
  obtain ⟨rfl, hp⟩ := hp
  cases ex with
  | normal => exact absurd h (hne _ _ _)
  | _ => exact ⟨rfl, hp⟩
 | case3 b x y fr ds H hb =>
  intro ex fr' ds' H' h
  cases h
 | case4 b x y fr ds H hb hv ih =>
  intro ex fr' ds' H' h
  have h1 := ih _ _ _ _ h
  refine ⟨h1.dom, fun Ds w0 μ E W a hf hd hfree hg hw => ?_⟩
  have h2 := hf.ev hg hb
  rw [hv] at h2
  exact wp_cond_true (q1j rfl h2) (h1.wp Ds w0 μ E W a hf hd hfree hg hw)
 | case5 b x y fr ds H hb hv ih =>
  intro ex fr' ds' H' h
  have h1 := ih _ _ _ _ h
  refine ⟨h1.dom, fun Ds w0 μ E W a hf hd hfree hg hw => ?_⟩
  have h2 := hf.ev hg hb
  rw [hv] at h2
  exact wp_cond_false (q1j rfl h2) (h1.wp Ds w0 μ E W a hf hd hfree hg hw)
 | case6 b x y fr ds H hb hn1 hn2 =>
  intro ex fr' ds' H' h
  cases h
 | case7 id ops fr ds H fr1 ds1 H1 hr =>
  intro ex fr' ds' H' h
  simp only [Option.some.injEq, Prod.mk.injEq] at h
  obtain ⟨rfl, rfl, rfl, rfl⟩ := h
  exact ⟨runOT_dom hcall _ _ _ _ _ _ _ hr, fun Ds w0 μ E W a hf hd hfree hg hw => wp_region_list (runOT_ok hN hcall _ _ _ _ _ _ _ μ a W Ds hr hf hd hfree hg hw
   fun a' W' Ds' μ' p0 p1 p2 p3 p4 => ⟨rfl, Ds', μ', p0, p1, p2, p3, p4⟩)⟩
 | case8 id ops fr ds H hr =>
  intro ex fr' ds' H' h
  cases h
 | case9 id ops fr ds H ex1 fr1 H1 hr =>
  intro ex fr' ds' H' h
  exact leaf _ _ _ _ _ _ _ _ (by rw [hr]; exact h)
 | case10 id ops fr ds H hr =>
  intro ex fr' ds' H' h
  cases h
 | case11 c fr ds H _ _ _ ex1 fr1 H1 hr =>
  intro ex fr' ds' H' h
  exact leaf _ _ _ _ _ _ _ _ (by rw [hr]; exact h)
 | case12 c fr ds H _ _ _ hr =>
  intro ex fr' ds' H' h
  cases h
theorem stepB_wp {go : Code → List Value → Heap → Option (Ex × List Value × Heap)} (hgo : ∀ c fr H ex fr' H', go c fr H = some (ex, fr', H') → q3e P ng c fr H ex fr' H')
  {f : Nat} {args : List Value} {v : Value} {H' : Heap} (h : stepF P (fun _ => none) go f args H = some (v, H')) : Dom H H' ∧ ∃ fn c, P.funcs[f]? = some fn ∧ fn.body = some c ∧
   ∀ (w0 : World) (μ : Nat → Option Loc) (E : Nat → Option AObj) (W : World) (args' : Array Value), Free μ H.next → Glob μ ng → HR P w0 μ (ov H E) W → VL μ args args'.toList →
    c.wp P (bodyPost P fn fun e W' => ∃ μ' v', e = .returned v' ∧ ExtN H.next μ μ' ∧ VR μ' v v' ∧ Free μ' H'.next ∧ HR P w0 μ' (ov H' E) W') { tmps := args' ++ Array.replicate (fn.ntmps - args'.size) undef, defers := [] } W := by
 unfold stepF at h
 simp only at h
 split at h
 ·cases h
 ·rename_i fn hfn
  split at h
  ·cases h
  ·rename_i c hc
   have key : ∀ ex fr, (ex = .normal ∨ ex = .ret) → go c (args ++ List.replicate (fn.ntmps - args.length) undef) H = some (ex, fr, H') → ∀ vs, ares P fr H' fn.results.toList = some vs → v = oneOf vs → Dom H H' ∧ ∃ fn c, P.funcs[f]? = some fn ∧ fn.body = some c ∧
     ∀ (w0 : World) (μ : Nat → Option Loc) (E : Nat → Option AObj) (W : World) (args' : Array Value), Free μ H.next → Glob μ ng → HR P w0 μ (ov H E) W → VL μ args args'.toList →
      c.wp P (bodyPost P fn fun e W' => ∃ μ' v', e = .returned v' ∧ ExtN H.next μ μ' ∧ VR μ' v v' ∧ Free μ' H'.next ∧ HR P w0 μ' (ov H' E) W') { tmps := args' ++ Array.replicate (fn.ntmps - args'.size) undef, defers := [] } W := by
    intro ex fr hex hrun vs hvs hv
    subst hv
    have hok := hgo _ _ _ _ _ _ hrun
    refine ⟨hok.dom, fn, c, hfn, hc, fun w0 μ E W args' hfree hglob hw hargs => ?_⟩
    have hsz : args'.size = args.length := by have := hargs.1; simpa using this.symm
    have hf : FR [] μ (args ++ List.replicate (fn.ntmps - args.length) undef) { tmps := args' ++ Array.replicate (fn.ntmps - args'.size) undef, defers := [] } := by
     refine ⟨rfl, ?_⟩
     simp only [Array.toList_append, Array.toList_replicate, hsz]
     refine hargs.append ⟨rfl, fun i x y hx hy => ?_⟩
     rw [hx] at hy; cases hy
     have := List.eq_of_mem_replicate (List.mem_of_getElem? hx)
     rw [this]; exact VR.undef
    refine wp_mono (hok.wp [] w0 μ E W _ hf hfree hglob hw) fun e a W' hp => ?_
    obtain ⟨rfl, μ', p1, p2, p3, p4⟩ := hp
    obtain ⟨v', r1, r2⟩ := q34 (LeG.ov H' E) p2 p4 hvs
    rcases hex with rfl | rfl
    ·exact ⟨p2.1, v', r1, μ', v', rfl, p1, r2, p3, p4⟩
    ·exact ⟨p2.1, v', r1, μ', v', rfl, p1, r2, p3, p4⟩
   split at h
   ·rename_i fr H1 hrun
    split at h
    ·rename_i vs hvs
     simp only [Option.some.injEq, Prod.mk.injEq] at h
     obtain ⟨h1, rfl⟩ := h
     exact key _ _ (.inl rfl) hrun vs hvs h1.symm
    ·cases h
   ·rename_i fr H1 hrun
    split at h
    ·rename_i vs hvs
     simp only [Option.some.injEq, Prod.mk.injEq] at h
     obtain ⟨h1, rfl⟩ := h
     exact key _ _ (.inr rfl) hrun vs hvs h1.symm
    ·cases h
   ·cases h
theorem stepD_ok (hN : NoNum P) {call : CallF} (hcall : ∀ f args H v H', call f args H = some (v, H') → q1o P ng f args H v H') {go : Code → List Value → Heap → Option (Ex × List Value × Heap)}
  (hgo : ∀ c fr H ex fr' H', go c fr H = some (ex, fr', H') → q3e P ng c fr H ex fr' H') {f : Nat} {args : List Value} {v : Value} {H' : Heap} (h : stepD P ng call go f args H = some (v, H')) :
  Dom H H' ∧ (∃ fn c, P.funcs[f]? = some fn ∧ fn.body = some c) ∧ ∀ (w0 : World) (μ : Nat → Option Loc) (E : Nat → Option AObj) (W : World) (args' : Array Value), Free μ H.next → Glob μ ng → HR P w0 μ (ov H E) W → VL μ args args'.toList →
   CallsD P f args' .returning W fun e u' W' => u' = .returning ∧ ∃ μ' v', e = .returned v' ∧ ExtN H.next μ μ' ∧ VR μ' v v' ∧ Free μ' H'.next ∧ HR P w0 μ' (ov H' E) W' := by
 unfold stepD at h
 split at h
 ·rename_i r hr
  cases h
  obtain ⟨hdom, fn, c, hfn, hc, hwp⟩ := stepB_wp (ng := ng) hgo hr
  exact ⟨hdom, ⟨fn, c, hfn, hc⟩, fun w0 μ E W args' h1 h2 h3 h4 => callsD_of_wp hfn hc (hwp w0 μ E W args' h1 h2 h3 h4)⟩
 ·exact stepR_ok hN hcall hgo h
theorem runDs_dom (hN : NoNum P) {call : CallF} (hcall : ∀ f args H v H', call f args H = some (v, H') → q1o P ng f args H v H') {go : Code → List Value → Heap → Option (Ex × List Value × Heap)} (hgo : ∀ c fr H ex fr' H', go c fr H = some (ex, fr', H') → q3e P ng c fr H ex fr' H') : ∀ (ds : List PD) (H H' : Heap), runDs P ng call go ds H = some H' → Dom H H' := by
 intro ds
 induction ds with
 | nil => intro H H' h; simp only [runDs, Option.some.injEq] at h; rw [h]; exact .refl _
 | cons p r ih =>
  intro H H' h
  obtain ⟨g, xs⟩ := p
  simp only [runDs] at h
  split at h
  ·rename_i v H1 h1
   exact (stepD_ok hN hcall hgo h1).1.trans (ih _ _ h)
  ·cases h
theorem runDs_ok (hN : NoNum P) {call : CallF} (hcall : ∀ f args H v H', call f args H = some (v, H') → q1o P ng f args H v H') {go : Code → List Value → Heap → Option (Ex × List Value × Heap)} (hgo : ∀ c fr H ex fr' H', go c fr H = some (ex, fr', H') → q3e P ng c fr H ex fr' H')
  {fn : Func} {a : Act} {fr : List Value} {vs : List Value} {H2 : Heap} (hvs : ares P fr H2 fn.results.toList = some vs) {E : Nat → Option AObj} {w0 : World} {n : Nat} {μ0 : Nat → Option Loc} : ∀ (ds : List PD) (H : Heap) (Ds Dx : List Deferred) (μ : Nat → Option Loc) (W : World),
  runDs P ng call go ds H = some H2 → n ≤ H.next → ExtN n μ0 μ → DR μ ds Ds → FR Dx μ fr a → Free μ H.next → Glob μ ng → HR P w0 μ (ov H E) W →
  Leaves P fn a.tmps (fun e W' => ∃ μ' v', e = .returned v' ∧ ExtN n μ0 μ' ∧ VR μ' (oneOf vs) v' ∧ Free μ' H2.next ∧ HR P w0 μ' (ov H2 E) W') Ds .returning W := by
 intro ds
 induction ds with
 | nil =>
  intro H Ds Dx μ W h hn he hd hf hfree hg hw
  simp only [runDs, Option.some.injEq] at h
  subst h
  cases hd
  obtain ⟨v', r1, r2⟩ := q34 (LeG.ov H E) hf hw hvs
  exact ⟨v', r1, μ, v', rfl, he, r2, hfree, hw⟩
 | cons p r ih =>
  intro H Ds Dx μ W h hn he hd hf hfree hg hw
  obtain ⟨g, xs⟩ := p
  simp only [runDs] at h
  split at h
  ·rename_i v H1 h1
   cases hd with
   | cons hd1 hds =>
    obtain ⟨cap, args, rfl, hv⟩ := hd1
    obtain ⟨hdom, ⟨fn2, c2, hfn2, hc2⟩, hcd⟩ := stepD_ok hN hcall hgo h1
    have hne := hN g fn2 hfn2 (by rw [hc2]; rfl)
    refine leaves_cons (f := g) (args := args ++ cap) (by simp) ?_ ?_
    ·simp [invoke, callFunc, hfn2, hne, hc2]
    ·refine (hcd w0 μ E W (args ++ cap) hfree hg hw (by simpa using hv)).mono ?_
     rintro e u' W' ⟨rfl, μ', v', rfl, q1, q2, q3, q4⟩
     exact ih H1 _ Dx μ' W' h (Nat.le_trans hn hdom.next) (he.trans q1 hn) (hds.ext q1.ext) (hf.ext q1.ext) q3 (hg.ext q1.ext) q4
  ·cases h
theorem runTF_ok (hN : NoNum P) (hmix : P.follows .mixedOrders = true) {lib : Nat → Option (List Value → Heap → Option (Value × Heap))} (hlib : LibOk P ng lib) (n f : Nat) (args : List Value) (H : Heap) (v : Value) (H' : Heap) (h : runTF P ng lib n f args H = some (v, H')) : q1o P ng f args H v H' := by
 have hgo := (runC_ok hN hmix hlib n).1
 have hcall : ∀ f args H v H', runF P ng lib n f args H = some (v, H') → q1o P ng f args H v H' := runF_ok hN hmix hlib n
 unfold runTF at h
 split at h
 ·cases h
 ·rename_i fn hfn
  split at h
  ·cases h
  ·rename_i c hc
   split at h
   ·rename_i ex fr ds H1 hrun
    split at h
    ·cases h
    ·rename_i hex
     split at h
     ·cases h
     ·rename_i H2 hds
      split at h
      ·rename_i vs hvs
       simp only [Option.some.injEq, Prod.mk.injEq] at h
       obtain ⟨rfl, rfl⟩ := h
       have hok := runT_ok hN hcall hgo _ _ _ _ _ _ _ _ hrun
       have hdd := runDs_dom hN hcall hgo _ _ _ hds
       refine ⟨hok.dom.trans hdd, fun w0 μ E W args' hfree hglob hw hargs => ?_⟩
       unfold Calls2
       simp only [hfn, Option.bind_some, hc]
       refine calls_of_wp_defers hfn hc ?_
       have hsz : args'.size = args.length := by have := hargs.1; simpa using this.symm
       have hf : FR [] μ (args ++ List.replicate (fn.ntmps - args.length) undef) { tmps := args' ++ Array.replicate (fn.ntmps - args'.size) undef, defers := [] } := by
        refine ⟨rfl, ?_⟩
        simp only [Array.toList_append, Array.toList_replicate, hsz]
        refine hargs.append ⟨rfl, fun i x y hx hy => ?_⟩
        rw [hx] at hy; cases hy
        have := List.eq_of_mem_replicate (List.mem_of_getElem? hx)
        rw [this]; exact VR.undef
       refine wp_mono (hok.wp [] w0 μ E W _ hf .nil hfree hglob hw) fun e a W' hp => ?_
       obtain ⟨rfl, Ds', μ', p0, p1, p2, p3, p4⟩ := hp
       have hL := runDs_ok hN hcall hgo hvs ds H1 Ds' Ds' μ' W' hds hok.dom.next p1 p0 p2 p3 (hglob.ext p1.ext) p4
       rw [← p2.1] at hL
       cases ex with
       | normal => exact hL
       | ret => exact hL
       | exit id => exact absurd rfl (hex id)
      ·cases h
   ·cases h
end
end Go.Proofs.YtokdiacjcbolfaaDoor.X
namespace Go.Proofs.YtokdiacjcbolfaaDoor.X
open Go Go.RowKit
def nolib : Nat → Option (List Value → Heap → Option (Value × Heap)) := fun _ => none
def noNumB (P : Program) : Bool := P.funcs.toList.all fun fn => !fn.body.isSome || !(fn.name == "runtime.NumGoroutine")
theorem noNum_of {P : Program} (h : noNumB P = true) : NoNum P := by
 intro g fn hg hb hn
 have := List.all_eq_true.mp h fn (by
  have := List.mem_of_getElem? (l := P.funcs.toList) (i := g) (a := fn) (by rw [Array.getElem?_toList]; exact hg)
  exact this)
 simp [hb, hn] at this
theorem nolib_ok (P : Program) (ng : Nat) : LibOk P ng nolib := fun f g h => by cases h
def mu0 (ng k : Nat) : Option Loc := match Nat.blt k ng with
 | true => some ⟨k, 0, 0, 0⟩
 | false => none
def heap0 (ng : Nat) : Heap := ⟨ng, .leaf⟩
def told (x : Option (Value × Heap)) (v : Bool) : Bool := match x with
 | some (.bool b, _) => b == v
 | _ => false
theorem flatL {μ : Nat → Option Loc} : ∀ {args : List Value}, args.all flat = true → VL μ args args := by
 intro args
 induction args with
 | nil => intro _; exact .nil
 | cons x r ih =>
  intro h
  simp only [List.all_cons, Bool.and_eq_true] at h
  exact .cons (q1w h.1) (ih h.2)
abbrev Tab := Nat × Nat × List Value
def heapL (ng : Nat) : List Tab → Heap
 | [] => heap0 ng
 | p :: r => (heapL ng r).put p.1 (.ro p.2.2 p.2.1)
theorem heapL_get {ng : Nat} : ∀ {tabs : List Tab} {k : Nat} {o : AObj}, (heapL ng tabs).get k = some o → ∃ p ∈ tabs, k = p.1 ∧ o = .ro p.2.2 p.2.1 := by
 intro tabs
 induction tabs with
 | nil => intro k o h; simp [heapL, heap0, Heap.get, Trie.get] at h
 | cons p r ih =>
  intro k o h
  simp only [heapL, Heap.get_put] at h
  split at h
  ·rename_i hk; cases h; exact ⟨p, List.mem_cons_self, hk, rfl⟩
  ·obtain ⟨q, h1, h2⟩ := ih h; exact ⟨q, List.mem_cons_of_mem _ h1, h2⟩
theorem heapL_next {ng : Nat} : ∀ (tabs : List Tab), (heapL ng tabs).next = ng := by
 intro tabs
 induction tabs with
 | nil => rfl
 | cons p r ih => simpa [heapL, Heap.put] using ih
def muL (ng : Nat) (szf : Nat → Nat) (k : Nat) : Option Loc := match Nat.blt k ng with
 | true => some ⟨k, 0, szf k, 0⟩
 | false => none
def tabOk (P : Program) (ng : Nat) (szf : Nat → Nat) (p : Tab) : Bool := Nat.blt p.1 ng && decide ((P.info? p.2.1).map (·.size) = some (szf p.1)) && p.2.2.all flat1 && !p.2.2.isEmpty
theorem calls_of_runL {P : Program} {ng f n : Nat} {args : List Value} {b : Bool} {lib : Nat → Option (List Value → Heap → Option (Value × Heap))} {tabs : List Tab} (szf : Nat → Nat) (hN : noNumB P = true) (hmix : P.follows .mixedOrders = true) (hlib : LibOk P ng lib)
  (hbody : ((P.funcs[f]?).bind (·.body)).isSome = true) (ha : args.all flat = true) (ht : tabs.all (tabOk P ng szf) = true) (h : told (runF P ng lib n f args (heapL ng tabs)) b = true) (W : World)
  (hW : ∀ p ∈ tabs, ∀ (m : Nat) (u : Value), p.2.2[m]? = some u → W.cell? ⟨p.1, m, none⟩ = some u) :
  Calls P f args.toArray W fun e W' => e = .returned (.bool b) ∧ Below W.heap.size W W' := by
 unfold told at h
 split at h
 ·rename_i b' H' hr
  have hb : b' = b := by simpa using h
  subst hb
  have hov : ∀ k o, ov (heapL ng tabs) (fun _ => none) k = some o → ∃ p ∈ tabs, k = p.1 ∧ o = .ro p.2.2 p.2.1 := by
   intro k o hk
   unfold ov at hk
   split at hk
   ·rename_i o' h1; cases hk; exact heapL_get h1
   ·cases hk
  have hc := (runF_ok (noNum_of hN) hmix hlib n f args (heapL ng tabs) (.bool b') H' hr).calls W (muL ng szf) (fun _ => none) W args.toArray
   (fun k hk => by
    rw [heapL_next] at hk
    unfold muL
    split
    ·rename_i h1
     have h1 := Nat.le_of_ble_eq_true h1
     omega
    ·rfl)
   (fun g hg => by
    refine ⟨⟨g, 0, szf g, 0⟩, ?_, rfl, rfl⟩
    unfold muL
    have : Nat.blt g ng = true := Nat.ble_eq_true_of_le hg
    rw [this])
   ⟨Below.refl _ _, fun k c e hk => (by obtain ⟨p, _, _, h2⟩ := hov _ _ hk; cases h2), fun k c e hk => (by
     obtain ⟨p, hp, rfl, h2⟩ := hov _ _ hk
     cases h2
     have hp2 := List.all_eq_true.mp ht p hp
     simp only [tabOk, Bool.and_eq_true, decide_eq_true_eq] at hp2
     obtain ⟨⟨⟨q1, q2⟩, q3⟩, q4⟩ := hp2
     refine ⟨⟨p.1, 0, szf p.1, 0⟩, by unfold muL; rw [q1], ?_, q2, fun i x hx => ⟨x, ?_, q2l (List.all_eq_true.mp q3 x (List.mem_of_getElem? hx))⟩⟩
     ·cases hc : p.2.2 with
      | nil => rw [hc] at q4; simp at q4
      | cons x r =>
       have := hW p hp 0 x (by rw [hc]; rfl)
       simp only [World.cell?] at this
       split at this
       ·rename_i hq; exact wlt hq
       ·cases this
     ·have := hW p hp i x hx
      simpa using this), fun k k' c c' e e' l l' hk => (by obtain ⟨p, _, _, h2⟩ := hov _ _ hk; cases h2),
    fun k c e hk => (by obtain ⟨p, _, _, h2⟩ := hov _ _ hk; cases h2), fun k k' c c' e e' l l' hk => (by obtain ⟨p, _, _, h2⟩ := hov _ _ hk; cases h2)⟩
   (by simpa using flatL ha)
  unfold Calls2 at hc
  cases hq : (P.funcs[f]?).bind (·.body) with
  | none => rw [hq] at hbody; cases hbody
  | some c =>
   rw [hq] at hc
   refine hc.mono ?_
   rintro e W' ⟨μ', v', rfl, _, hv, _, hR⟩
   exact ⟨by rw [q1j (by rfl) hv], hR.below⟩
 ·cases h
end Go.Proofs.YtokdiacjcbolfaaDoor.X
namespace Go.Proofs.YtokdiacjcbolfaaDoor.X
open Go Go.RowKit
abbrev LibF := List Value → Heap → Option (Value × Heap)
def gLoad (k : IntKind) : LibF := fun args H => match args with
 | [.pointer (some ⟨b, o, none⟩)] => match H.get b with
  | some (.row c _) => match c[o]? with
   | some (.int k' n) => match beqK k' k with
    | true => some (.int k' n, H)
    | false => none
   | _ => none
  | _ => none
 | _ => none
def gStore : LibF := fun args H => match args with
 | [.pointer (some ⟨b, o, none⟩), .int k y] => match H.get b with
  | some (.row c e) => match c[o]? with
   | some _ => some (.tuple #[], H.put b (.row (putL c o [.int k y]) e))
   | none => none
  | _ => none
 | _ => none
def gAdd (k : IntKind) : LibF := fun args H => match args with
 | [.pointer (some ⟨b, o, none⟩), .int k1 y] => match H.get b with
  | some (.row c e) => match c[o]? with
   | some (.int k2 x) => match beqK k1 k && beqK k2 k with
    | true => some (.int k (k.wrap (x + y)), H.put b (.row (putL c o [.int k (k.wrap (x + y))]) e))
    | false => none
   | _ => none
  | _ => none
 | _ => none
def gSame : LibF := fun args H => match args with
 | [x] => some (x, H)
 | _ => none
def gRepeat : LibF := fun args H => match args with
 | [.string s, .int .i64 (.ofNat c)] => match Nat.ble c 9223372036854775807 && Nat.ble (s.data.toList.length * c) 140737488355328 with
  | true => some (.string ⟨⟨Lib.repeatL s.data.toList c⟩⟩, H)
  | false => none
 | _ => none
section
variable {P : Program} {ng : Nat} {w0 W : World} {μ : Nat → Option Loc} {G : Nat → Option AObj}
theorem HR.of_below (h : HR P w0 μ G W) {W' : World} (hb : Below W.heap.size W W') : HR P w0 μ G W' := by
 have hold : ∀ b o, W.heap[b]? = some o → W'.heap[b]? = some o := fun b o hq => (hb.block b (wlt hq)).trans hq
 refine ⟨⟨hb.os.trans h.below.os, hb.tape.trans h.below.tape, hb.output.trans h.below.output, Nat.le_trans h.below.size hb.size, fun i hi => (hb.block i (Nat.lt_of_lt_of_le hi h.below.size)).trans (h.below.block i hi)⟩, ?_, h.ro, h.inj, ?_, h.minj⟩
 ·intro k c e hk
  obtain ⟨l, C, fr, q1, q2, q3, q4⟩ := h.row k c e hk
  exact ⟨l, C, fr, q1, q2, hold _ _ q3, q4⟩
 ·intro k es cl hk
  obtain ⟨l, es', q1, q2, q3, q4⟩ := h.mp k es cl hk
  exact ⟨l, es', q1, q2, hold _ _ q3, q4⟩
theorem q2u {f : Nat} {args : List Value} {H : Heap} {v : Value} (hbody : ((P.funcs[f]?).bind (·.body)).isSome = true) (ha : args.all flat = true) (hv : flat v = true)
  (h : ∀ W, Calls P f args.toArray W fun e W' => e = .returned v ∧ Below W.heap.size W W') : q1o P ng f args H v H := by
 refine ⟨.refl _, fun w0 μ E W args' hfree hg hw hargs => ?_⟩
 have hargs' : args' = args.toArray := by
  apply Array.ext'
  have key : ∀ (xs ys : List Value), xs.all flat = true → VL μ xs ys → ys = xs := by
   intro xs
   induction xs with
   | nil => intro ys _ hl; exact hl.inv_nil
   | cons x r ih =>
    intro ys ha hl
    obtain ⟨y, ys', rfl, h1, h2⟩ := hl.inv_cons
    simp only [List.all_cons, Bool.and_eq_true] at ha
    rw [flat_eq ha.1 h1, ih _ ha.2 h2]
  simpa using key _ _ ha hargs
 subst hargs'
 unfold Calls2
 cases hq : (P.funcs[f]?).bind (·.body) with
 | none => rw [hq] at hbody; cases hbody
 | some c =>
  refine (h W).mono ?_
  rintro e W' ⟨rfl, hb⟩
  exact ⟨μ, v, rfl, .refl _ _, q1w hv, hfree, hw.of_below hb⟩
def valsEq : List Value → List Value → Bool
 | [], [] => true
 | x :: r, y :: s => veq1 x y && valsEq r s
 | _, _ => false
theorem valsEq_eq : ∀ {x y : List Value}, valsEq x y = true → x = y
 | [], [], _ => rfl
 | [], _ :: _, h => by simp [valsEq] at h
 | _ :: _, [], h => by simp [valsEq] at h
 | x :: r, y :: s, h => by
  simp only [valsEq, Bool.and_eq_true] at h
  rw [veq1_eq h.1, valsEq_eq h.2]
theorem callOk_belowT {f : Nat} {args : List Value} {H : Heap} {v : Value} (hbody : ((P.funcs[f]?).bind (·.body)).isSome = true) (ha : args.all flat = true) (hv : flat v = true)
  {g : Nat} {c : List Value} {e : Nat} (hk : H.get g = some (.ro c e)) (hlt : g < ng) (hc : c.all flat1 = true)
  (h : ∀ W, CA W g 0 c.toArray → Calls P f args.toArray W fun e W' => e = .returned v ∧ Below W.heap.size W W') : q1o P ng f args H v H := by
 refine ⟨.refl _, fun w0 μ E W args' hfree hg hw hargs => ?_⟩
 have hargs' : args' = args.toArray := by
  apply Array.ext'
  have key : ∀ (xs ys : List Value), xs.all flat = true → VL μ xs ys → ys = xs := by
   intro xs
   induction xs with
   | nil => intro ys _ hl; exact hl.inv_nil
   | cons x r ih =>
    intro ys ha hl
    obtain ⟨y, ys', rfl, h1, h2⟩ := hl.inv_cons
    simp only [List.all_cons, Bool.and_eq_true] at ha
    rw [flat_eq ha.1 h1, ih _ ha.2 h2]
  simpa using key _ _ ha hargs
 subst hargs'
 have hCA : CA W g 0 c.toArray := by
  intro m u hu
  have hu : c[m]? = some u := by simpa using hu
  obtain ⟨l, h1, h2, _, h4⟩ := hw.ro g c e (ov_get hk)
  obtain ⟨l', q1, q2, q3⟩ := hg g hlt
  rw [h1] at q1; cases q1
  obtain ⟨y, r1, r2⟩ := h4 m u hu
  rw [q1j (List.all_eq_true.mp hc u (List.mem_of_getElem? hu)) r2] at r1
  rw [q2, q3] at r1
  rw [hw.below.cell (p := ⟨g, 0 + m, none⟩) (by rw [← q2]; exact h2)]
  exact r1
 unfold Calls2
 cases hq : (P.funcs[f]?).bind (·.body) with
 | none => rw [hq] at hbody; cases hbody
 | some c =>
  refine (h W hCA).mono ?_
  rintro e W' ⟨rfl, hb⟩
  exact ⟨μ, v, rfl, .refl _ _, q1w hv, hfree, hw.of_below hb⟩
theorem callOk_ext {f : Nat} (hb : (P.funcs[f]?).bind (·.body) = none) {args : List Value} {H H' : Heap} {v : Value} (hd : Dom H H')
  (h : ∀ (w0 : World) (μ : Nat → Option Loc) (E : Nat → Option AObj) (W : World) (args' : List Value), HR P w0 μ (ov H E) W → VL μ args args' → ∃ v' W', (callFunc f args'.toArray).run P W = .ok (.value v') W' ∧ VR μ v v' ∧ HR P w0 μ (ov H' E) W') : q1o P ng f args H v H' := by
 refine ⟨hd, fun w0 μ E W args' hfree hg hw hargs => ?_⟩
 unfold Calls2
 rw [hb]
 obtain ⟨v', W', h1, h2, h3⟩ := h w0 μ E W args'.toList hw hargs
 rw [Array.toArray_toList] at h1
 exact ⟨v', W', h1, μ, v', rfl, .refl _ _, h2, fun k hk => hfree k (Nat.le_trans hd.next hk), h3⟩
theorem HR.cell_row (h : HR P w0 μ G W) {b o : Nat} {c : List Value} {e : Nat × Bool} {x : Value} (hk : G b = some (.row c e)) (hx : c[o]? = some x) {y : Value} (hy : VR μ (.pointer (some ⟨b, o, none⟩)) y) :
  ∃ l, μ b = some l ∧ y = .pointer (some ⟨l.b, l.p + o, none⟩) ∧ W.frozen? ⟨l.b, l.p + o, none⟩ = false ∧ ∃ x', W.cell? ⟨l.b, l.p + o, none⟩ = some x' ∧ VR μ x x' := by
 cases hy with
 | ptr hm =>
  rename_i l
  obtain ⟨l', C, fr, q1, q2, q3, q4, q5, ⟨_, q6, _⟩, q7⟩ := h.row b c e hk
  rw [hm] at q1; cases q1
  have ho : o < c.length := (List.getElem?_eq_some_iff.1 hx).1
  obtain ⟨x', h1, h2⟩ := h.cell (k := b) (c := c) (by simp [q2o, hk]) hm hx
  exact ⟨l, hm, rfl, (h.room hk hm (i := l.p + o) (by omega)).2, x', h1, h2⟩
theorem HR.write1 (h : HR P w0 μ G W) {b o : Nat} {l : Loc} {c : List Value} {e : Nat × Bool} {x v v' : Value} (hk : G b = some (.row c e)) (hm : μ b = some l) (hx : c[o]? = some x) (hv : VR μ v v') :
  HR P w0 μ (upd G b (.row (putL c o [v]) e)) (W.setCell ⟨l.b, l.p + o, none⟩ v') := by
 have ho : o < c.length := (List.getElem?_eq_some_iff.1 hx).1
 exact h.write (vs := [v]) (vs' := [v']) hk hm (by simp; omega) (.cons hv .nil)
variable {f : Nat} {fn : Func}
theorem body_none (hf : P.funcs[f]? = some fn) (hb : fn.body.isNone = true) : (P.funcs[f]?).bind (·.body) = none := by
 rw [hf]; simpa using hb
theorem gLoad_ok (k : IntKind) (hf : P.funcs[f]? = some fn) (hname : (fn.name == "runtime.NumGoroutine") = false) (hb : fn.body.isNone = true) (hn : Extern.findNext fn = none)
  (he : Extern.find fn = some (Extern.Atomic.loadT (.int k))) {args : List Value} {H H' : Heap} {v : Value} (h : gLoad k args H = some (v, H')) : q1o P ng f args H v H' := by
 unfold gLoad at h
 split at h
 ·rename_i b o
  split at h
  ·rename_i c e hk
   split at h
   ·rename_i k' n hx
    split at h
    ·rename_i hkk
     obtain rfl := beqK_eq hkk
     cases h
     refine callOk_ext (body_none hf hb) (.refl _) fun w0 μ E W args' hw hargs => ?_
     obtain ⟨y, ys, rfl, hy, hys⟩ := hargs.inv_cons
     obtain rfl := hys.inv_nil
     obtain ⟨l, h1, rfl, h3, x', h4, h5⟩ := hw.cell_row (ov_get hk) hx hy
     cases h5
     exact ⟨_, W, run_call_load hf hname hb hn k' he h4, .int _ _, hw⟩
    ·cases h
   ·cases h
  ·cases h
 ·cases h
theorem gStore_ok (hf : P.funcs[f]? = some fn) (hname : (fn.name == "runtime.NumGoroutine") = false) (hb : fn.body.isNone = true) (hn : Extern.findNext fn = none)
  (he : Extern.find fn = some Extern.Atomic.storeT) {args : List Value} {H H' : Heap} {v : Value} (h : gStore args H = some (v, H')) : q1o P ng f args H v H' := by
 unfold gStore at h
 split at h
 ·rename_i b o k y
  split at h
  ·rename_i c e hk
   split at h
   ·rename_i x hx
    cases h
    refine callOk_ext (body_none hf hb) (.put _ _ _) fun w0 μ E W args' hw hargs => ?_
    obtain ⟨p, ys, rfl, hy, hys⟩ := hargs.inv_cons
    obtain ⟨q, ys, rfl, hq, hys⟩ := hys.inv_cons
    obtain rfl := hys.inv_nil
    cases hq
    obtain ⟨l, h1, rfl, h3, x', h4, h5⟩ := hw.cell_row (ov_get hk) hx hy
    refine ⟨_, _, run_call_store hf hname hb hn he h4 h3, q1w rfl, ?_⟩
    rw [ov_put]
    exact hw.write1 (ov_get hk) h1 hx (.int _ _)
   ·cases h
  ·cases h
 ·cases h
theorem gAdd_ok (k : IntKind) (hf : P.funcs[f]? = some fn) (hname : (fn.name == "runtime.NumGoroutine") = false) (hb : fn.body.isNone = true) (hn : Extern.findNext fn = none)
  (he : Extern.find fn = some (Extern.Atomic.update (Op.intArith .add) k true)) {args : List Value} {H H' : Heap} {v : Value} (h : gAdd k args H = some (v, H')) : q1o P ng f args H v H' := by
 unfold gAdd at h
 split at h
 ·rename_i b o k1 y
  split at h
  ·rename_i c e hk
   split at h
   ·rename_i k2 x hx
    split at h
    ·rename_i hkk
     simp only [Bool.and_eq_true] at hkk
     obtain rfl := beqK_eq hkk.1
     obtain rfl := beqK_eq hkk.2
     cases h
     refine callOk_ext (body_none hf hb) (.put _ _ _) fun w0 μ E W args' hw hargs => ?_
     obtain ⟨p, ys, rfl, hy, hys⟩ := hargs.inv_cons
     obtain ⟨q, ys, rfl, hq, hys⟩ := hys.inv_cons
     obtain rfl := hys.inv_nil
     cases hq
     obtain ⟨l, h1, rfl, h3, x', h4, h5⟩ := hw.cell_row (ov_get hk) hx hy
     cases h5
     refine ⟨_, _, run_call_add hf hname hb hn k2 he h4 h3 (s := k2.wrap (x + y)) (by simp [Op.intArith]), .int _ _, ?_⟩
     rw [ov_put]
     exact hw.write1 (ov_get hk) h1 hx (.int _ _)
    ·cases h
   ·cases h
  ·cases h
 ·cases h
theorem gSame_ok (hf : P.funcs[f]? = some fn) (hname : (fn.name == "runtime.NumGoroutine") = false) (hb : fn.body.isNone = true) (hn : Extern.findNext fn = none)
  (he : Extern.find fn = some Extern.AbiNoEscape.same) {args : List Value} {H H' : Heap} {v : Value} (h : gSame args H = some (v, H')) : q1o P ng f args H v H' := by
 unfold gSame at h
 split at h
 ·rename_i x
  cases h
  refine callOk_ext (body_none hf hb) (.refl _) fun w0 μ E W args' hw hargs => ?_
  obtain ⟨p, ys, rfl, hy, hys⟩ := hargs.inv_cons
  obtain rfl := hys.inv_nil
  refine ⟨p, W, ?_, hy, hw⟩
  rw [run_callFunc_extern hf hname hb hn he]
  rfl
 ·cases h
theorem gRepeat_ok (hbody : ((P.funcs[f]?).bind (·.body)).isSome = true)
  (hrep : ∀ (s : ByteArray) (c : Nat) (w : World), c ≤ 9223372036854775807 → s.size * c ≤ 140737488355328 → Calls P f #[.string s, .int .i64 c] w fun e w' => e = .returned (.string ⟨(Lib.repeatL s.data.toList c).toArray⟩) ∧ Below w.heap.size w w')
  {args : List Value} {H H' : Heap} {v : Value} (h : gRepeat args H = some (v, H')) : q1o P ng f args H v H' := by
 unfold gRepeat at h
 split at h
 ·rename_i s c
  split at h
  ·rename_i hb
   simp only [Bool.and_eq_true] at hb
   cases h
   have h1 := Nat.le_of_ble_eq_true hb.1
   have h2 := Nat.le_of_ble_eq_true hb.2
   have h3 : s.data.toList.length = s.size := by rw [Array.length_toList]; rfl
   rw [h3] at h2
   exact q2u hbody rfl rfl fun W => hrep s c W h1 h2
  ·cases h
 ·cases h
end
def libOf : List (Nat × LibF) → Nat → Option LibF
 | [], _ => none
 | (g, x) :: r, f => match Nat.beq f g with
  | true => some x
  | false => libOf r f
theorem libOf_ok {P : Program} {ng : Nat} : ∀ {l : List (Nat × LibF)}, (∀ p ∈ l, ∀ args H v H', p.2 args H = some (v, H') → q1o P ng p.1 args H v H') → LibOk P ng (libOf l) := by
 intro l
 induction l with
 | nil => intro _ f g h; cases h
 | cons p r ih =>
  intro hl f g h args H v H' hr
  obtain ⟨q, x⟩ := p
  simp only [libOf] at h
  split at h
  ·rename_i hb
   cases h
   obtain rfl := Nat.eq_of_beq_eq_true hb
   exact hl _ List.mem_cons_self _ _ _ _ hr
  ·exact ih (fun p hp => hl p (List.mem_cons_of_mem _ hp)) f g h args H v H' hr
end Go.Proofs.YtokdiacjcbolfaaDoor.X
namespace Go.Proofs
open Go.Shelf
def Tryd.lays160_ren : Go.Shelf.Ren := ⟨fun | 160 => 66 | 232 => 74 | 231 => 73 | 227 => 75 | 234 => 77 | 233 => 76 | 236 => 79 | 235 => 78 | 228 => 81 | 271 => 84 | 151 => 83 | 197 => 82 | 120 => 87 | 152 => 86 | 260 => 85 | 137 => 88 | 119 => 89 | 224 => 90 | 225 => 91 | 217 => 92 | 266 => 93 | n => n, fun | 9 => 9 | 4 => 4 | 3 => 3 | 5 => 5 | 117 => 118 | 116 => 117 | 0 => 0 | 124 => 121 | 21 => 21 | 105 => 124 | 46 => 72 | 119 => 129 | 139 => 132 | 138 => 131 | n => n, fun | 3 => 2 | 4 => 3 | n => n⟩
theorem Tryd.lays160 : Go.Proofs.Lays.n160 Tryd.prog Tryd.lays160_ren := {
 mixed := by kernel_rfl
 f119 := Tryd.func89.trans (congrArg some (by kernel_rfl))
 f120 := Tryd.func87.trans (congrArg some (by kernel_rfl))
 f137 := Tryd.func88.trans (congrArg some (by kernel_rfl))
 f151 := Tryd.func83.trans (congrArg some (by kernel_rfl))
 f152 := Tryd.func86.trans (congrArg some (by kernel_rfl))
 f160 := Tryd.func66.trans (congrArg some (by kernel_rfl))
 f197 := Tryd.func82.trans (congrArg some (by kernel_rfl))
 f217 := Tryd.func92.trans (congrArg some (by kernel_rfl))
 f224 := Tryd.func90.trans (congrArg some (by kernel_rfl))
 f225 := Tryd.func91.trans (congrArg some (by kernel_rfl))
 f227 := Tryd.func75.trans (congrArg some (by kernel_rfl))
 f228 := Tryd.func81.trans (congrArg some (by kernel_rfl))
 f231 := Tryd.func73.trans (congrArg some (by kernel_rfl))
 f232 := Tryd.func74.trans (congrArg some (by kernel_rfl))
 f233 := Tryd.func76.trans (congrArg some (by kernel_rfl))
 f234 := Tryd.func77.trans (congrArg some (by kernel_rfl))
 f235 := Tryd.func78.trans (congrArg some (by kernel_rfl))
 f236 := Tryd.func79.trans (congrArg some (by kernel_rfl))
 f260 := Tryd.func85.trans (congrArg some (by kernel_rfl))
 f266 := Tryd.func93.trans (congrArg some (by kernel_rfl))
 f271 := Tryd.func84.trans (congrArg some (by kernel_rfl))
 t0 := Tryd.underlying0
 a0 := Tryd.isAgg0
 z0 := Tryd.sizeOf0
 v0 := Tryd.zeroValue0
 t3 := Tryd.underlying3
 a3 := Tryd.isAgg3
 z3 := Tryd.sizeOf3
 v3 := Tryd.zeroValue3
 t4 := Tryd.underlying4
 a4 := Tryd.isAgg4
 z4 := Tryd.sizeOf4
 v4 := Tryd.zeroValue4
 t5 := Tryd.underlying5
 a5 := Tryd.isAgg5
 z5 := Tryd.sizeOf5
 v5 := Tryd.zeroValue5
 t9 := Tryd.underlying9
 a9 := Tryd.isAgg9
 z9 := Tryd.sizeOf9
 v9 := Tryd.zeroValue9
 t21 := Tryd.underlying21
 a21 := Tryd.isAgg21
 z21 := Tryd.sizeOf21
 v21 := Tryd.zeroValue21
 t46 := Tryd.underlying72
 a46 := Tryd.isAgg72
 z46 := Tryd.sizeOf72
 v46 := Tryd.zeroValue72
 t105 := Tryd.underlying124
 a105 := Tryd.isAgg124
 z105 := Tryd.sizeOf124
 v105 := Tryd.zeroValue124
 t116 := Tryd.underlying117
 a116 := Tryd.isAgg117
 z116 := Tryd.sizeOf117
 t117 := Tryd.underlying118
 a117 := Tryd.isAgg118
 z117 := Tryd.sizeOf118
 v117 := Tryd.zeroValue118
 t119 := Tryd.underlying129
 a119 := Tryd.isAgg129
 z119 := Tryd.sizeOf129
 t124 := Tryd.underlying121
 a124 := Tryd.isAgg121
 z124 := Tryd.sizeOf121
 v124 := Tryd.zeroValue121
 t138 := Tryd.underlying131
 a138 := Tryd.isAgg131
 z138 := Tryd.sizeOf131
 v138 := Tryd.zeroValue131
 t139 := Tryd.underlying132
 a139 := Tryd.isAgg132
 z139 := Tryd.sizeOf132
 v139 := Tryd.zeroValue132
 g3 := by kernel_rfl
 g4 := by kernel_rfl }
open Go.RowKit in
theorem Tryd.strings_Trim_one (s : ByteArray) (c : UInt8) (hc : c.toNat < 128) (w : World) (hs : s.size ≤ 9223372036854775807) :
  Calls Tryd.prog 66 #[.string s, .string ⟨#[c]⟩] w fun e w' => e = .returned (.string ⟨(Lib.trimB s.data.toList c).toArray⟩) ∧ (w' = w ∨ w' = w.drew) := Any.strings_Trim_one Tryd.lays160 s c hc w hs
def Tryd.lays206_ren : Go.Shelf.Ren := ⟨fun | 206 => 56 | n => n, fun | 9 => 9 | 4 => 4 | 3 => 3 | n => n, fun | n => n⟩
def Tryd.lays99_ren : Go.Shelf.Ren := ⟨fun | 99 => 38 | 206 => 56 | n => n, fun | 9 => 9 | 4 => 4 | 3 => 3 | n => n, fun | n => n⟩
theorem Tryd.lays99 : Go.Proofs.Lays.n99 Tryd.prog Tryd.lays99_ren := {
 mixed := by kernel_rfl
 f99 := Tryd.func38.trans (congrArg some (by kernel_rfl))
 f206 := Tryd.func56.trans (congrArg some (by kernel_rfl))
 t3 := Tryd.underlying3
 a3 := Tryd.isAgg3
 z3 := Tryd.sizeOf3
 v3 := Tryd.zeroValue3
 t4 := Tryd.underlying4
 a4 := Tryd.isAgg4
 z4 := Tryd.sizeOf4
 v4 := Tryd.zeroValue4
 t9 := Tryd.underlying9
 a9 := Tryd.isAgg9
 z9 := Tryd.sizeOf9
 v9 := Tryd.zeroValue9 }
open Go.RowKit Go.Lib in
theorem Tryd.strings_HasPrefix (s p : ByteArray) (w : World) :
  Calls Tryd.prog 38 #[.string s, .string p] w fun e w' => e = .returned (.bool (Lib.hasPrefix s.data.toList p.data.toList)) ∧ w' = w := Any.strings_HasPrefix Tryd.lays99 s p w
def Tryd.lays105_ren : Go.Shelf.Ren := ⟨fun | 105 => 25 | 212 => 37 | 99 => 38 | 165 => 39 | 166 => 40 | 170 => 41 | 169 => 42 | 263 => 54 | 264 => 55 | 206 => 56 | 240 => 57 | 241 => 58 | 276 => 68 | 277 => 69 | n => n, fun | 9 => 9 | 3 => 3 | 4 => 4 | 20 => 20 | 0 => 0 | 46 => 72 | 109 => 73 | 5 => 5 | 72 => 78 | 76 => 81 | 51 => 97 | 146 => 98 | 53 => 68 | 148 => 100 | 70 => 76 | 37 => 71 | 75 => 80 | 127 => 102 | 164 => 110 | 80 => 37 | n => n, fun | n => n⟩
theorem Tryd.lays105 : Go.Proofs.Lays.n105 Tryd.prog Tryd.lays105_ren := {
 mixed := by kernel_rfl
 f99 := Tryd.func38.trans (congrArg some (by kernel_rfl))
 f105 := Tryd.func25.trans (congrArg some (by kernel_rfl))
 f165 := Tryd.func39.trans (congrArg some (by kernel_rfl))
 f166 := Tryd.func40.trans (congrArg some (by kernel_rfl))
 f169 := Tryd.func42.trans (congrArg some (by kernel_rfl))
 f170 := Tryd.func41.trans (congrArg some (by kernel_rfl))
 f206 := Tryd.func56.trans (congrArg some (by kernel_rfl))
 f212 := Tryd.func37.trans (congrArg some (by kernel_rfl))
 f240 := Tryd.func57.trans (congrArg some (by kernel_rfl))
 f241 := Tryd.func58.trans (congrArg some (by kernel_rfl))
 f263 := Tryd.func54.trans (congrArg some (by kernel_rfl))
 f264 := Tryd.func55.trans (congrArg some (by kernel_rfl))
 f276 := Tryd.func68.trans (congrArg some (by kernel_rfl))
 f277 := Tryd.func69.trans (congrArg some (by kernel_rfl))
 t0 := Tryd.underlying0
 a0 := Tryd.isAgg0
 z0 := Tryd.sizeOf0
 v0 := Tryd.zeroValue0
 t3 := Tryd.underlying3
 a3 := Tryd.isAgg3
 z3 := Tryd.sizeOf3
 v3 := Tryd.zeroValue3
 t4 := Tryd.underlying4
 a4 := Tryd.isAgg4
 z4 := Tryd.sizeOf4
 v4 := Tryd.zeroValue4
 t5 := Tryd.underlying5
 a5 := Tryd.isAgg5
 z5 := Tryd.sizeOf5
 v5 := Tryd.zeroValue5
 t9 := Tryd.underlying9
 a9 := Tryd.isAgg9
 z9 := Tryd.sizeOf9
 v9 := Tryd.zeroValue9
 t20 := Tryd.underlying20
 a20 := Tryd.isAgg20
 z20 := Tryd.sizeOf20
 v20 := Tryd.zeroValue20
 t37 := Tryd.underlying71
 a37 := Tryd.isAgg71
 z37 := Tryd.sizeOf71
 v37 := Tryd.zeroValue71
 t46 := Tryd.underlying72
 a46 := Tryd.isAgg72
 z46 := Tryd.sizeOf72
 v46 := Tryd.zeroValue72
 t51 := Tryd.underlying97
 a51 := Tryd.isAgg97
 z51 := Tryd.sizeOf97
 v51 := Tryd.zeroValue97
 t53 := Tryd.underlying68
 a53 := Tryd.isAgg68
 z53 := Tryd.sizeOf68
 v53 := Tryd.zeroValue68
 t70 := Tryd.underlying76
 a70 := Tryd.isAgg76
 z70 := Tryd.sizeOf76
 v70 := Tryd.zeroValue76
 t72 := Tryd.underlying78
 a72 := Tryd.isAgg78
 z72 := Tryd.sizeOf78
 v72 := Tryd.zeroValue78
 t75 := Tryd.underlying80
 a75 := Tryd.isAgg80
 z75 := Tryd.sizeOf80
 v75 := Tryd.zeroValue80
 t76 := Tryd.underlying81
 a76 := Tryd.isAgg81
 z76 := Tryd.sizeOf81
 v76 := Tryd.zeroValue81
 t109 := Tryd.underlying73
 a109 := Tryd.isAgg73
 z109 := Tryd.sizeOf73
 v109 := Tryd.zeroValue73
 t127 := Tryd.underlying102
 a127 := Tryd.isAgg102
 z127 := Tryd.sizeOf102
 v127 := Tryd.zeroValue102
 t146 := Tryd.underlying98
 a146 := Tryd.isAgg98
 z146 := Tryd.sizeOf98
 v146 := Tryd.zeroValue98
 t148 := Tryd.underlying100
 a148 := Tryd.isAgg100
 z148 := Tryd.sizeOf100
 v148 := Tryd.zeroValue100
 t164 := Tryd.underlying110
 a164 := Tryd.isAgg110
 z164 := Tryd.sizeOf110
 v164 := Tryd.zeroValue110 }
theorem Tryd.Builder_Extra_105 : Builder.Extra Tryd.prog Tryd.lays105_ren := {
 sizeBuilder := by kernel_rfl
 liesBuilder := by kernel_rfl
 t5 := Tryd.underlying5
 a5 := Tryd.isAgg5
 z5 := Tryd.sizeOf5
 v5 := Tryd.zeroValue5
 infoByte := by kernel_rfl
 cellsByte := by kernel_rfl
 sizeByte := by kernel_rfl
 neB5 := by decide }
open Go.RowKit Go.Lib in
theorem Tryd.strings_Repeat (s : ByteArray) (c : Nat) (w : World) (hc : c ≤ 9223372036854775807) (hlen : s.size * c ≤ 140737488355328) :
  Calls Tryd.prog 25 #[.string s, .int .i64 c] w fun e w' => e = .returned (.string ⟨(Lib.repeatL s.data.toList c).toArray⟩) ∧ Below w.heap.size w w' := Any.strings_Repeat Tryd.lays105 Tryd.Builder_Extra_105 s c w hc hlen
end Go.Proofs
namespace Go.Proofs.YtokdiacjcbolfaaDoor.F
open Go Go.RowKit Go.Proofs.YtokdiacjcbolfaaDoor.X
set_option linter.unusedVariables false
set_option linter.unusedSimpArgs false
def dev_New.f (a0 : Int) : Option ((Option q04) × Int) :=
 if a0 < 1 then (some ((none : Option q04), 1)) else (if a0 > 8192 then (some ((none : Option q04), 1)) else (asrt (0 ≤ a0) (asrt (a0 ≤ 17592186044416) (some ((some (⟨List.replicate (a0 : Int).toNat (⟨#[]⟩ : ByteArray), List.replicate (a0 : Int).toNat (⟨#[]⟩ : ByteArray), ([] : List q01), (⟨(), (), 0⟩ : q03), false, 0, false⟩ : q04)), 0)))))
set_option maxRecDepth 100000 in
set_option maxHeartbeats 4000000 in
theorem dev_New.calls (a0 : Int)   (r : (Option q04) × Int) (w w1 : World) (F bs : Blks) (os : List OwnA) (HW : Wd w w1 (F ++ bs) os) (h : dev_New.f a0 = some r) :
  Calls Tryd.prog 8 #[.int .i64 a0] w1 (fun e W' => ∃ p_0 : Value, ∃ U_0 : Blks, e = .returned (.tuple #[p_0, .int .i64 r.2]) ∧ OptAt (fun p_ x_ u_ => q04.At p_  x_ u_) (r.1) p_0 U_0 ∧ Wd w W' (U_0 ++ (F ++ bs)) (os)) := by
 refine q17 (n := 16) (l := [(0, .int .i64 a0)]) Tryd.func8 rfl rfl (Nat.le_of_ble_eq_true KR) (q07 rfl (q0q _)) ?_
 intro a ha
 replace HW : Wd w w1 (F ++ bs) (os) := HW
 unfold dev_New.f at h
 refine wp_seq_k (fun K10 hK11 => ?_)
 refine wp_region_lit ?_
 refine sp2 ha 2 (.pointer none) 3 (.int .i64 0) ?_; clear ha a; intro a ha
 refine endl (thenN (hK11 _ _ (wp_seq_k fun K12 hK13 => wp_seq_k fun K14 hK15 => wp_region_lit ?_))); clear hK11
 refine sp3 ha 4 (.int .i64 a0) 5 (.bool (decide (a0 < 1))) 6 (.bool (decide (a0 < 1))) ?_; clear ha a; intro a ha
 by_cases hp16 : a0 < 1
 ·
  replace h := q0b h hp16
  replace ha := ha.bool 6 KR (decide_eq_true hp16)
  refine stepo ha 7 KR ?_; clear ha a; intro a ha
  refine stepo ha 8 KR ?_; clear ha a; intro a ha
  refine sp1 ha 9 (.bool true) ?_; clear ha a; intro a ha
  refine endl (thenN (hK15 _ _ ?_)); clear hK15
  refine condT ha KR KR (t := true) (rfl) ?_
  refine wp_seq_k (fun K17 hK18 => ?_)
  refine wp_region_lit ?_
  refine sp2 ha 2 (.pointer none) 3 (.int .i64 1) ?_; clear ha a; intro a ha
  refine endl (thenN (hK18 _ _ ?_)); clear hK18
  refine wp_ret ?_
  refine thenR ?_
  obtain rfl := Option.some.inj h
  exact finv ha _ _ rfl (.tmp (v := .pointer none) KR (.tmp (v := .int .i64 1) KR .nil)) (.tuple #[.pointer none, .int .i64 1]) rfl ⟨.pointer none, [], rfl, ⟨rfl, rfl⟩, (HW)⟩
 ·
  replace h := q0c h hp16
  replace ha := ha.bool 6 KR (decide_eq_false hp16)
  refine sp3 ha 7 (.int .i64 a0) 8 (.bool (decide (a0 > 8192))) 9 (.bool (decide (a0 > 8192))) ?_; clear ha a; intro a ha
  refine endl (thenN (hK15 _ _ ?_)); clear hK15
  by_cases hp19 : a0 > 8192
  ·
   replace h := q0b h hp19
   refine condT ha KR KR (t := decide (a0 > 8192)) (decide_eq_true hp19) ?_
   refine wp_seq_k (fun K20 hK21 => ?_)
   refine wp_region_lit ?_
   refine sp2 ha 2 (.pointer none) 3 (.int .i64 1) ?_; clear ha a; intro a ha
   refine endl (thenN (hK21 _ _ ?_)); clear hK21
   refine wp_ret ?_
   refine thenR ?_
   obtain rfl := Option.some.inj h
   exact finv ha _ _ rfl (.tmp (v := .pointer none) KR (.tmp (v := .int .i64 1) KR .nil)) (.tuple #[.pointer none, .int .i64 1]) rfl ⟨.pointer none, [], rfl, ⟨rfl, rfl⟩, (HW)⟩
  ·
   replace h := q0c h hp19
   refine condF ha KR KR (t := decide (a0 > 8192)) (decide_eq_false hp19) ?_
   refine wp_skip ?_
   refine thenN (hK13 _ _ (wp_seq_k fun K22 hK23 => ?_)); clear hK13
   obtain ⟨hA24, h_⟩ := q0d h; replace h := h_; clear h_
   obtain ⟨hA25, h_⟩ := q0d h; replace h := h_; clear h_
   refine regionM 4 KR [.fix (.int .i64 a0), (.pr (fun v_ => ∃ A_ c_, v_ = .slice A_ (List.replicate (a0 : Int).toNat (⟨#[]⟩ : ByteArray)).length c_)), .fix (.int .i64 a0), (.pr (fun v_ => ∃ A_ c_, v_ = .slice A_ (List.replicate (a0 : Int).toNat (⟨#[]⟩ : ByteArray)).length c_))] [(1, 11, ⟨9, 1, (List.replicate (a0 : Int).toNat (⟨#[]⟩ : ByteArray)).length, encs encS (List.replicate (a0 : Int).toNat (⟨#[]⟩ : ByteArray))⟩), (3, 13, ⟨9, 1, (List.replicate (a0 : Int).toNat (⟨#[]⟩ : ByteArray)).length, encs encS (List.replicate (a0 : Int).toNat (⟨#[]⟩ : ByteArray))⟩)] KR ((F ++ bs), (os)) ha HW ?_ ?_ ?_
   ·
    refine ⟨?_, ?_, ?_, ?_, trivial⟩
    ·
     show OpOk _ _ _ _ _ _ _ _ _ _
     intro a wr hn hd HW hs; have ha := q0a hn hd
     have ha := ha.add (seeE hs 0 (.int .i64 a0) KR KR)
     refine yStep ha 10 KR ?_; intro l_ ha HK
     refine stepp ha 10 (.int .i64 a0) KR KR ?_; intro ax hax; exact HK _ _ _ hax rfl (Below.refl _ _)
    ·
     show MakeOk _ _ _ _ _ _ _ _ _
     intro a wr hn hd HW hs; have ha := q0a hn hd
     have ha := ha.add (seeF hs 10 0 (.int .i64 a0) KR KR)
     refine yStepA ha 11 KR ?_; intro l_ ha HK
     refine stepmk encS (⟨#[]⟩ : ByteArray) ha (Wd.refl wr) 11 22 9 (.tmp 10) (.tmp 10) .i64 .i64 a0 (.string (⟨#[]⟩ : ByteArray)) 16 rfl KR KR KR KR rfl rfl hA24 (by have := hA25; omega) (by have := hA25; omega) KR ?_; intro b26 ax W27 HV hax; exact HK _ _ _ hax ⟨⟨_, _, rfl⟩, HV⟩
    ·
     show OpOk _ _ _ _ _ _ _ _ _ _
     intro a wr hn hd HW hs; have ha := q0a hn hd
     have ha := ha.add (seeE hs 0 (.int .i64 a0) KR KR)
     refine yStep ha 12 KR ?_; intro l_ ha HK
     refine stepp ha 12 (.int .i64 a0) KR KR ?_; intro ax hax; exact HK _ _ _ hax rfl (Below.refl _ _)
    ·
     show MakeOk _ _ _ _ _ _ _ _ _
     intro a wr hn hd HW hs; have ha := q0a hn hd
     have ha := ha.add (seeF hs 12 2 (.int .i64 a0) KR KR)
     refine yStepA ha 13 KR ?_; intro l_ ha HK
     refine stepmk encS (⟨#[]⟩ : ByteArray) ha (Wd.refl wr) 13 22 9 (.tmp 12) (.tmp 12) .i64 .i64 a0 (.string (⟨#[]⟩ : ByteArray)) 16 rfl KR KR KR KR rfl rfl hA24 (by have := hA25; omega) (by have := hA25; omega) KR ?_; intro b31 ax W32 HV hax; exact HK _ _ _ hax ⟨⟨_, _, rfl⟩, HV⟩
   ·
    intro p_ hp_; simp only [List.mem_cons, List.not_mem_nil, or_false] at hp_
    rcases hp_ with rfl | rfl
    all_goals exact KR
   ·
    intro a W36 ha HW he hf
    obtain ⟨_, he1_, A29, c30, rfl⟩ := gotK (m := 4) (j := 1) (d := 11) (f := (.pr (fun v_ => ∃ A_ c_, v_ = .slice A_ (List.replicate (a0 : Int).toNat (⟨#[]⟩ : ByteArray)).length c_))) hf KR KR KR; replace ha := ha.add he1_; have hg1_ := getD_some he1_; clear he1_
    obtain ⟨_, he3_, A34, c35, rfl⟩ := gotK (m := 4) (j := 3) (d := 13) (f := (.pr (fun v_ => ∃ A_ c_, v_ = .slice A_ (List.replicate (a0 : Int).toNat (⟨#[]⟩ : ByteArray)).length c_))) hf KR KR KR; replace ha := ha.add he3_; have hg3_ := getD_some he3_; clear he3_
    replace HW : Wd w W36 (F ++ bs) ([(⟨9, 1, (List.replicate (a0 : Int).toNat (⟨#[]⟩ : ByteArray)).length, encs encS (List.replicate (a0 : Int).toNat (⟨#[]⟩ : ByteArray))⟩ : MkRow).own (a.tmps.getD 11 undef), (⟨9, 1, (List.replicate (a0 : Int).toNat (⟨#[]⟩ : ByteArray)).length, encs encS (List.replicate (a0 : Int).toNat (⟨#[]⟩ : ByteArray))⟩ : MkRow).own (a.tmps.getD 13 undef)] ++ (os)) := HW; rw [hg1_, hg3_] at HW; clear hg1_ hg3_
    replace HW : Wd w W36 (F ++ bs) ((rw0 A29 (List.replicate (a0 : Int).toNat (⟨#[]⟩ : ByteArray)) c30) :: (rw0 A34 (List.replicate (a0 : Int).toNat (⟨#[]⟩ : ByteArray)) c35) :: os) := HW
    clear he hf
    refine sp1 ha 14 (.agg #[.slice A29 (List.replicate (a0 : Int).toNat (⟨#[]⟩ : ByteArray)).length c30, .slice A34 (List.replicate (a0 : Int).toNat (⟨#[]⟩ : ByteArray)).length c35, .slice none 0 0, .int .i64 0, .bool false, .int .i64 0, .bool false]) ?_; clear ha a; intro a ha
    refine stepnew ha HW 15 #[.slice A29 (List.replicate (a0 : Int).toNat (⟨#[]⟩ : ByteArray)).length c30, .slice A34 (List.replicate (a0 : Int).toNat (⟨#[]⟩ : ByteArray)).length c35, .slice none 0 0, .int .i64 0, .bool false, .int .i64 0, .bool false] 53 KR KR ?_; clear ha HW a; intro b37 a W38 HW ha
    refine sp2 ha 2 ((ptr b37)) 3 (.int .i64 0) ?_; clear ha a; intro a ha
    refine endl (thenN (hK23 _ _ ?_)); clear hK23
    refine wp_ret ?_
    replace HW := HW.nilo 62 2
    replace HW : Wd w W38 ((b37, .cells #[.slice A29 (List.replicate (a0 : Int).toNat (⟨#[]⟩ : ByteArray)).length c30, .slice A34 (List.replicate (a0 : Int).toNat (⟨#[]⟩ : ByteArray)).length c35, .slice none 0 0, .int .i64 0, .bool false, .int .i64 0, .bool false] 53 (0, 0)) :: F ++ bs) (⟨62, 2, .slice none 0 0, ([] : List q01).length, encs q01.enc ([] : List q01)⟩ :: (rw0 A29 (List.replicate (a0 : Int).toNat (⟨#[]⟩ : ByteArray)) c30) :: (rw0 A34 (List.replicate (a0 : Int).toNat (⟨#[]⟩ : ByteArray)) c35) :: os) := HW
    obtain ⟨U39, hU40, HW⟩ := q04.fold (x := (⟨List.replicate (a0 : Int).toNat (⟨#[]⟩ : ByteArray), List.replicate (a0 : Int).toNat (⟨#[]⟩ : ByteArray), ([] : List q01), (⟨(), (), 0⟩ : q03), false, 0, false⟩ : q04)) (Wd.sg [[(b37, .cells #[.slice A29 (List.replicate (a0 : Int).toNat (⟨#[]⟩ : ByteArray)).length c30, .slice A34 (List.replicate (a0 : Int).toNat (⟨#[]⟩ : ByteArray)).length c35, .slice none 0 0, .int .i64 0, .bool false, .int .i64 0, .bool false] 53 (0, 0))], F] bs [⟨62, 2, .slice none 0 0, ([] : List q01).length, encs q01.enc ([] : List q01)⟩, (rw0 A29 (List.replicate (a0 : Int).toNat (⟨#[]⟩ : ByteArray)) c30), (rw0 A34 (List.replicate (a0 : Int).toNat (⟨#[]⟩ : ByteArray)) c35)] os [[(b37, .cells #[.slice A29 (List.replicate (a0 : Int).toNat (⟨#[]⟩ : ByteArray)).length c30, .slice A34 (List.replicate (a0 : Int).toNat (⟨#[]⟩ : ByteArray)).length c35, .slice none 0 0, .int .i64 0, .bool false, .int .i64 0, .bool false] 53 (0, 0))], F] [(rw0 A29 (List.replicate (a0 : Int).toNat (⟨#[]⟩ : ByteArray)) c30), (rw0 A34 (List.replicate (a0 : Int).toNat (⟨#[]⟩ : ByteArray)) c35), ⟨62, 2, .slice none 0 0, ([] : List q01).length, encs q01.enc ([] : List q01)⟩] HW [0, 1] [] [1, 2, 0] KR KR (by decide) KR)
    replace HW := HW
    replace HW : Wd w W38 (U39 ++ (F ++ bs)) (os) := HW
    obtain rfl := Option.some.inj h
    exact finv ha _ _ rfl (.tmp (v := (ptr b37)) KR (.tmp (v := .int .i64 0) KR .nil)) (.tuple #[(ptr b37), .int .i64 0]) rfl ⟨(ptr b37), U39, rfl, ⟨b37, rfl, hU40⟩, (HW)⟩
def q1y.f (a0 : q04) : Option Int :=
 some (a0.f0.length : Int)
set_option maxRecDepth 100000 in
set_option maxHeartbeats 4000000 in
theorem q1y.calls (a0 : q04) (A0_0 : Option Addr) (c0_0 : Nat) (A0_1 : Option Addr) (c0_1 : Nat) (A0_2 : Option Addr) (c0_2 : Nat) (cb0 : Nat) (r : Int) (w : World) (hc0 : CA w cb0 0 #[.slice A0_0 a0.f0.length c0_0, .slice A0_1 a0.f1.length c0_1, .slice A0_2 a0.f2.length c0_2, .int .i64 a0.f3.f2, .bool a0.f4, .int .i64 a0.f5, .bool a0.f6]) (hr0_0 : Rd 1 w (.slice A0_0 a0.f0.length c0_0) a0.f0.length (encs encS a0.f0)) (hr0_1 : Rd 1 w (.slice A0_1 a0.f1.length c0_1) a0.f1.length (encs encS a0.f1)) (hr0_2 : Rd 2 w (.slice A0_2 a0.f2.length c0_2) a0.f2.length (encs q01.enc a0.f2)) (h : q1y.f a0 = some r) :
  Calls Tryd.prog 35 #[.pointer (some ⟨cb0, 0, none⟩)] w (fun e W' => e = .returned (.int .i64 r) ∧ Wd w W' [] [] ) := by
 refine q17 (n := 10) (l := [(0, (ptr cb0))]) Tryd.func35 rfl rfl (Nat.le_of_ble_eq_true KR) (q07 rfl (q0q _)) ?_
 intro a ha
 have HW := Wd.refl w
 unfold q1y.f at h
 refine wp_seq_k (fun K42 hK43 => ?_)
 refine wp_region_lit ?_
 refine sp1 ha 2 (.int .i64 0) ?_; clear ha a; intro a ha
 refine endl (thenN (hK43 _ _ (wp_seq_k fun K44 hK45 => wp_seq_k fun K46 hK47 => wp_region_lit ?_))); clear hK43
 refine sp2 ha 3 ((ptr cb0)) 4 (.bool false) ?_; clear ha a; intro a ha
 refine endl (thenN (hK47 _ _ ?_)); clear hK47
 refine condF ha KR KR (t := false) (rfl) ?_
 refine wp_skip ?_
 refine thenN (hK45 _ _ (wp_seq_k fun K48 hK49 => wp_region_lit ?_)); clear hK45
 refine sp3 ha 5 ((ptr cb0)) 6 ((ptr cb0)) 7 ((ptr cb0)) ?_; clear ha a; intro a ha
 refine stepl ha 8 (HW.ca0 hc0) 22 0 (.tmp 7) (.slice A0_0 a0.f0.length c0_0) rfl KR KR KR ?_; clear ha a; intro a ha
 refine sp2 ha 9 (.int .i64 (a0.f0.length : Int)) 2 (.int .i64 (a0.f0.length : Int)) ?_; clear ha a; intro a ha
 refine endl (thenN (hK49 _ _ ?_)); clear hK49
 refine wp_ret ?_
 obtain rfl := Option.some.inj h
 exact finv ha _ _ rfl (.tmp (v := .int .i64 (a0.f0.length : Int)) KR .nil) (.int .i64 (a0.f0.length : Int)) rfl ⟨rfl, HW.pick [] [] (by decide) (by decide) rfl KR⟩
def q1h.f (a0 : q04) (a1 : Int) (a2 : Int) : Option ((Option q00) × q04) :=
 if a1 < 0 then (some ((none : Option q00), a0)) else (if a2 < 8 then (some ((none : Option q00), a0)) else ((q1y.f (⟨a0.f0, a0.f1, a0.f2, (⟨(), (), a0.f3.f2⟩ : q03), a0.f4, a0.f5, a0.f6⟩ : q04)).bind fun t95 => (if a2 > t95 then (some ((none : Option q00), (⟨a0.f0, a0.f1, a0.f2, (⟨(), (), a0.f3.f2⟩ : q03), a0.f4, a0.f5, a0.f6⟩ : q04))) else ((q1y.f (⟨a0.f0, a0.f1, a0.f2, (⟨(), (), a0.f3.f2⟩ : q03), a0.f4, a0.f5, a0.f6⟩ : q04)).bind fun t100 => (if a1 > (IntKind.wrap .i64 (t100 - a2)) then (some ((none : Option q00), (⟨a0.f0, a0.f1, a0.f2, (⟨(), (), a0.f3.f2⟩ : q03), a0.f4, a0.f5, a0.f6⟩ : q04))) else (some ((some (⟨(), a1, IntKind.wrap .i64 (Int.tdiv (IntKind.wrap .i64 (a2 - 4)) 2), 0, (⟨(), (), 0⟩ : q03), (⟨#[]⟩ : ByteArray), ([] : List ByteArray), 0, false, false⟩ : q00)), (⟨a0.f0, a0.f1, a0.f2, (⟨(), (), a0.f3.f2⟩ : q03), a0.f4, a0.f5, a0.f6⟩ : q04))))))))
set_option maxRecDepth 100000 in
set_option maxHeartbeats 4000000 in
theorem q1h.calls (a0 : q04) (a1 : Int) (a2 : Int) (p0 : Nat) (U0 : Blks)  (r : (Option q00) × q04) (w w1 : World) (F bs : Blks) (os : List OwnA) (hU0 : q04.At p0  a0 U0) (HW : Wd w w1 (U0 ++ (F ++ bs)) os) (h : q1h.f a0 a1 a2 = some r) :
  Calls Tryd.prog 22 #[.pointer (some ⟨p0, 0, none⟩), .int .i64 a1, .int .i64 a2] w1 (fun e W' => ∃ p_0 : Value, ∃ U_0 : Blks, ∃ U0' : Blks, e = .returned (p_0) ∧ OptAt (fun p_ x_ u_ => q00.At p_ p0 x_ u_) (r.1) p_0 U_0 ∧ q04.At p0  r.2 U0' ∧ Wd w W' (U_0 ++ (U0' ++ (F ++ bs))) (os)) := by
 refine q17 (n := 38) (l := [(0, (ptr p0)), (1, .int .i64 a1), (2, .int .i64 a2)]) Tryd.func22 rfl rfl (Nat.le_of_ble_eq_true KR) (q07 rfl (q07 rfl (q07 rfl (q0q _)))) ?_
 intro a ha
 replace HW : Wd w w1 (U0 ++ (F ++ bs)) (os) := HW
 unfold q1h.f at h
 refine wp_seq_k (fun K78 hK79 => ?_)
 refine wp_region_lit ?_
 refine sp1 ha 6 (.pointer none) ?_; clear ha a; intro a ha
 refine endl (thenN (hK79 _ _ (wp_seq_k fun K80 hK81 => wp_seq_k fun K82 hK83 => wp_region_lit ?_))); clear hK79
 refine sp6 ha 7 ((ptr p0)) 8 (.bool false) 9 (.bool false) 10 (.int .i64 a1) 11 (.bool (decide (a1 < 0))) 12 (.bool (decide (a1 < 0))) ?_; clear ha a; intro a ha
 refine sp1 ha 13 (.bool (decide (a1 < 0))) ?_; clear ha a; intro a ha
 by_cases hp84 : a1 < 0
 ·
  replace h := q0b h hp84
  replace ha := ha.bool 13 KR (decide_eq_true hp84)
  refine stepo ha 14 KR ?_; clear ha a; intro a ha
  refine stepo ha 15 KR ?_; clear ha a; intro a ha
  refine sp2 ha 16 (.bool true) 17 (.bool true) ?_; clear ha a; intro a ha
  refine stepo ha 18 KR ?_; clear ha a; intro a ha
  refine stepo ha 19 KR ?_; clear ha a; intro a ha
  refine stepo ha 20 KR ?_; clear ha a; intro a ha
  refine stepo ha 21 KR ?_; clear ha a; intro a ha
  refine sp2 ha 22 (.bool true) 23 (.bool true) ?_; clear ha a; intro a ha
  refine stepo ha 24 KR ?_; clear ha a; intro a ha
  refine stepo ha 25 KR ?_; clear ha a; intro a ha
  refine stepo ha 26 KR ?_; clear ha a; intro a ha
  refine stepo ha 27 KR ?_; clear ha a; intro a ha
  refine stepo ha 28 KR ?_; clear ha a; intro a ha
  refine stepo ha 29 KR ?_; clear ha a; intro a ha
  refine sp1 ha 30 (.bool true) ?_; clear ha a; intro a ha
  refine endl (thenN (hK83 _ _ ?_)); clear hK83
  refine condT ha KR KR (t := true) (rfl) ?_
  refine wp_seq_k (fun K104 hK105 => ?_)
  refine wp_region_lit ?_
  refine sp1 ha 6 (.pointer none) ?_; clear ha a; intro a ha
  refine endl (thenN (hK105 _ _ ?_)); clear hK105
  refine wp_ret ?_
  refine thenR ?_
  obtain rfl := Option.some.inj h
  exact finv ha _ _ rfl (.tmp (v := .pointer none) KR .nil) (.pointer none) rfl ⟨.pointer none, [], U0, rfl, ⟨rfl, rfl⟩, hU0, (HW)⟩
 ·
  replace h := q0c h hp84
  replace ha := ha.bool 13 KR (decide_eq_false hp84)
  refine sp4 ha 14 (.int .i64 a2) 15 (.bool (decide (a2 < 8))) 16 (.bool (decide (a2 < 8))) 17 (.bool (decide (a2 < 8))) ?_; clear ha a; intro a ha
  by_cases hp85 : a2 < 8
  ·
   replace h := q0b h hp85
   replace ha := ha.bool 17 KR (decide_eq_true hp85)
   refine stepo ha 18 KR ?_; clear ha a; intro a ha
   refine stepo ha 19 KR ?_; clear ha a; intro a ha
   refine stepo ha 20 KR ?_; clear ha a; intro a ha
   refine stepo ha 21 KR ?_; clear ha a; intro a ha
   refine sp2 ha 22 (.bool true) 23 (.bool true) ?_; clear ha a; intro a ha
   refine stepo ha 24 KR ?_; clear ha a; intro a ha
   refine stepo ha 25 KR ?_; clear ha a; intro a ha
   refine stepo ha 26 KR ?_; clear ha a; intro a ha
   refine stepo ha 27 KR ?_; clear ha a; intro a ha
   refine stepo ha 28 KR ?_; clear ha a; intro a ha
   refine stepo ha 29 KR ?_; clear ha a; intro a ha
   refine sp1 ha 30 (.bool true) ?_; clear ha a; intro a ha
   refine endl (thenN (hK83 _ _ ?_)); clear hK83
   refine condT ha KR KR (t := true) (rfl) ?_
   refine wp_seq_k (fun K106 hK107 => ?_)
   refine wp_region_lit ?_
   refine sp1 ha 6 (.pointer none) ?_; clear ha a; intro a ha
   refine endl (thenN (hK107 _ _ ?_)); clear hK107
   refine wp_ret ?_
   refine thenR ?_
   obtain rfl := Option.some.inj h
   exact finv ha _ _ rfl (.tmp (v := .pointer none) KR .nil) (.pointer none) rfl ⟨.pointer none, [], U0, rfl, ⟨rfl, rfl⟩, hU0, (HW)⟩
  ·
   replace h := q0c h hp85
   replace ha := ha.bool 17 KR (decide_eq_false hp85)
   refine sp2 ha 18 (.int .i64 a2) 19 ((ptr p0)) ?_; clear ha a; intro a ha
   obtain ⟨A86, c87, A89, c90, A92, c93, HW⟩ := q04.unfold hU0 (HW)
   replace HW : Wd w w1 ((p0, .cells (ar0 A86 a0.f0.length c87 A89 a0.f1.length c90 A92 a0.f2.length c93 a0.f3.f2 a0.f4 a0.f5 a0.f6) 53 (0, 0)) :: F ++ bs) ((rw0 A86 a0.f0 c87) :: (rw0 A89 a0.f1 c90) :: (rw1 A92 a0.f2 c93) :: os) := HW; clear hU0
   obtain ⟨t95, ht96, h_⟩ := q08 h; replace h := h_; clear h_
   refine stepc ha 20 KR KR (q1y.calls (⟨a0.f0, a0.f1, a0.f2, (⟨(), (), a0.f3.f2⟩ : q03), a0.f4, a0.f5, a0.f6⟩ : q04) A86 c87 A89 c90 A92 c93 p0 t95 _ (HW.ca (i := 0) (b := p0) (C := (ar0 A86 a0.f0.length c87 A89 a0.f1.length c90 A92 a0.f2.length c93 a0.f3.f2 a0.f4 a0.f5 a0.f6)) (T := 53) (fr := (0, 0)) KR) (HW.rdo (i := 0) (q := (rw0 A86 a0.f0 c87)) KR) (HW.rdo (i := 1) (q := (rw0 A89 a0.f1 c90)) KR) (HW.rdo (i := 2) (q := (rw1 A92 a0.f2 c93)) KR) ht96) ?_; clear ha a; rintro e W97 ⟨rfl, HX98⟩
   refine ⟨_, rfl, ?_⟩; intro a ha; replace HW := HW.callw HX98; clear HX98
   refine sp3 ha 21 (.bool (decide (a2 > t95))) 22 (.bool (decide (a2 > t95))) 23 (.bool (decide (a2 > t95))) ?_; clear ha a; intro a ha
   by_cases hp99 : a2 > t95
   ·
    replace h := q0b h hp99
    replace ha := ha.bool 23 KR (decide_eq_true hp99)
    refine stepo ha 24 KR ?_; clear ha a; intro a ha
    refine stepo ha 25 KR ?_; clear ha a; intro a ha
    refine stepo ha 26 KR ?_; clear ha a; intro a ha
    refine stepo ha 27 KR ?_; clear ha a; intro a ha
    refine stepo ha 28 KR ?_; clear ha a; intro a ha
    refine stepo ha 29 KR ?_; clear ha a; intro a ha
    refine sp1 ha 30 (.bool true) ?_; clear ha a; intro a ha
    refine endl (thenN (hK83 _ _ ?_)); clear hK83
    refine condT ha KR KR (t := true) (rfl) ?_
    refine wp_seq_k (fun K108 hK109 => ?_)
    refine wp_region_lit ?_
    refine sp1 ha 6 (.pointer none) ?_; clear ha a; intro a ha
    refine endl (thenN (hK109 _ _ ?_)); clear hK109
    refine wp_ret ?_
    refine thenR ?_
    obtain ⟨U110, hU111, HW⟩ := q04.fold (x := (⟨a0.f0, a0.f1, a0.f2, (⟨(), (), a0.f3.f2⟩ : q03), a0.f4, a0.f5, a0.f6⟩ : q04)) (HW)
    replace HW := HW
    replace HW : Wd w W97 (U110 ++ (F ++ bs)) (os) := HW
    obtain rfl := Option.some.inj h
    exact finv ha _ _ rfl (.tmp (v := .pointer none) KR .nil) (.pointer none) rfl ⟨.pointer none, [], U110, rfl, ⟨rfl, rfl⟩, hU111, (HW)⟩
   ·
    replace h := q0c h hp99
    replace ha := ha.bool 23 KR (decide_eq_false hp99)
    refine sp2 ha 24 (.int .i64 a1) 25 ((ptr p0)) ?_; clear ha a; intro a ha
    obtain ⟨t100, ht101, h_⟩ := q08 h; replace h := h_; clear h_
    refine stepc ha 26 KR KR (q1y.calls (⟨a0.f0, a0.f1, a0.f2, (⟨(), (), a0.f3.f2⟩ : q03), a0.f4, a0.f5, a0.f6⟩ : q04) A86 c87 A89 c90 A92 c93 p0 t100 _ (HW.ca (i := 0) (b := p0) (C := (ar0 A86 a0.f0.length c87 A89 a0.f1.length c90 A92 a0.f2.length c93 a0.f3.f2 a0.f4 a0.f5 a0.f6)) (T := 53) (fr := (0, 0)) KR) (HW.rdo (i := 0) (q := (rw0 A86 a0.f0 c87)) KR) (HW.rdo (i := 1) (q := (rw0 A89 a0.f1 c90)) KR) (HW.rdo (i := 2) (q := (rw1 A92 a0.f2 c93)) KR) ht101) ?_; clear ha a; rintro e W102 ⟨rfl, HX103⟩
    refine ⟨_, rfl, ?_⟩; intro a ha; replace HW := HW.callw HX103; clear HX103
    refine sp4 ha 27 (.int .i64 a2) 28 (.int .i64 (IntKind.wrap .i64 (t100 - a2))) 29 (.bool (decide (a1 > (IntKind.wrap .i64 (t100 - a2))))) 30 (.bool (decide (a1 > (IntKind.wrap .i64 (t100 - a2))))) ?_; clear ha a; intro a ha
    refine endl (thenN (hK83 _ _ ?_)); clear hK83
    by_cases hp112 : a1 > (IntKind.wrap .i64 (t100 - a2))
    ·
     replace h := q0b h hp112
     refine condT ha KR KR (t := decide (a1 > (IntKind.wrap .i64 (t100 - a2)))) (decide_eq_true hp112) ?_
     refine wp_seq_k (fun K113 hK114 => ?_)
     refine wp_region_lit ?_
     refine sp1 ha 6 (.pointer none) ?_; clear ha a; intro a ha
     refine endl (thenN (hK114 _ _ ?_)); clear hK114
     refine wp_ret ?_
     refine thenR ?_
     obtain ⟨U115, hU116, HW⟩ := q04.fold (x := (⟨a0.f0, a0.f1, a0.f2, (⟨(), (), a0.f3.f2⟩ : q03), a0.f4, a0.f5, a0.f6⟩ : q04)) (HW)
     replace HW := HW
     replace HW : Wd w W102 (U115 ++ (F ++ bs)) (os) := HW
     obtain rfl := Option.some.inj h
     exact finv ha _ _ rfl (.tmp (v := .pointer none) KR .nil) (.pointer none) rfl ⟨.pointer none, [], U115, rfl, ⟨rfl, rfl⟩, hU116, (HW)⟩
    ·
     replace h := q0c h hp112
     refine condF ha KR KR (t := decide (a1 > (IntKind.wrap .i64 (t100 - a2)))) (decide_eq_false hp112) ?_
     refine wp_skip ?_
     refine thenN (hK81 _ _ (wp_seq_k fun K117 hK118 => wp_region_lit ?_)); clear hK81
     refine sp6 ha 31 ((ptr p0)) 32 (.int .i64 a1) 33 (.int .i64 a2) 34 (.int .i64 (IntKind.wrap .i64 (a2 - 4))) 35 (.int .i64 (IntKind.wrap .i64 (Int.tdiv (IntKind.wrap .i64 (a2 - 4)) 2))) 36 (.agg #[(ptr p0), .int .i64 a1, .int .i64 (IntKind.wrap .i64 (Int.tdiv (IntKind.wrap .i64 (a2 - 4)) 2)), .int .i64 0, .int .i64 0, .string (⟨#[]⟩ : ByteArray), .slice none 0 0, .int .i64 0, .bool false, .bool false]) ?_; clear ha a; intro a ha
     refine stepnew ha HW 37 #[(ptr p0), .int .i64 a1, .int .i64 (IntKind.wrap .i64 (Int.tdiv (IntKind.wrap .i64 (a2 - 4)) 2)), .int .i64 0, .int .i64 0, .string (⟨#[]⟩ : ByteArray), .slice none 0 0, .int .i64 0, .bool false, .bool false] 57 KR KR ?_; clear ha HW a; intro b119 a W120 HW ha
     refine sp1 ha 6 ((ptr b119)) ?_; clear ha a; intro a ha
     refine endl (thenN (hK118 _ _ ?_)); clear hK118
     refine wp_ret ?_
     replace HW := HW.nilo 9 1
     replace HW : Wd w W120 ((b119, .cells #[(ptr p0), .int .i64 a1, .int .i64 (IntKind.wrap .i64 (Int.tdiv (IntKind.wrap .i64 (a2 - 4)) 2)), .int .i64 0, .int .i64 0, .string (⟨#[]⟩ : ByteArray), .slice none 0 0, .int .i64 0, .bool false, .bool false] 57 (0, 0)) :: (p0, .cells (ar0 A86 a0.f0.length c87 A89 a0.f1.length c90 A92 a0.f2.length c93 a0.f3.f2 a0.f4 a0.f5 a0.f6) 53 (0, 0)) :: F ++ bs) (⟨9, 1, .slice none 0 0, ([] : List ByteArray).length, encs encS ([] : List ByteArray)⟩ :: (rw0 A86 a0.f0 c87) :: (rw0 A89 a0.f1 c90) :: (rw1 A92 a0.f2 c93) :: os) := HW
     obtain ⟨U121, hU122, HW⟩ := q00.fold (x := (⟨(), a1, IntKind.wrap .i64 (Int.tdiv (IntKind.wrap .i64 (a2 - 4)) 2), 0, (⟨(), (), 0⟩ : q03), (⟨#[]⟩ : ByteArray), ([] : List ByteArray), 0, false, false⟩ : q00)) (HW)
     replace HW := Wd.sg [U121, [(p0, .cells (ar0 A86 a0.f0.length c87 A89 a0.f1.length c90 A92 a0.f2.length c93 a0.f3.f2 a0.f4 a0.f5 a0.f6) 53 (0, 0))], F] bs [(rw0 A86 a0.f0 c87), (rw0 A89 a0.f1 c90), (rw1 A92 a0.f2 c93)] os [[(p0, .cells (ar0 A86 a0.f0.length c87 A89 a0.f1.length c90 A92 a0.f2.length c93 a0.f3.f2 a0.f4 a0.f5 a0.f6) 53 (0, 0))], U121, F] [(rw0 A86 a0.f0 c87), (rw0 A89 a0.f1 c90), (rw1 A92 a0.f2 c93)] HW [1, 0, 2] [] [0, 1, 2] KR KR (by decide) KR
     replace HW : Wd w W120 ((p0, .cells (ar0 A86 a0.f0.length c87 A89 a0.f1.length c90 A92 a0.f2.length c93 a0.f3.f2 a0.f4 a0.f5 a0.f6) 53 (0, 0)) :: U121 ++ (F ++ bs)) ((rw0 A86 a0.f0 c87) :: (rw0 A89 a0.f1 c90) :: (rw1 A92 a0.f2 c93) :: os) := HW
     obtain ⟨U124, hU125, HW⟩ := q04.fold (x := (⟨a0.f0, a0.f1, a0.f2, (⟨(), (), a0.f3.f2⟩ : q03), a0.f4, a0.f5, a0.f6⟩ : q04)) (HW)
     replace HW := HW
     replace HW : Wd w W120 (U124 ++ (U121 ++ (F ++ bs))) (os) := HW
     obtain rfl := Option.some.inj h
     exact finv ha _ _ rfl (.tmp (v := (ptr b119)) KR .nil) ((ptr b119)) rfl ⟨(ptr b119), U121, U124, rfl, ⟨b119, rfl, hU122⟩, hU125, (Wd.sg [U124, U121, F] bs [] os [U121, U124, F] [] HW [1, 0, 2] [] [] KR KR (by decide) KR)⟩
def q0x.f (a0 : Int) : Option Int :=
 if a0 < 0 then (some 0) else (if a0 > 65536 then (some 0) else (some (IntKind.wrap .i64 (Int.tdiv (IntKind.wrap .i64 ((IntKind.wrap .i64 ((IntKind.wrap .i64 (a0 + 24)) + 512)) - 1)) 512))))
set_option maxRecDepth 100000 in
set_option maxHeartbeats 4000000 in
theorem q0x.calls (a0 : Int)  (r : Int) (w : World)  (h : q0x.f a0 = some r) :
  Calls Tryd.prog 23 #[.int .i64 a0] w (fun e W' => e = .returned (.int .i64 r) ∧ Wd w W' [] [] ) := by
 refine q17 (n := 14) (l := [(0, .int .i64 a0)]) Tryd.func23 rfl rfl (Nat.le_of_ble_eq_true KR) (q07 rfl (q0q _)) ?_
 intro a ha
 have HW := Wd.refl w
 unfold q0x.f at h
 refine wp_seq_k (fun K126 hK127 => ?_)
 refine wp_region_lit ?_
 refine sp1 ha 2 (.int .i64 0) ?_; clear ha a; intro a ha
 refine endl (thenN (hK127 _ _ (wp_seq_k fun K128 hK129 => wp_seq_k fun K130 hK131 => wp_region_lit ?_))); clear hK127
 refine sp3 ha 3 (.int .i64 a0) 4 (.bool (decide (a0 < 0))) 5 (.bool (decide (a0 < 0))) ?_; clear ha a; intro a ha
 by_cases hp132 : a0 < 0
 ·
  replace h := q0b h hp132
  replace ha := ha.bool 5 KR (decide_eq_true hp132)
  refine stepo ha 6 KR ?_; clear ha a; intro a ha
  refine stepo ha 7 KR ?_; clear ha a; intro a ha
  refine sp1 ha 8 (.bool true) ?_; clear ha a; intro a ha
  refine endl (thenN (hK131 _ _ ?_)); clear hK131
  refine condT ha KR KR (t := true) (rfl) ?_
  refine wp_seq_k (fun K133 hK134 => ?_)
  refine wp_region_lit ?_
  refine sp1 ha 2 (.int .i64 0) ?_; clear ha a; intro a ha
  refine endl (thenN (hK134 _ _ ?_)); clear hK134
  refine wp_ret ?_
  refine thenR ?_
  obtain rfl := Option.some.inj h
  exact finv ha _ _ rfl (.tmp (v := .int .i64 0) KR .nil) (.int .i64 0) rfl ⟨rfl, HW.pick [] [] (by decide) (by decide) rfl KR⟩
 ·
  replace h := q0c h hp132
  replace ha := ha.bool 5 KR (decide_eq_false hp132)
  refine sp3 ha 6 (.int .i64 a0) 7 (.bool (decide (a0 > 65536))) 8 (.bool (decide (a0 > 65536))) ?_; clear ha a; intro a ha
  refine endl (thenN (hK131 _ _ ?_)); clear hK131
  by_cases hp135 : a0 > 65536
  ·
   replace h := q0b h hp135
   refine condT ha KR KR (t := decide (a0 > 65536)) (decide_eq_true hp135) ?_
   refine wp_seq_k (fun K136 hK137 => ?_)
   refine wp_region_lit ?_
   refine sp1 ha 2 (.int .i64 0) ?_; clear ha a; intro a ha
   refine endl (thenN (hK137 _ _ ?_)); clear hK137
   refine wp_ret ?_
   refine thenR ?_
   obtain rfl := Option.some.inj h
   exact finv ha _ _ rfl (.tmp (v := .int .i64 0) KR .nil) (.int .i64 0) rfl ⟨rfl, HW.pick [] [] (by decide) (by decide) rfl KR⟩
  ·
   replace h := q0c h hp135
   refine condF ha KR KR (t := decide (a0 > 65536)) (decide_eq_false hp135) ?_
   refine wp_skip ?_
   refine thenN (hK129 _ _ (wp_seq_k fun K138 hK139 => wp_region_lit ?_)); clear hK129
   refine sp6 ha 9 (.int .i64 a0) 10 (.int .i64 (IntKind.wrap .i64 (a0 + 24))) 11 (.int .i64 (IntKind.wrap .i64 ((IntKind.wrap .i64 (a0 + 24)) + 512))) 12 (.int .i64 (IntKind.wrap .i64 ((IntKind.wrap .i64 ((IntKind.wrap .i64 (a0 + 24)) + 512)) - 1))) 13 (.int .i64 (IntKind.wrap .i64 (Int.tdiv (IntKind.wrap .i64 ((IntKind.wrap .i64 ((IntKind.wrap .i64 (a0 + 24)) + 512)) - 1)) 512))) 2 (.int .i64 (IntKind.wrap .i64 (Int.tdiv (IntKind.wrap .i64 ((IntKind.wrap .i64 ((IntKind.wrap .i64 (a0 + 24)) + 512)) - 1)) 512))) ?_; clear ha a; intro a ha
   refine endl (thenN (hK139 _ _ ?_)); clear hK139
   refine wp_ret ?_
   obtain rfl := Option.some.inj h
   exact finv ha _ _ rfl (.tmp (v := .int .i64 (IntKind.wrap .i64 (Int.tdiv (IntKind.wrap .i64 ((IntKind.wrap .i64 ((IntKind.wrap .i64 (a0 + 24)) + 512)) - 1)) 512))) KR .nil) (.int .i64 (IntKind.wrap .i64 (Int.tdiv (IntKind.wrap .i64 ((IntKind.wrap .i64 ((IntKind.wrap .i64 (a0 + 24)) + 512)) - 1)) 512))) rfl ⟨rfl, HW.pick [] [] (by decide) (by decide) rfl KR⟩
def q0z.j0 (K : Nat) (a0 : q04) : Option (Bool × q04) :=
 some (true, (⟨a0.f0, a0.f1, a0.f2, (⟨(), (), IntKind.wrap .i64 (a0.f3.f2 + 1)⟩ : q03), a0.f4, IntKind.wrap .i64 (a0.f5 - 1), a0.f6⟩ : q04))
def q0z.f (K : Nat) (a0 : q04) : Option (Bool × q04) :=
 if a0.f6 = true then (some (false, (⟨a0.f0, a0.f1, a0.f2, (⟨(), (), a0.f3.f2⟩ : q03), a0.f4, a0.f5, true⟩ : q04))) else (if a0.f4 = true then (if a0.f5 = 0 then (some (false, (⟨a0.f0, a0.f1, a0.f2, (⟨(), (), a0.f3.f2⟩ : q03), a0.f4, a0.f5, true⟩ : q04))) else (q0z.j0 K a0)) else (q0z.j0 K a0))
set_option maxRecDepth 100000 in
set_option maxHeartbeats 4000000 in
theorem q0z.calls (K : Nat) (a0 : q04) (p0 : Nat) (U0 : Blks)  (r : Bool × q04) (w w1 : World) (F bs : Blks) (os : List OwnA) (hU0 : q04.At p0  a0 U0) (HW : Wd w w1 (U0 ++ (F ++ bs)) os) (h : q0z.f K a0 = some r) :
  Calls Tryd.prog 36 #[.pointer (some ⟨p0, 0, none⟩)] w1 (fun e W' => ∃ U0' : Blks, e = .returned (.bool r.1) ∧ q04.At p0  r.2 U0' ∧ Wd w W' (U0' ++ (F ++ bs)) (os)) := by
 refine q17 (n := 34) (l := [(0, (ptr p0))]) Tryd.func36 rfl rfl (Nat.le_of_ble_eq_true KR) (q07 rfl (q0q _)) ?_
 intro a ha
 replace HW : Wd w w1 (U0 ++ (F ++ bs)) (os) := HW
 unfold q0z.f at h
 refine wp_seq_k (fun K154 hK155 => ?_)
 refine wp_region_lit ?_
 refine sp1 ha 2 (.bool false) ?_; clear ha a; intro a ha
 refine endl (thenN (hK155 _ _ (wp_seq_k fun K156 hK157 => ?_))); clear hK155
 refine cutn (fun a W195 => ∃ A186, ∃ c187, ∃ A189, ∃ c190, ∃ A192, ∃ c193, q0z.j0 K a0 = some r ∧ Has 34 [(0, (ptr p0))] a ∧ Wd w W195 ((p0, .cells (ar0 A186 a0.f0.length c187 A189 a0.f1.length c190 A192 a0.f2.length c193 a0.f3.f2 a0.f4 a0.f5 a0.f6) 53 (0, 0)) :: F ++ bs) ((rw0 A186 a0.f0 c187) :: (rw0 A189 a0.f1 c190) :: (rw1 A192 a0.f2 c193) :: os)) ?_ ?_
 ·
  refine wp_seq_k (fun K158 hK159 => ?_)
  refine wp_region_lit ?_
  refine sp3 ha 3 ((ptr p0)) 4 ((ptr p0)) 5 (.pointer (some ⟨p0, 6, none⟩)) ?_; clear ha a; intro a ha
  obtain ⟨A160, c161, A163, c164, A166, c167, HW⟩ := q04.unfold hU0 (HW)
  replace HW : Wd w w1 ((p0, .cells (ar0 A160 a0.f0.length c161 A163 a0.f1.length c164 A166 a0.f2.length c167 a0.f3.f2 a0.f4 a0.f5 a0.f6) 53 (0, 0)) :: F ++ bs) ((rw0 A160 a0.f0 c161) :: (rw0 A163 a0.f1 c164) :: (rw1 A166 a0.f2 c167) :: os) := HW; clear hU0
  refine stepl ha 6 (HW.ca (i := 0) (b := p0) (C := (ar0 A160 a0.f0.length c161 A163 a0.f1.length c164 A166 a0.f2.length c167 a0.f3.f2 a0.f4 a0.f5 a0.f6)) (T := 53) (fr := (0, 0)) KR) 4 6 (.tmp 5) (.bool a0.f6) rfl KR KR KR ?_; clear ha a; intro a ha
  refine sp1 ha 7 (.bool a0.f6) ?_; clear ha a; intro a ha
  by_cases hp169 : a0.f6 = true
  ·
   replace h := q0b h hp169
   replace ha := ha.bool 7 KR (hp169)
   refine stepo ha 8 KR ?_; clear ha a; intro a ha
   refine stepo ha 9 KR ?_; clear ha a; intro a ha
   refine stepo ha 10 KR ?_; clear ha a; intro a ha
   refine stepo ha 11 KR ?_; clear ha a; intro a ha
   refine stepo ha 12 KR ?_; clear ha a; intro a ha
   refine stepo ha 13 KR ?_; clear ha a; intro a ha
   refine stepo ha 14 KR ?_; clear ha a; intro a ha
   refine stepo ha 15 KR ?_; clear ha a; intro a ha
   refine stepo ha 16 KR ?_; clear ha a; intro a ha
   refine stepo ha 17 KR ?_; clear ha a; intro a ha
   refine stepo ha 18 KR ?_; clear ha a; intro a ha
   refine sp1 ha 19 (.bool true) ?_; clear ha a; intro a ha
   refine endl (thenN (hK159 _ _ ?_)); clear hK159
   refine condT ha KR KR (t := true) (rfl) ?_
   refine wp_seq_k (fun K171 hK172 => ?_)
   refine wp_region_lit ?_
   refine sp3 ha 20 ((ptr p0)) 21 ((ptr p0)) 22 (.pointer (some ⟨p0, 6, none⟩)) ?_; clear ha a; intro a ha
   refine q26 ha HW 0 (b := p0) (C := (ar0 A160 a0.f0.length c161 A163 a0.f1.length c164 A166 a0.f2.length c167 a0.f3.f2 a0.f4 a0.f5 a0.f6)) (T := 53) KR 4 6 (.tmp 22) (.const (.bool true)) (.bool true) (ar0 A160 a0.f0.length c161 A163 a0.f1.length c164 A166 a0.f2.length c167 a0.f3.f2 a0.f4 a0.f5 true) rfl KR KR KR KR KR KR KR ?_; clear ha HW a; intro a W173 HW ha
   refine endl (thenN (hK172 _ _ (wp_seq_k fun K174 hK175 => wp_region_lit ?_))); clear hK172
   refine sp1 ha 2 (.bool false) ?_; clear ha a; intro a ha
   refine endl (thenN (hK175 _ _ ?_)); clear hK175
   refine wp_ret ?_
   refine thenR ?_
   obtain ⟨U176, hU177, HW⟩ := q04.fold (x := (⟨a0.f0, a0.f1, a0.f2, (⟨(), (), a0.f3.f2⟩ : q03), a0.f4, a0.f5, true⟩ : q04)) (HW)
   replace HW := HW
   replace HW : Wd w W173 (U176 ++ (F ++ bs)) (os) := HW
   obtain rfl := Option.some.inj h
   exact finv ha _ _ rfl (.tmp (v := .bool false) KR .nil) (.bool false) rfl ⟨U176, rfl, hU177, (HW)⟩
  ·
   replace h := q0c h hp169
   replace ha := ha.bool 7 KR (q2w hp169)
   refine sp3 ha 8 ((ptr p0)) 9 ((ptr p0)) 10 (.pointer (some ⟨p0, 4, none⟩)) ?_; clear ha a; intro a ha
   refine stepl ha 11 (HW.ca (i := 0) (b := p0) (C := (ar0 A160 a0.f0.length c161 A163 a0.f1.length c164 A166 a0.f2.length c167 a0.f3.f2 a0.f4 a0.f5 a0.f6)) (T := 53) (fr := (0, 0)) KR) 4 4 (.tmp 10) (.bool a0.f4) rfl KR KR KR ?_; clear ha a; intro a ha
   refine sp1 ha 12 (.bool a0.f4) ?_; clear ha a; intro a ha
   by_cases hp170 : a0.f4 = true
   ·
    replace h := q0b h hp170
    replace ha := ha.bool 12 KR (hp170)
    refine sp3 ha 13 ((ptr p0)) 14 ((ptr p0)) 15 (.pointer (some ⟨p0, 5, none⟩)) ?_; clear ha a; intro a ha
    refine stepl ha 16 (HW.ca (i := 0) (b := p0) (C := (ar0 A160 a0.f0.length c161 A163 a0.f1.length c164 A166 a0.f2.length c167 a0.f3.f2 a0.f4 a0.f5 a0.f6)) (T := 53) (fr := (0, 0)) KR) 3 5 (.tmp 15) (.int .i64 a0.f5) rfl KR KR KR ?_; clear ha a; intro a ha
    refine sp3 ha 17 (.bool (a0.f5 == 0)) 18 (.bool (a0.f5 == 0)) 19 (.bool (a0.f5 == 0)) ?_; clear ha a; intro a ha
    refine endl (thenN (hK159 _ _ ?_)); clear hK159
    by_cases hp178 : a0.f5 = 0
    ·
     replace h := q0b h hp178
     refine condT ha KR KR (t := (a0.f5 == 0)) (ieq_t hp178) ?_
     refine wp_seq_k (fun K179 hK180 => ?_)
     refine wp_region_lit ?_
     refine sp3 ha 20 ((ptr p0)) 21 ((ptr p0)) 22 (.pointer (some ⟨p0, 6, none⟩)) ?_; clear ha a; intro a ha
     refine q26 ha HW 0 (b := p0) (C := (ar0 A160 a0.f0.length c161 A163 a0.f1.length c164 A166 a0.f2.length c167 a0.f3.f2 a0.f4 a0.f5 a0.f6)) (T := 53) KR 4 6 (.tmp 22) (.const (.bool true)) (.bool true) (ar0 A160 a0.f0.length c161 A163 a0.f1.length c164 A166 a0.f2.length c167 a0.f3.f2 a0.f4 a0.f5 true) rfl KR KR KR KR KR KR KR ?_; clear ha HW a; intro a W181 HW ha
     refine endl (thenN (hK180 _ _ (wp_seq_k fun K182 hK183 => wp_region_lit ?_))); clear hK180
     refine sp1 ha 2 (.bool false) ?_; clear ha a; intro a ha
     refine endl (thenN (hK183 _ _ ?_)); clear hK183
     refine wp_ret ?_
     refine thenR ?_
     obtain ⟨U184, hU185, HW⟩ := q04.fold (x := (⟨a0.f0, a0.f1, a0.f2, (⟨(), (), a0.f3.f2⟩ : q03), a0.f4, a0.f5, true⟩ : q04)) (HW)
     replace HW := HW
     replace HW : Wd w W181 (U184 ++ (F ++ bs)) (os) := HW
     obtain rfl := Option.some.inj h
     exact finv ha _ _ rfl (.tmp (v := .bool false) KR .nil) (.bool false) rfl ⟨U184, rfl, hU185, (HW)⟩
    ·
     replace h := q0c h hp178
     refine condF ha KR KR (t := (a0.f5 == 0)) (ieq_f hp178) ?_
     refine wp_skip ?_
     exact thenN ⟨A160, c161, A163, c164, A166, c167, h, ha.sub (q05 KR (q0t _)), (HW)⟩
   ·
    replace h := q0c h hp170
    replace ha := ha.bool 12 KR (q2w hp170)
    refine stepo ha 13 KR ?_; clear ha a; intro a ha
    refine stepo ha 14 KR ?_; clear ha a; intro a ha
    refine stepo ha 15 KR ?_; clear ha a; intro a ha
    refine stepo ha 16 KR ?_; clear ha a; intro a ha
    refine stepo ha 17 KR ?_; clear ha a; intro a ha
    refine sp2 ha 18 (.bool false) 19 (.bool false) ?_; clear ha a; intro a ha
    refine endl (thenN (hK159 _ _ ?_)); clear hK159
    refine condF ha KR KR (t := false) (rfl) ?_
    refine wp_skip ?_
    exact thenN ⟨A160, c161, A163, c164, A166, c167, h, ha.sub (q05 KR (q0t _)), (HW)⟩
 ·
  intro a W195 hJ
  obtain ⟨A186, c187, A189, c190, A192, c193, h, ha, HW⟩ := hJ
  replace h : q0z.j0 K a0 = some r := h
  unfold q0z.j0 at h
  refine hK157 _ _ ?_; clear hK157
  refine wp_seq_k (fun K196 hK197 => ?_)
  refine wp_region_lit ?_
  refine sp3 ha 23 ((ptr p0)) 24 ((ptr p0)) 25 (.pointer (some ⟨p0, 5, none⟩)) ?_; clear ha a; intro a ha
  refine stepl ha 26 (HW.ca (i := 0) (b := p0) (C := (ar0 A186 a0.f0.length c187 A189 a0.f1.length c190 A192 a0.f2.length c193 a0.f3.f2 a0.f4 a0.f5 a0.f6)) (T := 53) (fr := (0, 0)) KR) 3 5 (.tmp 25) (.int .i64 a0.f5) rfl KR KR KR ?_; clear ha a; intro a ha
  refine sp3 ha 27 (.int .i64 (IntKind.wrap .i64 (a0.f5 - 1))) 28 ((ptr p0)) 29 (.pointer (some ⟨p0, 5, none⟩)) ?_; clear ha a; intro a ha
  refine q26 ha HW 0 (b := p0) (C := (ar0 A186 a0.f0.length c187 A189 a0.f1.length c190 A192 a0.f2.length c193 a0.f3.f2 a0.f4 a0.f5 a0.f6)) (T := 53) KR 3 5 (.tmp 29) (.tmp 27) (.int .i64 (IntKind.wrap .i64 (a0.f5 - 1))) (ar0 A186 a0.f0.length c187 A189 a0.f1.length c190 A192 a0.f2.length c193 a0.f3.f2 a0.f4 (IntKind.wrap .i64 (a0.f5 - 1)) a0.f6) rfl KR KR KR KR KR KR KR ?_; clear ha HW a; intro a W198 HW ha
  refine endl (thenN (hK197 _ _ (wp_seq_k fun K199 hK200 => wp_region_lit ?_))); clear hK197
  refine sp3 ha 30 ((ptr p0)) 31 ((ptr p0)) 32 (.pointer (some ⟨p0, 3, none⟩)) ?_; clear ha a; intro a ha
  refine stepc ha 33 KR KR (atom_add (x := a0.f3.f2) (y := 1) (HW.cellAt (i := 0) (b := p0) (C := (ar0 A186 a0.f0.length c187 A189 a0.f1.length c190 A192 a0.f2.length c193 a0.f3.f2 a0.f4 (IntKind.wrap .i64 (a0.f5 - 1)) a0.f6)) (T := 53) KR 3 KR) (HW.notFrozen (i := 0) (b := p0) (C := (ar0 A186 a0.f0.length c187 A189 a0.f1.length c190 A192 a0.f2.length c193 a0.f3.f2 a0.f4 (IntKind.wrap .i64 (a0.f5 - 1)) a0.f6)) (T := 53) KR 3)) ?_; clear ha a; rintro e W201 ⟨rfl, hW202⟩; refine ⟨_, rfl, ?_⟩; intro a ha
  replace HW : Wd w W201 ((p0, .cells (ar0 A186 a0.f0.length c187 A189 a0.f1.length c190 A192 a0.f2.length c193 (IntKind.wrap .i64 (a0.f3.f2 + 1)) a0.f4 (IntKind.wrap .i64 (a0.f5 - 1)) a0.f6) 53 (0, 0)) :: F ++ bs) ((rw0 A186 a0.f0 c187) :: (rw0 A189 a0.f1 c190) :: (rw1 A192 a0.f2 c193) :: os) := by rw [hW202]; exact HW.setAt (i := 0) (b := p0) (C := (ar0 A186 a0.f0.length c187 A189 a0.f1.length c190 A192 a0.f2.length c193 a0.f3.f2 a0.f4 (IntKind.wrap .i64 (a0.f5 - 1)) a0.f6)) (T := 53) KR 3 (.int .i64 (IntKind.wrap .i64 (a0.f3.f2 + 1))) (C' := (ar0 A186 a0.f0.length c187 A189 a0.f1.length c190 A192 a0.f2.length c193 (IntKind.wrap .i64 (a0.f3.f2 + 1)) a0.f4 (IntKind.wrap .i64 (a0.f5 - 1)) a0.f6)) KR
  clear hW202
  refine endl (thenN (hK200 _ _ (wp_seq_k fun K203 hK204 => wp_region_lit ?_))); clear hK200
  refine sp1 ha 2 (.bool true) ?_; clear ha a; intro a ha
  refine endl (thenN (hK204 _ _ ?_)); clear hK204
  refine wp_ret ?_
  obtain ⟨U205, hU206, HW⟩ := q04.fold (x := (⟨a0.f0, a0.f1, a0.f2, (⟨(), (), IntKind.wrap .i64 (a0.f3.f2 + 1)⟩ : q03), a0.f4, IntKind.wrap .i64 (a0.f5 - 1), a0.f6⟩ : q04)) (HW)
  replace HW := HW
  replace HW : Wd w W201 (U205 ++ (F ++ bs)) (os) := HW
  obtain rfl := Option.some.inj h
  exact finv ha _ _ rfl (.tmp (v := .bool true) KR .nil) (.bool true) rfl ⟨U205, rfl, hU206, (HW)⟩
def q0w.f (a0 : q00) (a0_0 : q04) (a1 : Int) : Option (Int × q00 × q04) :=
 if a0.f9 = true then (some (a1, (⟨(), a0.f1, a0.f2, a0.f3, (⟨(), (), a0.f4.f2⟩ : q03), a0.f5, a0.f6, a0.f7, a0.f8, true⟩ : q00), a0_0)) else (some (a1, (⟨(), a0.f1, a0.f2, a0.f3, (⟨(), (), a0.f4.f2⟩ : q03), a0.f5, a0.f6, a0.f7, a0.f8, (a1 != 0)⟩ : q00), a0_0))
set_option maxRecDepth 100000 in
set_option maxHeartbeats 4000000 in
theorem q0w.calls (a0 : q00) (a0_0 : q04) (a1 : Int) (p0 : Nat) (U0 : Blks) (p0_0 : Nat) (U0_0 : Blks)  (r : Int × q00 × q04) (w w1 : World) (F bs : Blks) (os : List OwnA) (hU0 : q00.At p0 p0_0 a0 U0) (hU0_0 : q04.At p0_0  a0_0 U0_0) (HW : Wd w w1 (U0 ++ (U0_0 ++ (F ++ bs))) os) (h : q0w.f a0 a0_0 a1 = some r) :
  Calls Tryd.prog 43 #[.pointer (some ⟨p0, 0, none⟩), .int .i64 a1] w1 (fun e W' => ∃ U0' : Blks, ∃ U0_0' : Blks, e = .returned (.int .i64 r.1) ∧ q00.At p0 p0_0 r.2.1 U0' ∧ q04.At p0_0  r.2.2 U0_0' ∧ Wd w W' (U0' ++ (U0_0' ++ (F ++ bs))) (os)) := by
 refine q17 (n := 17) (l := [(0, (ptr p0)), (1, .int .i64 a1)]) Tryd.func43 rfl rfl (Nat.le_of_ble_eq_true KR) (q07 rfl (q07 rfl (q0q _))) ?_
 intro a ha
 replace HW : Wd w w1 (U0 ++ (U0_0 ++ (F ++ bs))) (os) := HW
 unfold q0w.f at h
 refine wp_seq_k (fun K613 hK614 => ?_)
 refine wp_region_lit ?_
 refine sp1 ha 4 (.int .i64 0) ?_; clear ha a; intro a ha
 refine endl (thenN (hK614 _ _ (wp_seq_k fun K615 hK616 => wp_region_lit ?_))); clear hK614
 refine sp4 ha 5 ((ptr p0)) 6 ((ptr p0)) 7 ((ptr p0)) 8 (.pointer (some ⟨p0, 9, none⟩)) ?_; clear ha a; intro a ha
 obtain ⟨A617, c618, HW⟩ := q00.unfold hU0 (HW)
 replace HW : Wd w w1 ((p0, .cells (ar1 p0_0 a0.f1 a0.f2 a0.f3 a0.f4.f2 a0.f5 A617 a0.f6.length c618 a0.f7 a0.f8 a0.f9) 57 (0, 0)) :: U0_0 ++ (F ++ bs)) ((rw0 A617 a0.f6 c618) :: os) := HW; clear hU0
 refine stepl ha 9 (HW.ca (i := 0) (b := p0) (C := (ar1 p0_0 a0.f1 a0.f2 a0.f3 a0.f4.f2 a0.f5 A617 a0.f6.length c618 a0.f7 a0.f8 a0.f9)) (T := 57) (fr := (0, 0)) KR) 4 9 (.tmp 8) (.bool a0.f9) rfl KR KR KR ?_; clear ha a; intro a ha
 refine sp1 ha 10 (.bool a0.f9) ?_; clear ha a; intro a ha
 by_cases hp620 : a0.f9 = true
 ·
  replace h := q0b h hp620
  replace ha := ha.bool 10 KR (hp620)
  refine stepo ha 11 KR ?_; clear ha a; intro a ha
  refine stepo ha 12 KR ?_; clear ha a; intro a ha
  refine sp3 ha 13 (.bool true) 14 ((ptr p0)) 15 (.pointer (some ⟨p0, 9, none⟩)) ?_; clear ha a; intro a ha
  refine q26 ha HW 0 (b := p0) (C := (ar1 p0_0 a0.f1 a0.f2 a0.f3 a0.f4.f2 a0.f5 A617 a0.f6.length c618 a0.f7 a0.f8 a0.f9)) (T := 57) KR 4 9 (.tmp 15) (.tmp 13) (.bool true) (ar1 p0_0 a0.f1 a0.f2 a0.f3 a0.f4.f2 a0.f5 A617 a0.f6.length c618 a0.f7 a0.f8 true) rfl KR KR KR KR KR KR KR ?_; clear ha HW a; intro a W621 HW ha
  refine endl (thenN (hK616 _ _ (wp_seq_k fun K623 hK624 => wp_region_lit ?_))); clear hK616
  refine sp2 ha 16 (.int .i64 a1) 4 (.int .i64 a1) ?_; clear ha a; intro a ha
  refine endl (thenN (hK624 _ _ ?_)); clear hK624
  refine wp_ret ?_
  obtain ⟨U625, hU626, HW⟩ := q00.fold (x := (⟨(), a0.f1, a0.f2, a0.f3, (⟨(), (), a0.f4.f2⟩ : q03), a0.f5, a0.f6, a0.f7, a0.f8, true⟩ : q00)) (HW)
  replace HW := HW
  replace HW : Wd w W621 (U625 ++ (U0_0 ++ (F ++ bs))) (os) := HW
  obtain rfl := Option.some.inj h
  exact finv ha _ _ rfl (.tmp (v := .int .i64 a1) KR .nil) (.int .i64 a1) rfl ⟨U625, U0_0, rfl, hU626, hU0_0, (HW)⟩
 ·
  replace h := q0c h hp620
  replace ha := ha.bool 10 KR (q2w hp620)
  refine sp5 ha 11 (.int .i64 a1) 12 (.bool (a1 != 0)) 13 (.bool (a1 != 0)) 14 ((ptr p0)) 15 (.pointer (some ⟨p0, 9, none⟩)) ?_; clear ha a; intro a ha
  refine q26 ha HW 0 (b := p0) (C := (ar1 p0_0 a0.f1 a0.f2 a0.f3 a0.f4.f2 a0.f5 A617 a0.f6.length c618 a0.f7 a0.f8 a0.f9)) (T := 57) KR 4 9 (.tmp 15) (.tmp 13) (.bool (a1 != 0)) (ar1 p0_0 a0.f1 a0.f2 a0.f3 a0.f4.f2 a0.f5 A617 a0.f6.length c618 a0.f7 a0.f8 (a1 != 0)) rfl KR KR KR KR KR KR KR ?_; clear ha HW a; intro a W622 HW ha
  refine endl (thenN (hK616 _ _ (wp_seq_k fun K627 hK628 => wp_region_lit ?_))); clear hK616
  refine sp2 ha 16 (.int .i64 a1) 4 (.int .i64 a1) ?_; clear ha a; intro a ha
  refine endl (thenN (hK628 _ _ ?_)); clear hK628
  refine wp_ret ?_
  obtain ⟨U629, hU630, HW⟩ := q00.fold (x := (⟨(), a0.f1, a0.f2, a0.f3, (⟨(), (), a0.f4.f2⟩ : q03), a0.f5, a0.f6, a0.f7, a0.f8, (a1 != 0)⟩ : q00)) (HW)
  replace HW := HW
  replace HW : Wd w W622 (U629 ++ (U0_0 ++ (F ++ bs))) (os) := HW
  obtain rfl := Option.some.inj h
  exact finv ha _ _ rfl (.tmp (v := .int .i64 a1) KR .nil) (.int .i64 a1) rfl ⟨U629, U0_0, rfl, hU630, hU0_0, (HW)⟩
def q0r.b0 (K : Nat) (a0 : q04) (again731 : Int → (List ByteArray) → (List ByteArray) → Option q04) (x732 : Int) (x733 : List ByteArray) (x737 : List ByteArray) : Option q04 :=
 if x732 < (a0.f2.length : Int) then (asrt (0 ≤ x732) (asrt (0 ≤ ((rdL q01.z a0.f2 x732).f0)) (asrt (((rdL q01.z a0.f2 x732).f0) < (x737.length : Int)) (if (rdL (⟨#[]⟩ : ByteArray) x737 ((rdL q01.z a0.f2 x732).f0)) = (⟨#[]⟩ : ByteArray) then (again731 (IntKind.wrap .i64 (x732 + 1)) x733 x737) else (asrt (((rdL q01.z a0.f2 x732).f0) < (x733.length : Int)) (again731 (IntKind.wrap .i64 (x732 + 1)) (x733.set ((rdL q01.z a0.f2 x732).f0 : Int).toNat (rdL (⟨#[]⟩ : ByteArray) x737 ((rdL q01.z a0.f2 x732).f0))) (x737.set ((rdL q01.z a0.f2 x732).f0 : Int).toNat (⟨#[]⟩ : ByteArray)))))))) else (some (⟨x733, x737, ([] : List q01), (⟨(), (), a0.f3.f2⟩ : q03), a0.f4, a0.f5, a0.f6⟩ : q04))
def q0r.l0 (K : Nat) (a0 : q04) : Nat → Int → (List ByteArray) → (List ByteArray) → Option q04
 | 0, _, _, _ => none
 | k_ + 1, x732, x733, x737 => q0r.b0 K a0 (q0r.l0 K a0 k_) x732 x733 x737
def q0r.f (K : Nat) (a0 : q04) : Option q04 :=
 q0r.l0 K a0 K 0 a0.f0 a0.f1
set_option maxRecDepth 100000 in
set_option maxHeartbeats 4000000 in
theorem q0r.calls (K : Nat) (a0 : q04) (p0 : Nat) (U0 : Blks)  (r : q04) (w w1 : World) (F bs : Blks) (os : List OwnA) (hU0 : q04.At p0  a0 U0) (HW : Wd w w1 (U0 ++ (F ++ bs)) os) (h : q0r.f K a0 = some r) :
  Calls Tryd.prog 29 #[.pointer (some ⟨p0, 0, none⟩)] w1 (fun e W' => ∃ U0' : Blks, e = .returned (.tuple #[]) ∧ q04.At p0  r U0' ∧ Wd w W' (U0' ++ (F ++ bs)) (os)) := by
 refine q17 (n := 48) (l := [(0, (ptr p0))]) Tryd.func29 rfl rfl (Nat.le_of_ble_eq_true KR) (q07 rfl (q0q _)) ?_
 intro a ha
 replace HW : Wd w w1 (U0 ++ (F ++ bs)) (os) := HW
 unfold q0r.f at h
 refine wp_seq_k (fun K631 hK632 => ?_)
 refine wp_seq_k (fun K633 hK634 => ?_)
 refine wp_region_lit ?_
 refine sp3 ha 4 ((ptr p0)) 5 ((ptr p0)) 6 (.pointer (some ⟨p0, 2, none⟩)) ?_; clear ha a; intro a ha
 obtain ⟨A635, c636, A638, c639, A641, c642, HW⟩ := q04.unfold hU0 (HW)
 replace HW : Wd w w1 ((p0, .cells (ar0 A635 a0.f0.length c636 A638 a0.f1.length c639 A641 a0.f2.length c642 a0.f3.f2 a0.f4 a0.f5 a0.f6) 53 (0, 0)) :: F ++ bs) ((rw0 A635 a0.f0 c636) :: (rw0 A638 a0.f1 c639) :: (rw1 A641 a0.f2 c642) :: os) := HW; clear hU0
 refine stepl ha 7 (HW.ca (i := 0) (b := p0) (C := (ar0 A635 a0.f0.length c636 A638 a0.f1.length c639 A641 a0.f2.length c642 a0.f3.f2 a0.f4 a0.f5 a0.f6)) (T := 53) (fr := (0, 0)) KR) 46 2 (.tmp 6) (.slice A641 a0.f2.length c642) rfl KR KR KR ?_; clear ha a; intro a ha
 refine sp2 ha 8 (.int .i64 (a0.f2.length : Int)) 9 (.int .i64 0) ?_; clear ha a; intro a ha
 refine endl (thenN (hK634 _ _ ?_)); clear hK634
 refine wp_block ?_
 refine loopk (fun k => fun a W741 => ∃ (x732 : Int), ∃ (x733 : List ByteArray), ∃ A734, ∃ c735, ∃ (x737 : List ByteArray), ∃ A738, ∃ c739, q0r.l0 K a0 k x732 x733 x737 = some r ∧ Has 48 [(0, (ptr p0)), (7, .slice A641 a0.f2.length c642), (8, .int .i64 (a0.f2.length : Int)), (9, .int .i64 x732)] a ∧ Wd w W741 ((p0, .cells (ar0 A734 x733.length c735 A738 x737.length c739 A641 a0.f2.length c642 a0.f3.f2 a0.f4 a0.f5 a0.f6) 53 (0, 0)) :: F ++ bs) ((rw0 A734 x733 c735) :: (rw0 A738 x737 c739) :: (rw1 A641 a0.f2 c642) :: os)) K ?_ ?_
 ·
  exact ⟨0, a0.f0, A635, c636, a0.f1, A638, c639, h, ha.sub (q05 KR (q05 KR (q05 KR (q05 KR (q0t _))))), (HW)⟩
 ·
  intro k a W741 hI
  obtain ⟨x732, x733, A734, c735, x737, A738, c739, h, ha, HW⟩ := hI
  cases k with
  | zero => exact (q1n (show none = some r from h)).elim
  | succ k742 =>
   replace h : q0r.b0 K a0 (q0r.l0 K a0 k742) x732 x733 x737 = some r := h
   obtain ⟨again731, hag743⟩ : ∃ g_, g_ = q0r.l0 K a0 k742 := ⟨_, rfl⟩
   rw [← hag743] at h
   unfold q0r.b0 at h
   refine wp_seq_k (fun K744 hK745 => ?_)
   refine wp_region_lit ?_
   refine sp1 ha 10 (.bool (decide (x732 < (a0.f2.length : Int)))) ?_; clear ha a; intro a ha
   refine endl (thenN (hK745 _ _ (wp_seq_k fun K746 hK747 => ?_))); clear hK745
   by_cases hp748 : x732 < (a0.f2.length : Int)
   ·
    replace h := q0b h hp748
    refine condT ha KR KR (t := decide (x732 < (a0.f2.length : Int))) (decide_eq_true hp748) ?_
    refine wp_skip ?_
    refine thenN (hK747 _ _ (wp_seq_k fun K749 hK750 => ?_)); clear hK747
    refine wp_block ?_
    refine wp_seq_k (fun K751 hK752 => ?_)
    refine wp_region_lit ?_
    obtain ⟨hA753, h_⟩ := q0d h; replace h := h_; clear h_
    refine stepie q01.enc q01.z ha 11 (fun _ => rfl) (v := .slice A641 a0.f2.length c642) (xs := a0.f2) (HW.rdo (i := 2) (q := (rw1 A641 a0.f2 c642)) KR) 46 62 (.tmp 7) (.tmp 9) .i64 x732 rfl KR KR KR KR hA753 (show (x732 : Int) < ((a0.f2).length : Int) from hp748) KR ?_; clear ha a; intro b754 off755 a hC756 ha
    refine stepl ha 12 hC756 62 0 (.tmp 11) (.agg #[.int .i64 ((rdL q01.z a0.f2 x732).f0), .string ((rdL q01.z a0.f2 x732).f1)]) rfl KR KR KR ?_; clear ha a; intro a ha
    refine stepnew ha HW 3 #[.int .i64 0, .string (⟨#[]⟩ : ByteArray)] 62 KR KR ?_; clear ha HW a; intro b757 a W758 HW ha
    refine q26 ha HW 0 (b := b757) (C := #[.int .i64 0, .string (⟨#[]⟩ : ByteArray)]) (T := 62) KR 62 0 (.tmp 3) (.tmp 12) (.agg #[.int .i64 ((rdL q01.z a0.f2 x732).f0), .string ((rdL q01.z a0.f2 x732).f1)]) #[.int .i64 ((rdL q01.z a0.f2 x732).f0), .string ((rdL q01.z a0.f2 x732).f1)] rfl KR KR KR KR KR KR KR ?_; clear ha HW a; intro a W759 HW ha
    refine endl (thenN (hK752 _ _ (wp_seq_k fun K760 hK761 => ?_))); clear hK752
    obtain ⟨hA762, h_⟩ := q0d h; replace h := h_; clear h_
    obtain ⟨hA763, h_⟩ := q0d h; replace h := h_; clear h_
    obtain ⟨b765, off766, hA767⟩ := Rd.addr (HW.rdo (i := 1) (q := (rw0 A738 x737 c739)) KR) hA762 (show ((rdL q01.z a0.f2 x732).f0 : Int) < ((x737).length : Int) from hA763)
    refine q2z 9 KR KR ha HW [.fix ((ptr p0)), .fix ((ptr p0)), .fix (.pointer (some ⟨p0, 1, none⟩)), .fix (.slice A738 x737.length c739), .fix ((ptr b757)), .fix (.int .i64 ((rdL q01.z a0.f2 x732).f0)), .fix (.pointer (some ⟨b765, off766 + ((rdL q01.z a0.f2 x732).f0 : Int).toNat * 1, none⟩)), .fix (.string (rdL (⟨#[]⟩ : ByteArray) x737 ((rdL q01.z a0.f2 x732).f0))), .fix (.bool (!((rdL (⟨#[]⟩ : ByteArray) x737 ((rdL q01.z a0.f2 x732).f0)).toList == (⟨#[]⟩ : ByteArray).toList)))] ?_ ?_
    ·
     refine ⟨?_, ?_, ?_, ?_, ?_, ?_, ?_, ?_, ?_, trivial⟩
     ·
      intro a wr hn hd HW hs; have ha := q0a hn hd
      have ha := ha.add (seeE hs 0 ((ptr p0)) KR KR)
      refine yStep ha 13 KR ?_; intro l_ ha HK
      refine stepp ha 13 ((ptr p0)) KR KR ?_; intro ax hax; exact HK _ _ _ hax rfl (Below.refl _ _)
     ·
      intro a wr hn hd HW hs; have ha := q0a hn hd
      have ha := ha.add (seeF hs 13 0 ((ptr p0)) KR KR)
      refine yStep ha 14 KR ?_; intro l_ ha HK
      refine stepp ha 14 ((ptr p0)) KR KR ?_; intro ax hax; exact HK _ _ _ hax rfl (Below.refl _ _)
     ·
      intro a wr hn hd HW hs; have ha := q0a hn hd
      have ha := ha.add (seeF hs 14 1 ((ptr p0)) KR KR)
      refine yStep ha 15 KR ?_; intro l_ ha HK
      refine stepp ha 15 (.pointer (some ⟨p0, 1, none⟩)) KR KR ?_; intro ax hax; exact HK _ _ _ hax rfl (Below.refl _ _)
     ·
      intro a wr hn hd HW hs; have ha := q0a hn hd
      have ha := ha.add (seeF hs 15 2 (.pointer (some ⟨p0, 1, none⟩)) KR KR)
      refine yStep ha 16 KR ?_; intro l_ ha HK
      refine stepl ha 16 (HW.ca (i := 1) (b := p0) (C := (ar0 A734 x733.length c735 A738 x737.length c739 A641 a0.f2.length c642 a0.f3.f2 a0.f4 a0.f5 a0.f6)) (T := 53) (fr := (0, 0)) KR) 22 1 (.tmp 15) (.slice A738 x737.length c739) rfl KR KR KR ?_; intro ax hax; exact HK _ _ _ hax rfl (Below.refl _ _)
     ·
      intro a wr hn hd HW hs; have ha := q0a hn hd
      have ha := ha.add (seeE hs 3 ((ptr b757)) KR KR)
      refine yStep ha 17 KR ?_; intro l_ ha HK
      refine stepp ha 17 ((ptr b757)) KR KR ?_; intro ax hax; exact HK _ _ _ hax rfl (Below.refl _ _)
     ·
      intro a wr hn hd HW hs; have ha := q0a hn hd
      have ha := ha.add (seeF hs 17 4 ((ptr b757)) KR KR)
      refine yStep ha 18 KR ?_; intro l_ ha HK
      refine stepl ha 18 (HW.ca (i := 0) (b := b757) (C := #[.int .i64 ((rdL q01.z a0.f2 x732).f0), .string ((rdL q01.z a0.f2 x732).f1)]) (T := 62) (fr := (0, 0)) KR) 3 0 (.tmp 17) (.int .i64 ((rdL q01.z a0.f2 x732).f0)) rfl KR KR KR ?_; intro ax hax; exact HK _ _ _ hax rfl (Below.refl _ _)
     ·
      intro a wr hn hd HW hs; have ha := q0a hn hd
      have ha := ha.add (seeF hs 16 3 (.slice A738 x737.length c739) KR KR)
      have ha := ha.add (seeF hs 18 5 (.int .i64 ((rdL q01.z a0.f2 x732).f0)) KR KR)
      replace ha := ha.turn 16 (u := .slice A738 x737.length c739) (v := .slice (some ⟨b765, off766, none⟩) x737.length c739) KR (by rw [hA767])
      refine yStep ha 19 KR ?_; intro l_ ha HK
      refine stepif ha 19 (sz := 1) (len := x737.length) (b := b765) (off := off766) (c := c739) 22 9 (.tmp 16) (.tmp 18) .i64 ((rdL q01.z a0.f2 x732).f0) rfl KR KR KR KR hA762 (show ((rdL q01.z a0.f2 x732).f0 : Int) < ((x737).length : Int) from hA763) KR ?_; intro ax hax; exact HK _ _ _ hax rfl (Below.refl _ _)
     ·
      intro a wr hn hd HW hs; have ha := q0a hn hd
      have ha := ha.add (seeF hs 19 6 (.pointer (some ⟨b765, off766 + ((rdL q01.z a0.f2 x732).f0 : Int).toNat * 1, none⟩)) KR KR)
      refine yStep ha 20 KR ?_; intro l_ ha HK
      refine stepl ha 20 (Rd.ca encS (⟨#[]⟩ : ByteArray) (fun _ => rfl) (by have h_ := (HW.rdo (i := 1) (q := (rw0 A738 x737 c739)) KR); rw [hA767] at h_; exact h_) hA762 (show ((rdL q01.z a0.f2 x732).f0 : Int) < ((x737).length : Int) from hA763)) 9 0 (.tmp 19) (.string (rdL (⟨#[]⟩ : ByteArray) x737 ((rdL q01.z a0.f2 x732).f0))) rfl KR KR KR ?_; intro ax hax; exact HK _ _ _ hax rfl (Below.refl _ _)
     ·
      intro a wr hn hd HW hs; have ha := q0a hn hd
      have ha := ha.add (seeF hs 20 7 (.string (rdL (⟨#[]⟩ : ByteArray) x737 ((rdL q01.z a0.f2 x732).f0))) KR KR)
      refine yStep ha 21 KR ?_; intro l_ ha HK
      refine stepp ha 21 (.bool (!((rdL (⟨#[]⟩ : ByteArray) x737 ((rdL q01.z a0.f2 x732).f0)).toList == (⟨#[]⟩ : ByteArray).toList))) KR KR ?_; intro ax hax; exact HK _ _ _ hax rfl (Below.refl _ _)
    ·
     intro a W768 ha HW he hf
     replace ha := ha.add (he 0 ((ptr p0)) KR KR)
     replace ha := ha.add (he 3 ((ptr b757)) KR KR)
     replace ha := ha.add (he 7 (.slice A641 a0.f2.length c642) KR KR)
     replace ha := ha.add (he 8 (.int .i64 (a0.f2.length : Int)) KR KR)
     replace ha := ha.add (he 9 (.int .i64 x732) KR KR)
     replace ha := ha.add (gotF (m := 9) (j := 8) (d := 21) (v := .bool (!((rdL (⟨#[]⟩ : ByteArray) x737 ((rdL q01.z a0.f2 x732).f0)).toList == (⟨#[]⟩ : ByteArray).toList))) hf KR KR KR)
     clear he hf
     refine endl (thenN (hK761 _ _ ?_)); clear hK761
     by_cases hp769 : (rdL (⟨#[]⟩ : ByteArray) x737 ((rdL q01.z a0.f2 x732).f0)) = (⟨#[]⟩ : ByteArray)
     ·
      replace h := q0b h hp769
      refine condF ha KR KR (t := (!((rdL (⟨#[]⟩ : ByteArray) x737 ((rdL q01.z a0.f2 x732).f0)).toList == (⟨#[]⟩ : ByteArray).toList))) (str_ne_f hp769) ?_
      refine wp_skip ?_
      refine blkN ?_
      refine thenN (hK750 _ _ (wp_region_lit ?_)); clear hK750
      refine sp2 ha 44 (.int .i64 (IntKind.wrap .i64 (x732 + 1))) 9 (.int .i64 (IntKind.wrap .i64 (x732 + 1))) ?_; clear ha a; intro a ha
      refine endl ?_
      exact thenN ⟨k742, Nat.lt_succ_self k742, IntKind.wrap .i64 (x732 + 1), x733, A734, c735, x737, A738, c739, (by rw [← hag743]; exact h), ha.sub (q05 KR (q05 KR (q05 KR (q05 KR (q0t _))))), (Wd.sg [[(b757, .cells #[.int .i64 ((rdL q01.z a0.f2 x732).f0), .string ((rdL q01.z a0.f2 x732).f1)] 62 (0, 0))], [(p0, .cells (ar0 A734 x733.length c735 A738 x737.length c739 A641 a0.f2.length c642 a0.f3.f2 a0.f4 a0.f5 a0.f6) 53 (0, 0))], F] bs [(rw0 A734 x733 c735), (rw0 A738 x737 c739), (rw1 A641 a0.f2 c642)] os [[(p0, .cells (ar0 A734 x733.length c735 A738 x737.length c739 A641 a0.f2.length c642 a0.f3.f2 a0.f4 a0.f5 a0.f6) 53 (0, 0))], F] [(rw0 A734 x733 c735), (rw0 A738 x737 c739), (rw1 A641 a0.f2 c642)] HW [1, 2] [0] [0, 1, 2] KR KR (by decide) KR)⟩
     ·
      replace h := q0c h hp769
      refine condT ha KR KR (t := (!((rdL (⟨#[]⟩ : ByteArray) x737 ((rdL q01.z a0.f2 x732).f0)).toList == (⟨#[]⟩ : ByteArray).toList))) (str_ne_t hp769) ?_
      refine wp_seq_k (fun K770 hK771 => ?_)
      refine q2z 14 KR KR ha HW [.fix ((ptr p0)), .fix ((ptr p0)), .fix ((ptr p0)), .fix (.slice A734 x733.length c735), .fix ((ptr b757)), .fix (.int .i64 ((rdL q01.z a0.f2 x732).f0)), .fix ((ptr p0)), .fix ((ptr p0)), .fix (.pointer (some ⟨p0, 1, none⟩)), .fix (.slice A738 x737.length c739), .fix ((ptr b757)), .fix (.int .i64 ((rdL q01.z a0.f2 x732).f0)), .fix (.pointer (some ⟨b765, off766 + ((rdL q01.z a0.f2 x732).f0 : Int).toNat * 1, none⟩)), .fix (.string (rdL (⟨#[]⟩ : ByteArray) x737 ((rdL q01.z a0.f2 x732).f0)))] ?_ ?_
      ·
       refine ⟨?_, ?_, ?_, ?_, ?_, ?_, ?_, ?_, ?_, ?_, ?_, ?_, ?_, ?_, trivial⟩
       ·
        intro a wr hn hd HW hs; have ha := q0a hn hd
        have ha := ha.add (seeE hs 0 ((ptr p0)) KR KR)
        refine yStep ha 22 KR ?_; intro l_ ha HK
        refine stepp ha 22 ((ptr p0)) KR KR ?_; intro ax hax; exact HK _ _ _ hax rfl (Below.refl _ _)
       ·
        intro a wr hn hd HW hs; have ha := q0a hn hd
        have ha := ha.add (seeF hs 22 0 ((ptr p0)) KR KR)
        refine yStep ha 23 KR ?_; intro l_ ha HK
        refine stepp ha 23 ((ptr p0)) KR KR ?_; intro ax hax; exact HK _ _ _ hax rfl (Below.refl _ _)
       ·
        intro a wr hn hd HW hs; have ha := q0a hn hd
        have ha := ha.add (seeF hs 23 1 ((ptr p0)) KR KR)
        refine yStep ha 24 KR ?_; intro l_ ha HK
        refine stepp ha 24 ((ptr p0)) KR KR ?_; intro ax hax; exact HK _ _ _ hax rfl (Below.refl _ _)
       ·
        intro a wr hn hd HW hs; have ha := q0a hn hd
        have ha := ha.add (seeF hs 24 2 ((ptr p0)) KR KR)
        refine yStep ha 25 KR ?_; intro l_ ha HK
        refine stepl ha 25 (HW.ca (i := 1) (b := p0) (C := (ar0 A734 x733.length c735 A738 x737.length c739 A641 a0.f2.length c642 a0.f3.f2 a0.f4 a0.f5 a0.f6)) (T := 53) (fr := (0, 0)) KR) 22 0 (.tmp 24) (.slice A734 x733.length c735) rfl KR KR KR ?_; intro ax hax; exact HK _ _ _ hax rfl (Below.refl _ _)
       ·
        intro a wr hn hd HW hs; have ha := q0a hn hd
        have ha := ha.add (seeE hs 3 ((ptr b757)) KR KR)
        refine yStep ha 26 KR ?_; intro l_ ha HK
        refine stepp ha 26 ((ptr b757)) KR KR ?_; intro ax hax; exact HK _ _ _ hax rfl (Below.refl _ _)
       ·
        intro a wr hn hd HW hs; have ha := q0a hn hd
        have ha := ha.add (seeF hs 26 4 ((ptr b757)) KR KR)
        refine yStep ha 27 KR ?_; intro l_ ha HK
        refine stepl ha 27 (HW.ca (i := 0) (b := b757) (C := #[.int .i64 ((rdL q01.z a0.f2 x732).f0), .string ((rdL q01.z a0.f2 x732).f1)]) (T := 62) (fr := (0, 0)) KR) 3 0 (.tmp 26) (.int .i64 ((rdL q01.z a0.f2 x732).f0)) rfl KR KR KR ?_; intro ax hax; exact HK _ _ _ hax rfl (Below.refl _ _)
       ·
        intro a wr hn hd HW hs; have ha := q0a hn hd
        have ha := ha.add (seeE hs 0 ((ptr p0)) KR KR)
        refine yStep ha 28 KR ?_; intro l_ ha HK
        refine stepp ha 28 ((ptr p0)) KR KR ?_; intro ax hax; exact HK _ _ _ hax rfl (Below.refl _ _)
       ·
        intro a wr hn hd HW hs; have ha := q0a hn hd
        have ha := ha.add (seeF hs 28 6 ((ptr p0)) KR KR)
        refine yStep ha 29 KR ?_; intro l_ ha HK
        refine stepp ha 29 ((ptr p0)) KR KR ?_; intro ax hax; exact HK _ _ _ hax rfl (Below.refl _ _)
       ·
        intro a wr hn hd HW hs; have ha := q0a hn hd
        have ha := ha.add (seeF hs 29 7 ((ptr p0)) KR KR)
        refine yStep ha 30 KR ?_; intro l_ ha HK
        refine stepp ha 30 (.pointer (some ⟨p0, 1, none⟩)) KR KR ?_; intro ax hax; exact HK _ _ _ hax rfl (Below.refl _ _)
       ·
        intro a wr hn hd HW hs; have ha := q0a hn hd
        have ha := ha.add (seeF hs 30 8 (.pointer (some ⟨p0, 1, none⟩)) KR KR)
        refine yStep ha 31 KR ?_; intro l_ ha HK
        refine stepl ha 31 (HW.ca (i := 1) (b := p0) (C := (ar0 A734 x733.length c735 A738 x737.length c739 A641 a0.f2.length c642 a0.f3.f2 a0.f4 a0.f5 a0.f6)) (T := 53) (fr := (0, 0)) KR) 22 1 (.tmp 30) (.slice A738 x737.length c739) rfl KR KR KR ?_; intro ax hax; exact HK _ _ _ hax rfl (Below.refl _ _)
       ·
        intro a wr hn hd HW hs; have ha := q0a hn hd
        have ha := ha.add (seeE hs 3 ((ptr b757)) KR KR)
        refine yStep ha 32 KR ?_; intro l_ ha HK
        refine stepp ha 32 ((ptr b757)) KR KR ?_; intro ax hax; exact HK _ _ _ hax rfl (Below.refl _ _)
       ·
        intro a wr hn hd HW hs; have ha := q0a hn hd
        have ha := ha.add (seeF hs 32 10 ((ptr b757)) KR KR)
        refine yStep ha 33 KR ?_; intro l_ ha HK
        refine stepl ha 33 (HW.ca (i := 0) (b := b757) (C := #[.int .i64 ((rdL q01.z a0.f2 x732).f0), .string ((rdL q01.z a0.f2 x732).f1)]) (T := 62) (fr := (0, 0)) KR) 3 0 (.tmp 32) (.int .i64 ((rdL q01.z a0.f2 x732).f0)) rfl KR KR KR ?_; intro ax hax; exact HK _ _ _ hax rfl (Below.refl _ _)
       ·
        intro a wr hn hd HW hs; have ha := q0a hn hd
        have ha := ha.add (seeF hs 31 9 (.slice A738 x737.length c739) KR KR)
        have ha := ha.add (seeF hs 33 11 (.int .i64 ((rdL q01.z a0.f2 x732).f0)) KR KR)
        replace ha := ha.turn 31 (u := .slice A738 x737.length c739) (v := .slice (some ⟨b765, off766, none⟩) x737.length c739) KR (by rw [hA767])
        refine yStep ha 34 KR ?_; intro l_ ha HK
        refine stepif ha 34 (sz := 1) (len := x737.length) (b := b765) (off := off766) (c := c739) 22 9 (.tmp 31) (.tmp 33) .i64 ((rdL q01.z a0.f2 x732).f0) rfl KR KR KR KR hA762 (show ((rdL q01.z a0.f2 x732).f0 : Int) < ((x737).length : Int) from hA763) KR ?_; intro ax hax; exact HK _ _ _ hax rfl (Below.refl _ _)
       ·
        intro a wr hn hd HW hs; have ha := q0a hn hd
        have ha := ha.add (seeF hs 34 12 (.pointer (some ⟨b765, off766 + ((rdL q01.z a0.f2 x732).f0 : Int).toNat * 1, none⟩)) KR KR)
        refine yStep ha 35 KR ?_; intro l_ ha HK
        refine stepl ha 35 (Rd.ca encS (⟨#[]⟩ : ByteArray) (fun _ => rfl) (by have h_ := (HW.rdo (i := 1) (q := (rw0 A738 x737 c739)) KR); rw [hA767] at h_; exact h_) hA762 (show ((rdL q01.z a0.f2 x732).f0 : Int) < ((x737).length : Int) from hA763)) 9 0 (.tmp 34) (.string (rdL (⟨#[]⟩ : ByteArray) x737 ((rdL q01.z a0.f2 x732).f0))) rfl KR KR KR ?_; intro ax hax; exact HK _ _ _ hax rfl (Below.refl _ _)
      ·
       intro a W773 ha HW he hf
       replace ha := ha.add (he 0 ((ptr p0)) KR KR)
       replace ha := ha.add (he 3 ((ptr b757)) KR KR)
       replace ha := ha.add (he 7 (.slice A641 a0.f2.length c642) KR KR)
       replace ha := ha.add (he 8 (.int .i64 (a0.f2.length : Int)) KR KR)
       replace ha := ha.add (he 9 (.int .i64 x732) KR KR)
       replace ha := ha.add (gotF (m := 14) (j := 3) (d := 25) (v := .slice A734 x733.length c735) hf KR KR KR)
       replace ha := ha.add (gotF (m := 14) (j := 5) (d := 27) (v := .int .i64 ((rdL q01.z a0.f2 x732).f0)) hf KR KR KR)
       replace ha := ha.add (gotF (m := 14) (j := 13) (d := 35) (v := .string (rdL (⟨#[]⟩ : ByteArray) x737 ((rdL q01.z a0.f2 x732).f0))) hf KR KR KR)
       clear he hf
       obtain ⟨hA774, h_⟩ := q0d h; replace h := h_; clear h_
       refine stepio encS ha HW 36 0 (sz := 1) (e := 9) (v := .slice A734 x733.length c735) (xs := x733) KR 22 (.tmp 25) (.tmp 27) .i64 ((rdL q01.z a0.f2 x732).f0) rfl KR KR KR KR hA762 (show ((rdL q01.z a0.f2 x732).f0 : Int) < ((x733).length : Int) from hA774) KR ?_; clear ha a; intro b775 a hb776 ha
       refine stepos encS (⟨#[]⟩ : ByteArray) ha HW 0 (sz := 1) (e := 9) (fun _ => rfl) (v := .slice A734 x733.length c735) (xs := x733) KR hb776 ((rdL q01.z a0.f2 x732).f0) hA762 (show ((rdL q01.z a0.f2 x732).f0 : Int) < ((x733).length : Int) from hA774) 9 0 (.tmp 36) (.tmp 35) (.string (rdL (⟨#[]⟩ : ByteArray) x737 ((rdL q01.z a0.f2 x732).f0))) (rdL (⟨#[]⟩ : ByteArray) x737 ((rdL q01.z a0.f2 x732).f0)) rfl KR KR KR KR KR KR KR (.slice A734 (x733.set ((rdL q01.z a0.f2 x732).f0 : Int).toNat (rdL (⟨#[]⟩ : ByteArray) x737 ((rdL q01.z a0.f2 x732).f0))).length c735) (by rw [List.length_set]) ?_; clear ha HW a; intro a W777 HW ha
       replace ha := ha.turn 25 (v := .slice A734 (x733.set ((rdL q01.z a0.f2 x732).f0 : Int).toNat (rdL (⟨#[]⟩ : ByteArray) x737 ((rdL q01.z a0.f2 x732).f0))).length c735) KR (by rw [List.length_set])
       replace HW : Wd w W777 ((b757, .cells #[.int .i64 ((rdL q01.z a0.f2 x732).f0), .string ((rdL q01.z a0.f2 x732).f1)] 62 (0, 0)) :: (p0, .cells (ar0 A734 ((x733.set ((rdL q01.z a0.f2 x732).f0 : Int).toNat (rdL (⟨#[]⟩ : ByteArray) x737 ((rdL q01.z a0.f2 x732).f0))).length) c735 A738 x737.length c739 A641 a0.f2.length c642 a0.f3.f2 a0.f4 a0.f5 a0.f6) 53 (0, 0)) :: F ++ bs) (⟨9, 1, .slice A734 (x733.set ((rdL q01.z a0.f2 x732).f0 : Int).toNat (rdL (⟨#[]⟩ : ByteArray) x737 ((rdL q01.z a0.f2 x732).f0))).length c735, (x733.set ((rdL q01.z a0.f2 x732).f0 : Int).toNat (rdL (⟨#[]⟩ : ByteArray) x737 ((rdL q01.z a0.f2 x732).f0))).length, encs encS (x733.set ((rdL q01.z a0.f2 x732).f0 : Int).toNat (rdL (⟨#[]⟩ : ByteArray) x737 ((rdL q01.z a0.f2 x732).f0)))⟩ :: (rw0 A738 x737 c739) :: (rw1 A641 a0.f2 c642) :: os) := by simp only [List.length_set] at HW ⊢; exact HW
       refine endl (thenN (hK771 _ _ ?_)); clear hK771
       refine q2z 6 KR KR ha HW [.fix ((ptr p0)), .fix ((ptr p0)), .fix (.pointer (some ⟨p0, 1, none⟩)), .fix (.slice A738 x737.length c739), .fix ((ptr b757)), .fix (.int .i64 ((rdL q01.z a0.f2 x732).f0))] ?_ ?_
       ·
        refine ⟨?_, ?_, ?_, ?_, ?_, ?_, trivial⟩
        ·
         intro a wr hn hd HW hs; have ha := q0a hn hd
         have ha := ha.add (seeE hs 0 ((ptr p0)) KR KR)
         refine yStep ha 37 KR ?_; intro l_ ha HK
         refine stepp ha 37 ((ptr p0)) KR KR ?_; intro ax hax; exact HK _ _ _ hax rfl (Below.refl _ _)
        ·
         intro a wr hn hd HW hs; have ha := q0a hn hd
         have ha := ha.add (seeF hs 37 0 ((ptr p0)) KR KR)
         refine yStep ha 38 KR ?_; intro l_ ha HK
         refine stepp ha 38 ((ptr p0)) KR KR ?_; intro ax hax; exact HK _ _ _ hax rfl (Below.refl _ _)
        ·
         intro a wr hn hd HW hs; have ha := q0a hn hd
         have ha := ha.add (seeF hs 38 1 ((ptr p0)) KR KR)
         refine yStep ha 39 KR ?_; intro l_ ha HK
         refine stepp ha 39 (.pointer (some ⟨p0, 1, none⟩)) KR KR ?_; intro ax hax; exact HK _ _ _ hax rfl (Below.refl _ _)
        ·
         intro a wr hn hd HW hs; have ha := q0a hn hd
         have ha := ha.add (seeF hs 39 2 (.pointer (some ⟨p0, 1, none⟩)) KR KR)
         refine yStep ha 40 KR ?_; intro l_ ha HK
         refine stepl ha 40 (HW.ca (i := 1) (b := p0) (C := (ar0 A734 ((x733.set ((rdL q01.z a0.f2 x732).f0 : Int).toNat (rdL (⟨#[]⟩ : ByteArray) x737 ((rdL q01.z a0.f2 x732).f0))).length) c735 A738 x737.length c739 A641 a0.f2.length c642 a0.f3.f2 a0.f4 a0.f5 a0.f6)) (T := 53) (fr := (0, 0)) KR) 22 1 (.tmp 39) (.slice A738 x737.length c739) rfl KR KR KR ?_; intro ax hax; exact HK _ _ _ hax rfl (Below.refl _ _)
        ·
         intro a wr hn hd HW hs; have ha := q0a hn hd
         have ha := ha.add (seeE hs 3 ((ptr b757)) KR KR)
         refine yStep ha 41 KR ?_; intro l_ ha HK
         refine stepp ha 41 ((ptr b757)) KR KR ?_; intro ax hax; exact HK _ _ _ hax rfl (Below.refl _ _)
        ·
         intro a wr hn hd HW hs; have ha := q0a hn hd
         have ha := ha.add (seeF hs 41 4 ((ptr b757)) KR KR)
         refine yStep ha 42 KR ?_; intro l_ ha HK
         refine stepl ha 42 (HW.ca (i := 0) (b := b757) (C := #[.int .i64 ((rdL q01.z a0.f2 x732).f0), .string ((rdL q01.z a0.f2 x732).f1)]) (T := 62) (fr := (0, 0)) KR) 3 0 (.tmp 41) (.int .i64 ((rdL q01.z a0.f2 x732).f0)) rfl KR KR KR ?_; intro ax hax; exact HK _ _ _ hax rfl (Below.refl _ _)
       ·
        intro a W778 ha HW he hf
        replace ha := ha.add (he 0 ((ptr p0)) KR KR)
        replace ha := ha.add (he 7 (.slice A641 a0.f2.length c642) KR KR)
        replace ha := ha.add (he 8 (.int .i64 (a0.f2.length : Int)) KR KR)
        replace ha := ha.add (he 9 (.int .i64 x732) KR KR)
        replace ha := ha.add (gotF (m := 6) (j := 3) (d := 40) (v := .slice A738 x737.length c739) hf KR KR KR)
        replace ha := ha.add (gotF (m := 6) (j := 5) (d := 42) (v := .int .i64 ((rdL q01.z a0.f2 x732).f0)) hf KR KR KR)
        clear he hf
        refine stepio encS ha HW 43 1 (sz := 1) (e := 9) (v := .slice A738 x737.length c739) (xs := x737) KR 22 (.tmp 40) (.tmp 42) .i64 ((rdL q01.z a0.f2 x732).f0) rfl KR KR KR KR hA762 (show ((rdL q01.z a0.f2 x732).f0 : Int) < ((x737).length : Int) from hA763) KR ?_; clear ha a; intro b779 a hb780 ha
        refine stepos encS (⟨#[]⟩ : ByteArray) ha HW 1 (sz := 1) (e := 9) (fun _ => rfl) (v := .slice A738 x737.length c739) (xs := x737) KR hb780 ((rdL q01.z a0.f2 x732).f0) hA762 (show ((rdL q01.z a0.f2 x732).f0 : Int) < ((x737).length : Int) from hA763) 9 0 (.tmp 43) (.const (.string (⟨#[]⟩ : ByteArray))) (.string (⟨#[]⟩ : ByteArray)) (⟨#[]⟩ : ByteArray) rfl KR KR KR KR KR KR KR (.slice A738 (x737.set ((rdL q01.z a0.f2 x732).f0 : Int).toNat (⟨#[]⟩ : ByteArray)).length c739) (by rw [List.length_set]) ?_; clear ha HW a; intro a W781 HW ha
        replace ha := ha.turn 40 (v := .slice A738 (x737.set ((rdL q01.z a0.f2 x732).f0 : Int).toNat (⟨#[]⟩ : ByteArray)).length c739) KR (by rw [List.length_set])
        replace HW : Wd w W781 ((b757, .cells #[.int .i64 ((rdL q01.z a0.f2 x732).f0), .string ((rdL q01.z a0.f2 x732).f1)] 62 (0, 0)) :: (p0, .cells (ar0 A734 ((x733.set ((rdL q01.z a0.f2 x732).f0 : Int).toNat (rdL (⟨#[]⟩ : ByteArray) x737 ((rdL q01.z a0.f2 x732).f0))).length) c735 A738 ((x737.set ((rdL q01.z a0.f2 x732).f0 : Int).toNat (⟨#[]⟩ : ByteArray)).length) c739 A641 a0.f2.length c642 a0.f3.f2 a0.f4 a0.f5 a0.f6) 53 (0, 0)) :: F ++ bs) (⟨9, 1, .slice A734 (x733.set ((rdL q01.z a0.f2 x732).f0 : Int).toNat (rdL (⟨#[]⟩ : ByteArray) x737 ((rdL q01.z a0.f2 x732).f0))).length c735, (x733.set ((rdL q01.z a0.f2 x732).f0 : Int).toNat (rdL (⟨#[]⟩ : ByteArray) x737 ((rdL q01.z a0.f2 x732).f0))).length, encs encS (x733.set ((rdL q01.z a0.f2 x732).f0 : Int).toNat (rdL (⟨#[]⟩ : ByteArray) x737 ((rdL q01.z a0.f2 x732).f0)))⟩ :: ⟨9, 1, .slice A738 (x737.set ((rdL q01.z a0.f2 x732).f0 : Int).toNat (⟨#[]⟩ : ByteArray)).length c739, (x737.set ((rdL q01.z a0.f2 x732).f0 : Int).toNat (⟨#[]⟩ : ByteArray)).length, encs encS (x737.set ((rdL q01.z a0.f2 x732).f0 : Int).toNat (⟨#[]⟩ : ByteArray))⟩ :: (rw1 A641 a0.f2 c642) :: os) := by simp only [List.length_set] at HW ⊢; exact HW
        refine endl ?_
        refine blkN ?_
        refine thenN (hK750 _ _ (wp_region_lit ?_)); clear hK750
        refine sp2 ha 44 (.int .i64 (IntKind.wrap .i64 (x732 + 1))) 9 (.int .i64 (IntKind.wrap .i64 (x732 + 1))) ?_; clear ha a; intro a ha
        refine endl ?_
        exact thenN ⟨k742, Nat.lt_succ_self k742, IntKind.wrap .i64 (x732 + 1), x733.set ((rdL q01.z a0.f2 x732).f0 : Int).toNat (rdL (⟨#[]⟩ : ByteArray) x737 ((rdL q01.z a0.f2 x732).f0)), A734, c735, x737.set ((rdL q01.z a0.f2 x732).f0 : Int).toNat (⟨#[]⟩ : ByteArray), A738, c739, (by rw [← hag743]; exact h), ha.sub (q05 KR (q05 KR (q05 KR (q05 KR (q0t _))))), (Wd.sg [[(b757, .cells #[.int .i64 ((rdL q01.z a0.f2 x732).f0), .string ((rdL q01.z a0.f2 x732).f1)] 62 (0, 0))], [(p0, .cells (ar0 A734 ((x733.set ((rdL q01.z a0.f2 x732).f0 : Int).toNat (rdL (⟨#[]⟩ : ByteArray) x737 ((rdL q01.z a0.f2 x732).f0))).length) c735 A738 ((x737.set ((rdL q01.z a0.f2 x732).f0 : Int).toNat (⟨#[]⟩ : ByteArray)).length) c739 A641 a0.f2.length c642 a0.f3.f2 a0.f4 a0.f5 a0.f6) 53 (0, 0))], F] bs [⟨9, 1, .slice A734 (x733.set ((rdL q01.z a0.f2 x732).f0 : Int).toNat (rdL (⟨#[]⟩ : ByteArray) x737 ((rdL q01.z a0.f2 x732).f0))).length c735, (x733.set ((rdL q01.z a0.f2 x732).f0 : Int).toNat (rdL (⟨#[]⟩ : ByteArray) x737 ((rdL q01.z a0.f2 x732).f0))).length, encs encS (x733.set ((rdL q01.z a0.f2 x732).f0 : Int).toNat (rdL (⟨#[]⟩ : ByteArray) x737 ((rdL q01.z a0.f2 x732).f0)))⟩, ⟨9, 1, .slice A738 (x737.set ((rdL q01.z a0.f2 x732).f0 : Int).toNat (⟨#[]⟩ : ByteArray)).length c739, (x737.set ((rdL q01.z a0.f2 x732).f0 : Int).toNat (⟨#[]⟩ : ByteArray)).length, encs encS (x737.set ((rdL q01.z a0.f2 x732).f0 : Int).toNat (⟨#[]⟩ : ByteArray))⟩, (rw1 A641 a0.f2 c642)] os [[(p0, .cells (ar0 A734 ((x733.set ((rdL q01.z a0.f2 x732).f0 : Int).toNat (rdL (⟨#[]⟩ : ByteArray) x737 ((rdL q01.z a0.f2 x732).f0))).length) c735 A738 ((x737.set ((rdL q01.z a0.f2 x732).f0 : Int).toNat (⟨#[]⟩ : ByteArray)).length) c739 A641 a0.f2.length c642 a0.f3.f2 a0.f4 a0.f5 a0.f6) 53 (0, 0))], F] [⟨9, 1, .slice A734 (x733.set ((rdL q01.z a0.f2 x732).f0 : Int).toNat (rdL (⟨#[]⟩ : ByteArray) x737 ((rdL q01.z a0.f2 x732).f0))).length c735, (x733.set ((rdL q01.z a0.f2 x732).f0 : Int).toNat (rdL (⟨#[]⟩ : ByteArray) x737 ((rdL q01.z a0.f2 x732).f0))).length, encs encS (x733.set ((rdL q01.z a0.f2 x732).f0 : Int).toNat (rdL (⟨#[]⟩ : ByteArray) x737 ((rdL q01.z a0.f2 x732).f0)))⟩, ⟨9, 1, .slice A738 (x737.set ((rdL q01.z a0.f2 x732).f0 : Int).toNat (⟨#[]⟩ : ByteArray)).length c739, (x737.set ((rdL q01.z a0.f2 x732).f0 : Int).toNat (⟨#[]⟩ : ByteArray)).length, encs encS (x737.set ((rdL q01.z a0.f2 x732).f0 : Int).toNat (⟨#[]⟩ : ByteArray))⟩, (rw1 A641 a0.f2 c642)] HW [1, 2] [0] [0, 1, 2] KR KR (by decide) KR)⟩
   ·
    replace h := q0c h hp748
    refine condF ha KR KR (t := decide (x732 < (a0.f2.length : Int))) (decide_eq_false hp748) ?_
    refine wp_exit ?_
    refine thenE ?_
    refine thenE ?_
    refine inBlk ?_
    refine thenN (hK632 _ _ (wp_region_lit ?_)); clear hK632
    refine sp3 ha 45 ((ptr p0)) 46 ((ptr p0)) 47 (.pointer (some ⟨p0, 2, none⟩)) ?_; clear ha a; intro a ha
    refine q26 ha HW 0 (b := p0) (C := (ar0 A734 x733.length c735 A738 x737.length c739 A641 a0.f2.length c642 a0.f3.f2 a0.f4 a0.f5 a0.f6)) (T := 53) KR 46 2 (.tmp 47) (.const (.slice none 0 0)) (.slice none 0 0) #[.slice A734 x733.length c735, .slice A738 x737.length c739, .slice none 0 0, .int .i64 a0.f3.f2, .bool a0.f4, .int .i64 a0.f5, .bool a0.f6] rfl KR KR KR KR KR KR KR ?_; clear ha HW a; intro a W782 HW ha
    refine endl ?_
    replace HW := HW.nilo 62 2
    replace HW : Wd w W782 ((p0, .cells #[.slice A734 x733.length c735, .slice A738 x737.length c739, .slice none 0 0, .int .i64 a0.f3.f2, .bool a0.f4, .int .i64 a0.f5, .bool a0.f6] 53 (0, 0)) :: F ++ bs) (⟨62, 2, .slice none 0 0, ([] : List q01).length, encs q01.enc ([] : List q01)⟩ :: (rw0 A734 x733 c735) :: (rw0 A738 x737 c739) :: (rw1 A641 a0.f2 c642) :: os) := HW
    obtain ⟨U783, hU784, HW⟩ := q04.fold (x := (⟨x733, x737, ([] : List q01), (⟨(), (), a0.f3.f2⟩ : q03), a0.f4, a0.f5, a0.f6⟩ : q04)) (Wd.sg [[(p0, .cells #[.slice A734 x733.length c735, .slice A738 x737.length c739, .slice none 0 0, .int .i64 a0.f3.f2, .bool a0.f4, .int .i64 a0.f5, .bool a0.f6] 53 (0, 0))], F] bs [⟨62, 2, .slice none 0 0, ([] : List q01).length, encs q01.enc ([] : List q01)⟩, (rw0 A734 x733 c735), (rw0 A738 x737 c739), (rw1 A641 a0.f2 c642)] os [[(p0, .cells #[.slice A734 x733.length c735, .slice A738 x737.length c739, .slice none 0 0, .int .i64 a0.f3.f2, .bool a0.f4, .int .i64 a0.f5, .bool a0.f6] 53 (0, 0))], F] [(rw0 A734 x733 c735), (rw0 A738 x737 c739), ⟨62, 2, .slice none 0 0, ([] : List q01).length, encs q01.enc ([] : List q01)⟩, (rw1 A641 a0.f2 c642)] HW [0, 1] [] [1, 2, 0, 3] KR KR (by decide) KR)
    replace HW := HW
    replace HW : Wd w W782 (U783 ++ (F ++ bs)) ((rw1 A641 a0.f2 c642) :: os) := HW
    obtain rfl := Option.some.inj h
    exact finn ha [] [] rfl .nil (.tuple #[]) rfl ⟨U783, rfl, hU784, (Wd.sg [U783, F] bs [(rw1 A641 a0.f2 c642)] os [U783, F] [] HW [0, 1] [] [] KR KR (by decide) KR)⟩
def q1z.f (K : Nat) (a0 : q04) : Option (Int × q04) :=
 (q0z.f K a0).bind fun t806 => (if t806.1 = true then ((q0r.f K t806.2).bind fun t818 => (some (0, t818))) else (some (41, t806.2)))
set_option maxRecDepth 100000 in
set_option maxHeartbeats 4000000 in
theorem q1z.calls (K : Nat) (a0 : q04) (p0 : Nat) (U0 : Blks)  (r : Int × q04) (w w1 : World) (F bs : Blks) (os : List OwnA) (hU0 : q04.At p0  a0 U0) (HW : Wd w w1 (U0 ++ (F ++ bs)) os) (h : q1z.f K a0 = some r) :
  Calls Tryd.prog 44 #[.pointer (some ⟨p0, 0, none⟩)] w1 (fun e W' => ∃ U0' : Blks, e = .returned (.int .i64 r.1) ∧ q04.At p0  r.2 U0' ∧ Wd w W' (U0' ++ (F ++ bs)) (os)) := by
 refine q17 (n := 10) (l := [(0, (ptr p0))]) Tryd.func44 rfl rfl (Nat.le_of_ble_eq_true KR) (q07 rfl (q0q _)) ?_
 intro a ha
 replace HW : Wd w w1 (U0 ++ (F ++ bs)) (os) := HW
 unfold q1z.f at h
 refine wp_seq_k (fun K796 hK797 => ?_)
 refine wp_region_lit ?_
 refine sp1 ha 2 (.int .i64 0) ?_; clear ha a; intro a ha
 refine endl (thenN (hK797 _ _ (wp_seq_k fun K798 hK799 => wp_seq_k fun K800 hK801 => wp_region_lit ?_))); clear hK797
 refine sp2 ha 3 ((ptr p0)) 4 (.bool false) ?_; clear ha a; intro a ha
 refine endl (thenN (hK801 _ _ ?_)); clear hK801
 refine condF ha KR KR (t := false) (rfl) ?_
 refine wp_skip ?_
 refine thenN (hK799 _ _ (wp_seq_k fun K802 hK803 => wp_seq_k fun K804 hK805 => wp_region_lit ?_)); clear hK799
 refine sp1 ha 5 ((ptr p0)) ?_; clear ha a; intro a ha
 obtain ⟨t806, ht807, h_⟩ := q08 h; replace h := h_; clear h_
 refine stepc ha 6 KR KR (q0z.calls K a0 p0 U0 t806 _ _ F bs (os) hU0 (HW) ht807) ?_; clear ha a; rintro e W809 ⟨U808, rfl, hU0n, HX810⟩
 refine ⟨_, rfl, ?_⟩; intro a ha; clear HW
 clear hU0; have hU0 := hU0n; clear hU0n
 have HW : Wd w W809 (U808 ++ (F ++ bs)) (os) := HX810; clear HX810
 refine sp1 ha 7 (.bool (!t806.1)) ?_; clear ha a; intro a ha
 refine endl (thenN (hK805 _ _ ?_)); clear hK805
 by_cases hp813 : t806.1 = true
 ·
  replace h := q0b h hp813
  refine condF ha KR KR (t := (!t806.1)) (not_f (hp813)) ?_
  refine wp_skip ?_
  refine thenN (hK803 _ _ (wp_seq_k fun K816 hK817 => wp_region_lit ?_)); clear hK803
  refine sp1 ha 8 ((ptr p0)) ?_; clear ha a; intro a ha
  obtain ⟨t818, ht819, h_⟩ := q08 h; replace h := h_; clear h_
  refine stepc ha 9 KR KR (q0r.calls K t806.2 p0 U808 t818 _ _ F bs (os) hU0 (HW) ht819) ?_; clear ha a; rintro e W821 ⟨U820, rfl, hU0n, HX822⟩
  refine ⟨_, rfl, ?_⟩; intro a ha; clear HW
  clear hU0; have hU0 := hU0n; clear hU0n
  have HW : Wd w W821 (U820 ++ (F ++ bs)) (os) := HX822; clear HX822
  refine endl (thenN (hK817 _ _ (wp_seq_k fun K825 hK826 => wp_region_lit ?_))); clear hK817
  refine sp1 ha 2 (.int .i64 0) ?_; clear ha a; intro a ha
  refine endl (thenN (hK826 _ _ ?_)); clear hK826
  refine wp_ret ?_
  obtain rfl := Option.some.inj h
  exact finv ha _ _ rfl (.tmp (v := .int .i64 0) KR .nil) (.int .i64 0) rfl ⟨U820, rfl, hU0, (HW)⟩
 ·
  replace h := q0c h hp813
  refine condT ha KR KR (t := (!t806.1)) (not_t (q2w hp813)) ?_
  refine wp_seq_k (fun K814 hK815 => ?_)
  refine wp_region_lit ?_
  refine sp1 ha 2 (.int .i64 41) ?_; clear ha a; intro a ha
  refine endl (thenN (hK815 _ _ ?_)); clear hK815
  refine wp_ret ?_
  refine thenR ?_
  obtain rfl := Option.some.inj h
  exact finv ha _ _ rfl (.tmp (v := .int .i64 41) KR .nil) (.int .i64 41) rfl ⟨U808, rfl, hU0, (HW)⟩
end Go.Proofs.YtokdiacjcbolfaaDoor.F
