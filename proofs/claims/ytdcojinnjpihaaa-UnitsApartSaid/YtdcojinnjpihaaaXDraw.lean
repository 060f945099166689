/- A region whose order is drawn: what each operation leaves is told once, whatever order comes up. No condition. -/
import Derived.Test.YtdcojinnjpihaaaXMore
import Derived.Orders
namespace Go.Proofs.Ytdcojinnjpihaaa.X
open Go Go.RowKit

def waits (o : Oper) (m : Nat) : Bool := o.after.any fun e => Region.binds .any e && Nat.beq e.on m

def chkB (ops : Array Oper) : Bool := (List.range ops.size).all fun i => match ops[i]? with
  | none => true
  | some o => o.after.all (fun e => !Region.binds .any e || Nat.blt e.on i) && (List.range ops.size).all fun m => match ops[m]? with
    | none => true
    | some om => match om.dst with
      | none => true
      | some s => (Nat.beq i m || (match o.dst with | some d => !Nat.beq d s | none => true)) && (!((o.looksAt ops).any (Nat.beq s)) || waits o m || waits om i)

theorem chkB_spec {ops : Array Oper} (h : chkB ops = true) {i : Nat} {o : Oper} (hi : ops[i]? = some o) :
    (∀ e ∈ o.after, Region.binds .any e = true → e.on < i) ∧
    (∀ m om s, ops[m]? = some om → om.dst = some s → (i ≠ m → o.dst ≠ some s) ∧ (s ∈ o.looksAt ops → waits o m = true ∨ waits om i = true)) := by
  have hlt : i < ops.size := (Array.getElem?_eq_some_iff.1 hi).1
  have h1 := List.all_eq_true.mp h i (List.mem_range.mpr hlt)
  simp only [hi, Bool.and_eq_true] at h1
  obtain ⟨h1, h2⟩ := h1
  refine ⟨fun e he hb => ?_, fun m om s hm hs => ?_⟩
  · rw [Array.all_eq_true_iff_forall_mem] at h1
    have := h1 e he
    simp only [hb, Bool.not_true, Bool.false_or] at this
    exact Nat.le_of_ble_eq_true this
  · have hml : m < ops.size := (Array.getElem?_eq_some_iff.1 hm).1
    have h3 := List.all_eq_true.mp h2 m (List.mem_range.mpr hml)
    simp only [hm, hs, Bool.and_eq_true, Bool.or_eq_true] at h3
    obtain ⟨h3, h4⟩ := h3
    refine ⟨fun hne hd => ?_, fun hl => ?_⟩
    · rcases h3 with h3 | h3
      · exact hne (Nat.eq_of_beq_eq_true h3)
      · simp [hd] at h3
    · rcases h4 with (h4 | h4) | h4
      · exfalso
        have : (o.looksAt ops).any (Nat.beq s) = true := List.any_eq_true.mpr ⟨s, hl, by simp⟩
        simp [this] at h4
      · exact .inl h4
      · exact .inr h4

/-- Where a slot that operation i looks at gets its value: from which operation of the region. -/
def srcOf (ops : Array Oper) (o : Oper) (s : Nat) : Option Nat :=
  (List.range ops.size).find? fun m => waits o m && (match (ops[m]?).bind (·.dst) with | some d => Nat.beq d s | none => false)

section
variable (P : Program) (n : Nat) (l : List (Nat × Value)) (F : Nat → Value → World → Prop) (ops : Array Oper) (w0 : World) (bs : List (Nat × Obj)) (os : List OwnA)

def Seen (o : Oper) (a : Act) (w : World) (s : Nat) : Prop :=
  match srcOf ops o s with
  | some m => ∃ v, a.tmps[s]? = some v ∧ F m v w
  | none => ∀ v, look l s = some v → a.tmps[s]? = some v

def OpOk (i : Nat) (o : Oper) : Prop := ∀ (a : Act) (w : World), a.tmps.size = n → a.defers = [] → Wd w0 w bs os → (∀ s, s ∈ o.looksAt ops → Seen l F ops o a w s) →
  (Region.wanted o (yielded ops a.tmps) = true ∧ o.wp P a w (fun a' w' => ∃ v, a' = a.put o.dst v ∧ F i v w' ∧ Below w.heap.size w w') (fun _ _ _ => False)) ∨
  (Region.wanted o (yielded ops a.tmps) = false ∧ F i undef w)

def Inv (listed : Array Bool) (a : Act) (w : World) : Prop :=
  a.tmps.size = n ∧ a.defers = [] ∧ Wd w0 w bs os ∧
  (∀ s v, look l s = some v → (∀ (j : Nat) (o : Oper), ops[j]? = some o → o.dst = some s → listed.getD j true = false) → a.tmps[s]? = some v) ∧
  (∀ (j : Nat) (o : Oper) (d : Nat), ops[j]? = some o → o.dst = some d → listed.getD j true = true → ∃ v, a.tmps[d]? = some v ∧ F j v w) ∧
  (∀ (j : Nat) (o : Oper), ops[j]? = some o → listed.getD j true = true → ∀ m, m < ops.size → waits o m = true → listed.getD m true = true)
end

theorem wp_false_mono {P : Program} {o : Oper} {a : Act} {w : World} {K K' : Act → World → Prop} {Q Q' : Exit → Act → World → Prop} (h : ∀ a w, K a w → K' a w) (hQ : ∀ e a w, ¬ Q e a w) (hh : o.wp P a w K Q) : o.wp P a w K' Q' := by
  unfold Oper.wp at *
  generalize (execOp a.eval o).run P w = r at *
  cases r with
  | ok n w' =>
    cases n <;> simp only [Oper.upon] at hh ⊢ <;>
      first
        | exact h _ _ hh
        | exact Calls.mono hh (fun e w'' he => by cases e <;> first | exact h _ _ he | exact (hQ _ _ _ he).elim | (obtain ⟨a1, w1, q⟩ := he; exact (hQ _ _ _ q).elim))
        | exact Rows.mono hh (fun _ _ he => h _ _ he)
  | halt x w' => cases x <;> simp only [Oper.upon] at hh ⊢ <;> first | exact hh | exact (hQ _ _ _ hh).elim

theorem wp_false_mono' {P : Program} {o : Oper} {a : Act} {w : World} {K K' : Act → World → Prop} {Q Q' : Exit → Act → World → Prop} (h : ∀ a w, K a w → K' a w) (hQ : ∀ e a w, e ≠ .normal → ¬ Q e a w) (hh : o.wp P a w K Q) : o.wp P a w K' Q' := by
  unfold Oper.wp at *
  generalize (execOp a.eval o).run P w = r at *
  cases r with
  | ok n w' =>
    cases n <;> simp only [Oper.upon] at hh ⊢ <;>
      first
        | exact h _ _ hh
        | exact Calls.mono hh (fun e w'' he => by cases e <;> first | exact h _ _ he | exact (hQ _ _ _ (by simp) he).elim | (obtain ⟨a1, w1, q⟩ := he; exact (hQ _ _ _ (by simp) q).elim))
        | exact Rows.mono hh (fun _ _ he => h _ _ he)
  | halt x w' => cases x <;> simp only [Oper.upon] at hh ⊢ <;> first | exact hh | exact (hQ _ _ _ (by simp) hh).elim

theorem getD_set {A : Array Bool} {i j : Nat} (hi : i < A.size) : (A.setIfInBounds i true).getD j true = if i = j then true else A.getD j true := by
  simp only [Array.getD_eq_getD_getElem?, Array.getElem?_setIfInBounds]
  split
  · rename_i h; subst h; simp
  · rfl

section
variable {P : Program} {n : Nat} {l : List (Nat × Value)} {F : Nat → Value → World → Prop} {ops : Array Oper} {w0 W : World} {bs : List (Nat × Obj)} {os : List OwnA} {a : Act} {Q : Exit → Act → World → Prop}

def chkS (m : Nat) (ops : Array Oper) : Bool := (List.range ops.size).all fun j => Nat.blt j m || (match ops[j]? with
  | none => true
  | some o => (List.range j).all fun i => waits o i)

theorem chkS_spec {m : Nat} {ops : Array Oper} (h : chkS m ops = true) {j : Nat} {o : Oper} (hj : ops[j]? = some o) (hm : m ≤ j) : ∀ i, i < j → waits o i = true := by
  have hlt : j < ops.size := (Array.getElem?_eq_some_iff.1 hj).1
  have h1 := List.all_eq_true.mp h j (List.mem_range.mpr hlt)
  simp only [hj, Bool.or_eq_true] at h1
  rcases h1 with h1 | h1
  · have := Nat.le_of_ble_eq_true h1; omega
  · intro i hi
    exact List.all_eq_true.mp h1 i (List.mem_range.mpr hi)

theorem listed_of_waits {listed : Array Bool} {o : Oper} (hdeps : (o.after.all fun e => !Region.binds .any e || listed.getD e.on false) = true) (m : Nat) (hm' : waits o m = true) : listed.getD m true = true := by
  unfold waits at hm'
  obtain ⟨e, he, hb⟩ := Array.any_eq_true'.mp hm'
  simp only [Bool.and_eq_true] at hb
  rw [Array.all_eq_true_iff_forall_mem] at hdeps
  have h2 := hdeps e he
  simp only [hb.1, Bool.not_true, Bool.false_or] at h2
  have h3 : e.on = m := Nat.eq_of_beq_eq_true hb.2
  rw [h3] at h2
  simp only [Array.getD_eq_getD_getElem?] at h2 ⊢
  cases hg : listed[m]? with
  | none => rfl
  | some b => rw [hg] at h2; exact h2

theorem ready_of {listed : Array Bool} {j : Nat} {o : Oper} (hs : listed.size = ops.size) (ho : ops[j]? = some o) (hchk : chkB ops = true) (hb : listed.getD j true = false) (hlow : ∀ k, k < j → listed.getD k true = true) : j ∈ Region.ready .any ops listed := by
  have hj : j < ops.size := (Array.getElem?_eq_some_iff.1 ho).1
  unfold Region.ready
  refine List.mem_filter.mpr ⟨List.mem_range.mpr hj, ?_⟩
  simp only [hb, ho, Bool.not_false, Bool.true_and, Option.map_some, Option.getD_some]
  rw [Array.all_eq_true_iff_forall_mem]
  intro e he
  cases hbe : Region.binds .any e with
  | false => rfl
  | true =>
    have hlt := (chkB_spec hchk ho).1 e he hbe
    have h2 := hlow e.on hlt
    have h3 : e.on < listed.size := by omega
    simp only [Array.getD_eq_getD_getElem?, Array.getElem?_eq_some_iff.2 ⟨h3, rfl⟩, Option.getD_some] at h2 ⊢
    simp [h2]

/-- The operations that wait for all that stand ahead of them: in the order of the text. -/
theorem tailF (hchk : chkB ops = true) {m : Nat} (hS : chkS m ops = true) : ∀ (r : Nat) (j : Nat) (listed : Array Bool) (a : Act) (w : World), m ≤ j → j + r = ops.size → listed.size = ops.size → (∀ i, i < j → listed.getD i true = true) → (∀ i, j ≤ i → i < ops.size → listed.getD i true = false) →
    wpList P ops Q (ops.toList.drop j) a w → wpAny P .any ops Q r listed a w := by
  intro r
  induction r with
  | zero =>
    intro j listed a w _ hr hs h1 h2 h
    have hj : j = ops.size := by omega
    subst hj
    rw [List.drop_of_length_le (by simp)] at h
    refine ⟨?_, h⟩
    unfold Region.ready
    refine List.filter_eq_nil_iff.mpr (fun k hk => ?_)
    rw [h1 k (List.mem_range.mp hk)]
    simp
  | succ r ih =>
    intro j listed a w hmj hr hs h1 h2 h
    have hj : j < ops.size := by omega
    obtain ⟨o, ho⟩ : ∃ o, ops[j]? = some o := ⟨ops[j], Array.getElem?_eq_some_iff.2 ⟨hj, rfl⟩⟩
    have hrd := ready_of hs ho hchk (h2 j (Nat.le_refl _) hj) h1
    refine ⟨fun hr' => absurd (hr' ▸ hrd) (by simp), fun i hi => ?_⟩
    have hi' := hi
    unfold Region.ready at hi'
    obtain ⟨hir, hic⟩ := List.mem_filter.mp hi'
    have hilt := List.mem_range.mp hir
    obtain ⟨oi, hoi⟩ : ∃ o, ops[i]? = some o := ⟨ops[i], Array.getElem?_eq_some_iff.2 ⟨hilt, rfl⟩⟩
    simp only [hoi, Option.map_some, Option.getD_some, Bool.and_eq_true] at hic
    obtain ⟨hib, hdeps⟩ := hic
    have hib' : listed.getD i true = false := by simpa using hib
    have hij : i = j := by
      rcases Nat.lt_trichotomy i j with hlt | heq | hgt
      · rw [h1 i hlt] at hib'; cases hib'
      · exact heq
      · have hw := chkS_spec hS hoi (by omega) j hgt
        have := listed_of_waits hdeps j hw
        rw [h2 j (Nat.le_refl _) hj] at this
        cases this
    subst hij
    have hdrop : ops.toList.drop i = oi :: ops.toList.drop (i + 1) := by
      rw [List.drop_eq_getElem_cons (by simpa using hilt)]
      congr 1
      have := (Array.getElem?_eq_some_iff.1 hoi).2
      simpa using this
    rw [hdrop] at h
    have hli : i < listed.size := by omega
    have hnext : ∀ a' w', wpList P ops Q (ops.toList.drop (i + 1)) a' w' → wpAny P .any ops Q r (listed.setIfInBounds i true) a' w' := fun a' w' hh =>
      ih (i + 1) _ a' w' (by omega) (by omega) (by simpa using hs) (fun k hk => by
        rw [getD_set hli]
        split
        · rfl
        · exact h1 k (by omega)) (fun k hk hk2 => by
        rw [getD_set hli, if_neg (by omega)]
        exact h2 k (by omega) hk2) hh
    unfold wpOp
    unfold wpList at h
    simp only [hoi]
    split
    · rename_i hw
      rw [if_pos hw] at h
      rcases h with h | h
      · exact .inl (Oper.wp_mono hnext h)
      · exact .inr h
    · rename_i hw
      rw [if_neg hw] at h
      exact hnext _ _ h

theorem regionF {id : Nat} (m : Nat) (hmz : m ≤ ops.size) (hS : chkS m ops = true) (hm : P.follows .mixedOrders = true) (hchk : chkB ops = true) (ha : Has n l a) (HW : Wd w0 W bs os)
    (hop : ∀ (i : Nat) (o : Oper), i < m → ops[i]? = some o → OpOk P n l F ops w0 bs os i o)
    (hmono : ∀ (j : Nat) (v : Value) (w w' : World), Below w.heap.size w w' → F j v w → F j v w')
    (hdst : ∀ (i : Nat) (o : Oper) (d : Nat), ops[i]? = some o → o.dst = some d → d < n)
    (hend : ∀ (a : Act) (w : World), a.tmps.size = n → a.defers = [] → Wd w0 w bs os → (∀ s v, look l s = some v → (∀ (j : Nat) (o : Oper), j < m → ops[j]? = some o → o.dst ≠ some s) → a.tmps[s]? = some v) →
      (∀ (j : Nat) (o : Oper) (d : Nat), j < m → ops[j]? = some o → o.dst = some d → ∃ v, a.tmps[d]? = some v ∧ F j v w) → wpList P ops Q (ops.toList.drop m) a w) : (Code.region id ops true).wp P Q a W := by
  refine wp_region_any hm ?_
  have key : ∀ (fuel : Nat) (listed : Array Bool) (a : Act) (w : World), listed.size = ops.size → (∀ j, m ≤ j → j < ops.size → listed.getD j true = false) → ((List.range m).filter fun i => !listed.getD i true).length = fuel → Inv n l F ops w0 bs os listed a w → wpAny P .any ops Q (fuel + (ops.size - m)) listed a w := by
    intro fuel
    induction fuel with
    | zero =>
      intro listed a w hs hnb hc hI
      have hnil := List.eq_nil_of_length_eq_zero hc
      have hall : ∀ j, j < m → listed.getD j true = true := by
        intro j hj
        cases hb : listed.getD j true with
        | true => rfl
        | false =>
          have : j ∈ (List.range m).filter fun i => !listed.getD i true := List.mem_filter.mpr ⟨List.mem_range.mpr hj, by rw [hb]; rfl⟩
          rw [hnil] at this
          cases this
      obtain ⟨h1, h2, h3, h4, h5, _⟩ := hI
      rw [Nat.zero_add]
      refine tailF hchk hS (ops.size - m) m listed a w (Nat.le_refl _) (by omega) hs hall hnb ?_
      refine hend a w h1 h2 h3 (fun s v hv hno => h4 s v hv (fun j o hj hd => ?_)) (fun j o d hjm hj hd => h5 j o d hj hd (hall j hjm))
      by_cases hjm : j < m
      · exact absurd hd (hno j o hjm hj)
      · exact hnb j (by omega) (Array.getElem?_eq_some_iff.1 hj).1
    | succ fuel ih =>
      intro listed a w hs hnb hc hI
      have hmin : ∃ j, j < m ∧ listed.getD j true = false ∧ ∀ k, k < j → listed.getD k true = true := by
        have hex : ∃ j, j < m ∧ listed.getD j true = false := by
          cases hf : (List.range m).filter fun i => !listed.getD i true with
          | nil => rw [hf] at hc; cases hc
          | cons j r =>
            have : j ∈ (List.range m).filter fun i => !listed.getD i true := by rw [hf]; exact List.mem_cons_self
            obtain ⟨h1, h2⟩ := List.mem_filter.mp this
            exact ⟨j, List.mem_range.mp h1, by simpa using h2⟩
        obtain ⟨j, hj, hb⟩ := hex
        induction j using Nat.strongRecOn with
        | _ j ihj =>
          by_cases hall : ∀ k, k < j → listed.getD k true = true
          · exact ⟨j, hj, hb, hall⟩
          · simp only [Classical.not_forall] at hall
            obtain ⟨k, hk, hkb⟩ := hall
            exact ihj k hk (by omega) (by simpa using hkb)
      obtain ⟨jm, hjm, hjb, hlow⟩ := hmin
      rw [show fuel + 1 + (ops.size - m) = fuel + (ops.size - m) + 1 by omega]
      refine ⟨fun hr => ?_, fun i hi => ?_⟩
      · exfalso
        obtain ⟨o, ho⟩ : ∃ o, ops[jm]? = some o := ⟨ops[jm]'(by omega), Array.getElem?_eq_some_iff.2 ⟨by omega, rfl⟩⟩
        have := ready_of hs ho hchk hjb hlow
        rw [hr] at this
        cases this
      · have hi' := hi
        unfold Region.ready at hi'
        obtain ⟨hir, hic⟩ := List.mem_filter.mp hi'
        have hilt := List.mem_range.mp hir
        obtain ⟨o, ho⟩ : ∃ o, ops[i]? = some o := ⟨ops[i], Array.getElem?_eq_some_iff.2 ⟨hilt, rfl⟩⟩
        simp only [ho, Option.map_some, Option.getD_some, Bool.and_eq_true] at hic
        obtain ⟨hib, hdeps⟩ := hic
        have hib' : listed.getD i true = false := by simpa using hib
        have hw : ∀ m, waits o m = true → listed.getD m true = true := fun k hk => listed_of_waits hdeps k hk
        have him : i < m := by
          rcases Nat.lt_or_ge i m with h | h
          · exact h
          · have := hw jm (chkS_spec hS ho h jm (by omega))
            rw [hjb] at this
            cases this
        obtain ⟨h1, h2, h3, h4, h5, h9⟩ := hI
        have hseen : ∀ s, s ∈ o.looksAt ops → Seen l F ops o a w s := by
          intro s hs'
          unfold Seen
          cases hsrc : srcOf ops o s with
          | some m =>
            unfold srcOf at hsrc
            have h6 := List.find?_some hsrc
            have h7 := List.mem_of_find?_eq_some hsrc
            simp only [Bool.and_eq_true] at h6
            obtain ⟨om, hom⟩ : ∃ om, ops[m]? = some om := ⟨ops[m]'(List.mem_range.mp h7), Array.getElem?_eq_some_iff.2 ⟨List.mem_range.mp h7, rfl⟩⟩
            simp only [hom, Option.bind_some] at h6
            cases hd : om.dst with
            | none => simp [hd] at h6
            | some d =>
              simp only [hd] at h6
              have hds : d = s := Nat.eq_of_beq_eq_true h6.2
              subst hds
              exact h5 m om d hom hd (hw m h6.1)
          | none =>
            intro v hv
            refine h4 s v hv (fun j oj hj hd => ?_)
            have h6 := ((chkB_spec hchk ho).2 j oj s hj hd).2 hs'
            have hjlt : j < ops.size := (Array.getElem?_eq_some_iff.1 hj).1
            rcases h6 with h6 | h6
            · exfalso
              unfold srcOf at hsrc
              have := List.find?_eq_none.mp hsrc j (List.mem_range.mpr hjlt)
              simp [h6, hj, hd] at this
            · -- it waits for i, which is not listed; so it is not listed itself
              cases hb : listed.getD j true with
              | false => rfl
              | true =>
                exfalso
                have h8 := h9 j oj hj hb i hilt h6
                rw [hib'] at h8
                cases h8
        have step : ∀ (v : Value) (w' : World), F i v w' → Below w.heap.size w w' → Inv n l F ops w0 bs os (listed.setIfInBounds i true) (a.put o.dst v) w' := by
          intro v w' hF hB
          have hli : i < listed.size := by omega
          refine ⟨?_, ?_, h3.call hB, ?_, ?_, ?_⟩
          · cases hd : o.dst with
            | none => exact h1
            | some d => simp [Act.put, h1]
          · cases hd : o.dst with
            | none => exact h2
            | some d => exact h2
          · intro s u hu hno
            have hns : o.dst ≠ some s := by
              intro hd
              have := hno i o ho hd
              rw [getD_set hli, if_pos rfl] at this
              cases this
            have hold := h4 s u hu (fun j oj hj hd => by
              have := hno j oj hj hd
              rw [getD_set hli] at this
              split at this
              · cases this
              · exact this)
            cases hd : o.dst with
            | none => exact hold
            | some d =>
              show (a.tmps.setIfInBounds d v)[s]? = some u
              rw [Array.getElem?_setIfInBounds, if_neg (fun e => hns (by rw [hd, e]))]
              exact hold
          · intro j oj d hj hd hb
            by_cases hij : i = j
            · subst hij
              rw [ho] at hj
              cases hj
              refine ⟨v, ?_, hF⟩
              rw [hd]
              show (a.tmps.setIfInBounds d v)[d]? = some v
              rw [Array.getElem?_setIfInBounds, if_pos rfl, if_pos (by rw [h1]; exact hdst i o d ho hd)]
            · rw [getD_set hli, if_neg hij] at hb
              obtain ⟨u, hu, hFu⟩ := h5 j oj d hj hd hb
              refine ⟨u, ?_, hmono j u w w' hB hFu⟩
              have hne := ((chkB_spec hchk ho).2 j oj d hj hd).1 hij
              cases hdo : o.dst with
              | none => exact hu
              | some d' =>
                show (a.tmps.setIfInBounds d' v)[d]? = some u
                rw [Array.getElem?_setIfInBounds, if_neg (fun e => hne (by rw [hdo, e]))]
                exact hu
          · intro j oj hj hb m hm hwm
            rw [getD_set hli]
            split
            · rfl
            · by_cases hij : i = j
              · subst hij
                rw [ho] at hj
                cases hj
                exact hw m hwm
              · rw [getD_set hli, if_neg hij] at hb
                exact h9 j oj hj hb m hm hwm
        have hcount : ((List.range m).filter fun k => !(listed.setIfInBounds i true).getD k true).length = fuel := by
          have hli : i < listed.size := by omega
          have e1 : ((List.range m).filter fun k => !(listed.setIfInBounds i true).getD k true) = ((List.range m).filter fun k => !listed.getD k true).erase i := by
            rw [List.Nodup.erase_eq_filter (List.nodup_range.sublist List.filter_sublist), List.filter_filter]
            refine List.filter_congr (fun k _ => ?_)
            rw [getD_set hli]
            by_cases hik : i = k
            · subst hik; simp
            · have : ¬ k = i := fun e => hik e.symm
              simp [hik, this]
          rw [e1, List.length_erase_of_mem (List.mem_filter.mpr ⟨List.mem_range.mpr him, by rw [hib']; rfl⟩), hc]
          rfl
        have hnb' : ∀ j, m ≤ j → j < ops.size → (listed.setIfInBounds i true).getD j true = false := by
          intro j hj1 hj2
          rw [getD_set (by omega), if_neg (by omega)]
          exact hnb j hj1 hj2
        have rec_ : ∀ (v : Value) (w' : World), F i v w' → Below w.heap.size w w' → wpAny P .any ops Q (fuel + (ops.size - m)) (listed.setIfInBounds i true) (a.put o.dst v) w' :=
          fun v w' hF hB => ih _ _ _ (by simpa using hs) hnb' hcount (step v w' hF hB)
        unfold wpOp
        simp only [ho]
        rcases hop i o him ho a w h1 h2 h3 hseen with ⟨hwt, hwp⟩ | ⟨hwf, hF⟩
        · rw [if_pos hwt]
          refine .inl (wp_false_mono (fun a' w' hx => ?_) (fun _ _ _ h => h) hwp)
          obtain ⟨v, rfl, hF, hB⟩ := hx
          exact rec_ v w' hF hB
        · rw [if_neg (by rw [hwf]; simp)]
          exact rec_ undef w hF (Below.refl _ _)
  have hsz : m + (ops.size - m) = ops.size := by omega
  rw [← hsz]
  have h0 : ∀ j, j < ops.size → (Array.replicate ops.size false).getD j true = false := fun j hj => by simp [hj]
  rw [hsz]
  have := key m (Array.replicate ops.size false) a { W with drawn := W.drawn + 1 } (by simp) (fun j _ hj => h0 j hj) ?_ ⟨ha.size, ha.defers, HW.drew _, fun s v hv _ => ha.slot s v hv, ?_, ?_⟩
  · rwa [hsz] at this
  · have : (List.range m).filter (fun i => !(Array.replicate ops.size false).getD i true) = List.range m := by
      refine List.filter_eq_self.mpr (fun i hi => ?_)
      rw [h0 i (by have := List.mem_range.mp hi; omega)]
      rfl
    rw [this, List.length_range]
  · intro j o d hj _ hb
    rw [h0 j (Array.getElem?_eq_some_iff.1 hj).1] at hb
    cases hb
  · intro j o hj hb
    rw [h0 j (Array.getElem?_eq_some_iff.1 hj).1] at hb
    cases hb
end

/-! ### Each operation of such a region -/
theorem hasNil {n : Nat} {a : Act} (h1 : a.tmps.size = n) (h2 : a.defers = []) : Has n [] a := ⟨h1, h2, fun _ _ h => by cases h⟩
theorem Has.add {n : Nat} {l : List (Nat × Value)} {a : Act} (h : Has n l a) {s : Nat} {v : Value} (hs : a.tmps[s]? = some v) : Has n ((s, v) :: l) a := by
  refine ⟨h.size, h.defers, ?_⟩
  intro i u hu
  simp only [look] at hu
  cases hd : Nat.beq s i with
  | true =>
    simp only [hd] at hu
    have e : s = i := Nat.eq_of_beq_eq_true hd
    subst e
    rw [← hu]
    exact hs
  | false =>
    simp only [hd] at hu
    exact h.slot i u hu

section
variable {P : Program} {n : Nat} {l : List (Nat × Value)} {a : Act} {ops : Array Oper} {o : Oper} {w w' w0 : World} {G : Value → World → Prop} {bs : List (Nat × Obj)} {os : List OwnA}

/-- What is asked of an operation: it yields what is told of it. -/
def Yields (P : Program) (ops : Array Oper) (o : Oper) (a : Act) (w : World) (G : Value → World → Prop) : Prop :=
  (Region.wanted o (yielded ops a.tmps) = true ∧ o.wp P a w (fun a' w' => ∃ v, a' = a.put o.dst v ∧ G v w' ∧ Below w.heap.size w w') (fun _ _ _ => False)) ∨
  (Region.wanted o (yielded ops a.tmps) = false ∧ G undef w)

theorem yv (ha : Has n l a) (v : Value) (hok : (known l o && onB l ops o.guard) = true) (hx : (execOp (ev l) o).run P w = .ok (.value v) w') (hB : Below w.heap.size w w') (hG : G v w') : Yields P ops o a w G := by
  simp only [Bool.and_eq_true] at hok
  refine .inl ⟨ha.on ops o hok.2, ?_⟩
  unfold Oper.wp
  rw [exec_eq ha o hok.1, hx, Oper.upon_value]
  exact ⟨v, rfl, hG, hB⟩

theorem yc (ha : Has n l a) {f : FuncId} {args : Array Value} {R : Ending → World → Prop} (hok : (known l o && onB l ops o.guard) = true) (hx : (execOp (ev l) o).run P w = .ok (.enter f args) w)
    (hc : Calls P f args w R) (h : ∀ e w', R e w' → ∃ v, e = .returned v ∧ G v w' ∧ Below w.heap.size w w') : Yields P ops o a w G := by
  simp only [Bool.and_eq_true] at hok
  refine .inl ⟨ha.on ops o hok.2, ?_⟩
  unfold Oper.wp
  rw [exec_eq ha o hok.1, hx, Oper.upon_enter]
  refine hc.mono fun e w1 hR => ?_
  obtain ⟨v, rfl, hv, hb⟩ := h e w1 hR
  exact ⟨v, rfl, hv, hb⟩

theorem yo (ha : Has n l a) (hok : offB l ops o.guard = true) (hG : G undef w) : Yields P ops o a w G := .inr ⟨ha.off ops o hok, hG⟩
end
inductive Fact where
  | fix (u : Value)
  | rd (sz m : Nat) (cs : List Value)
  | blk (w0 : World) (C : Array Value) (T : Nat) (bs : List (Nat × Obj)) (os : List OwnA)
  | lit (w0 : World) (e n : Nat) (C : Array Value) (bs : List (Nat × Obj)) (os : List OwnA)
  | any
  | ptr
  | pr (Q : Value → Prop)
  | wd (f : List (Option Addr) → List Nat → Value) (w0 : World) (bs : List (Option Addr) → List Nat → List (Nat × Obj)) (os : List (Option Addr) → List Nat → List OwnA)

def Fact.holds : Fact → Value → World → Prop
  | .fix u, v, _ => v = u
  | .rd sz m cs, v, w => Rd sz w v m cs
  | .blk w0 C T bs os, v, w => ∃ b, v = .pointer (some ⟨b, 0, none⟩) ∧ Wd w0 w ((b, .cells C T (0, 0)) :: bs) os
  | .lit w0 e n C bs os, v, w => ∃ b, v = .slice (some ⟨b, 0, none⟩) n n ∧ Wd w0 w ((b, .cells C e (0, 0)) :: bs) os
  | .any, _, _ => True
  | .ptr, v, _ => ∃ a, v = .pointer a
  | .pr Q, v, _ => Q v
  | .wd f w0 bs os, v, w => ∃ As ns, v = f As ns ∧ Wd w0 w (bs As ns) (os As ns)

def facts (L : List Fact) (j : Nat) (v : Value) (w : World) : Prop := (L.getD j .any).holds v w

theorem facts_mono (L : List Fact) (j : Nat) (v : Value) (w w' : World) (hb : Below w.heap.size w w') (h : facts L j v w) : facts L j v w' := by
  unfold facts at *
  cases hf : L.getD j .any with
  | fix u => rw [hf] at h; exact h
  | rd sz m cs => rw [hf] at h; exact Rd.below h hb
  | blk w0 C T bs os => rw [hf] at h; obtain ⟨b, e, hw⟩ := h; exact ⟨b, e, hw.call hb⟩
  | lit w0 e n C bs os => rw [hf] at h; obtain ⟨b, e, hw⟩ := h; exact ⟨b, e, hw.call hb⟩
  | any => trivial
  | ptr => rw [hf] at h; exact h
  | pr Q => rw [hf] at h; exact h
  | wd f w0 bs os => rw [hf] at h; obtain ⟨As, ns, e, hw⟩ := h; exact ⟨As, ns, e, hw.call hb⟩

def OpsOk (P : Program) (n : Nat) (l : List (Nat × Value)) (L : List Fact) (ops : Array Oper) (w0 : World) (bs : List (Nat × Obj)) (os : List OwnA) : Nat → List Oper → Prop
  | _, [] => True
  | i, o :: r => OpOk P n l (facts L) ops w0 bs os i o ∧ OpsOk P n l L ops w0 bs os (i + 1) r

theorem OpsOk.get {P : Program} {n : Nat} {l : List (Nat × Value)} {L : List Fact} {ops : Array Oper} {w0 : World} {bs : List (Nat × Obj)} {os : List OwnA} : ∀ (r : List Oper) (i : Nat), OpsOk P n l L ops w0 bs os i r → ∀ (j : Nat) (o : Oper), r[j]? = some o → OpOk P n l (facts L) ops w0 bs os (i + j) o
  | [], _, _, j, o, h => by simp at h
  | x :: r, i, hx, 0, o, h => by
    simp only [List.getElem?_cons_zero, Option.some.injEq] at h
    subst h
    exact hx.1
  | x :: r, i, hx, j + 1, o, h => by
    have := OpsOk.get r (i + 1) hx.2 j o (by simpa using h)
    rw [show i + (j + 1) = i + 1 + j by omega]
    exact this

def dstB (n : Nat) (ops : Array Oper) : Bool := ops.all fun o => match o.dst with
  | some d => Nat.blt d n
  | none => true

def freeB (m : Nat) (ops : Array Oper) (s : Nat) : Bool := (ops.toList.take m).all fun o => match o.dst with
  | some d => !Nat.beq d s
  | none => true

section
variable {P : Program} {n : Nat} {l : List (Nat × Value)} {ops : Array Oper} {w0 W : World} {bs : List (Nat × Obj)} {os : List OwnA} {a : Act} {Q : Exit → Act → World → Prop} {L : List Fact}

theorem regionG {id : Nat} (m : Nat) (hm : P.follows .mixedOrders = true) (hchk : (chkB ops && dstB n ops && Nat.ble m ops.size && chkS m ops) = true) (ha : Has n l a) (HW : Wd w0 W bs os) (L : List Fact)
    (hop : OpsOk P n l L ops w0 bs os 0 (ops.toList.take m))
    (hend : ∀ (a : Act) (w : World), Has n [] a → Wd w0 w bs os → (∀ s v, look l s = some v → freeB m ops s = true → a.tmps[s]? = some v) →
      (∀ (j d : Nat), Nat.blt j m = true → (ops[j]?).bind (·.dst) = some d → ∃ v, a.tmps[d]? = some v ∧ facts L j v w) → wpList P ops Q (ops.toList.drop m) a w) : (Code.region id ops true).wp P Q a W := by
  simp only [Bool.and_eq_true] at hchk
  obtain ⟨⟨⟨hc1, hc2⟩, hc3⟩, hc4⟩ := hchk
  have hmz := Nat.le_of_ble_eq_true hc3
  refine regionF (F := facts L) m hmz hc4 hm hc1 ha HW (fun i o him hi => ?_) (facts_mono L) (fun i o d hi hd => ?_) (fun a w h1 h2 h3 h4 h5 => ?_)
  · have := OpsOk.get (ops.toList.take m) 0 hop i o (by rw [List.getElem?_take, if_pos him]; simpa using hi)
    rwa [Nat.zero_add] at this
  · unfold dstB at hc2
    rw [Array.all_eq_true_iff_forall_mem] at hc2
    have := hc2 o (Array.mem_of_getElem? hi)
    simp only [hd] at this
    exact Nat.le_of_ble_eq_true this
  · refine hend a w (hasNil h1 h2) h3 (fun s v hv hf => h4 s v hv (fun j o hjm hj hd => ?_)) (fun j d hjm hj => ?_)
    · unfold freeB at hf
      have hmem : o ∈ ops.toList.take m := by
        refine List.mem_of_getElem? (i := j) ?_
        rw [List.getElem?_take, if_pos hjm]
        simpa using hj
      have := List.all_eq_true.mp hf o hmem
      simp [hd] at this
    · cases ho : ops[j]? with
      | none => simp [ho] at hj
      | some o => exact h5 j o d (Nat.le_of_ble_eq_true hjm) ho (by simpa [ho] using hj)

variable {o : Oper} {w : World} {G : Value → World → Prop} {E : List (Nat × Value)}

theorem seeE (hs : ∀ s, s ∈ o.looksAt ops → Seen l (facts L) ops o a w s) (s : Nat) (v : Value) (h : ((o.looksAt ops).any (Nat.beq s), srcOf ops o s) = (true, none)) (hl : look l s = some v) : a.tmps[s]? = some v := by
  simp only [Prod.mk.injEq, List.any_eq_true] at h
  obtain ⟨⟨x, hx, hb⟩, h2⟩ := h
  have e := Nat.eq_of_beq_eq_true hb
  subst e
  have := hs s hx
  unfold Seen at this
  rw [h2] at this
  exact this v hl

theorem seeF (hs : ∀ s, s ∈ o.looksAt ops → Seen l (facts L) ops o a w s) (s m : Nat) (v : Value) (h : ((o.looksAt ops).any (Nat.beq s), srcOf ops o s) = (true, some m)) (hL : L.getD m .any = .fix v) : a.tmps[s]? = some v := by
  simp only [Prod.mk.injEq, List.any_eq_true] at h
  obtain ⟨⟨x, hx, hb⟩, h2⟩ := h
  have e := Nat.eq_of_beq_eq_true hb
  subst e
  have := hs s hx
  unfold Seen at this
  rw [h2] at this
  obtain ⟨u, hu, hf⟩ := this
  unfold facts at hf
  rw [hL] at hf
  rw [hu, show u = v from hf]

theorem seeK (hs : ∀ s, s ∈ o.looksAt ops → Seen l (facts L) ops o a w s) (s m : Nat) (f : Fact) (h : ((o.looksAt ops).any (Nat.beq s), srcOf ops o s) = (true, some m)) (hL : L.getD m .any = f) : ∃ v, a.tmps[s]? = some v ∧ f.holds v w := by
  simp only [Prod.mk.injEq, List.any_eq_true] at h
  obtain ⟨⟨x, hx, hb⟩, h2⟩ := h
  have e := Nat.eq_of_beq_eq_true hb
  subst e
  have := hs s hx
  unfold Seen at this
  rw [h2] at this
  obtain ⟨u, hu, hf⟩ := this
  unfold facts at hf
  rw [hL] at hf
  exact ⟨u, hu, hf⟩

theorem gotK {m j d : Nat} {f : Fact} (h : ∀ (j d : Nat), Nat.blt j m = true → (ops[j]?).bind (·.dst) = some d → ∃ v, a.tmps[d]? = some v ∧ facts L j v w) (hjm : Nat.blt j m = true) (hj : (ops[j]?).bind (·.dst) = some d) (hL : L.getD j .any = f) : ∃ v, a.tmps[d]? = some v ∧ f.holds v w := by
  obtain ⟨u, hu, hf⟩ := h j d hjm hj
  unfold facts at hf
  rw [hL] at hf
  exact ⟨u, hu, hf⟩

theorem seeR (hs : ∀ s, s ∈ o.looksAt ops → Seen l (facts L) ops o a w s) (s m sz k : Nat) (cs : List Value) (h : ((o.looksAt ops).any (Nat.beq s), srcOf ops o s) = (true, some m)) (hL : L.getD m .any = .rd sz k cs) :
    ∃ A c, a.tmps[s]? = some (.slice A k c) ∧ Rd sz w (.slice A k c) k cs := by
  simp only [Prod.mk.injEq, List.any_eq_true] at h
  obtain ⟨⟨x, hx, hb⟩, h2⟩ := h
  have e := Nat.eq_of_beq_eq_true hb
  subst e
  have := hs s hx
  unfold Seen at this
  rw [h2] at this
  obtain ⟨u, hu, hf⟩ := this
  unfold facts at hf
  rw [hL] at hf
  have hf : Rd sz w u k cs := hf
  obtain ⟨A, c, rfl⟩ := hf.shape
  exact ⟨A, c, hu, hf⟩

theorem gotR {m j d sz k : Nat} {cs : List Value} (h : ∀ (j d : Nat), Nat.blt j m = true → (ops[j]?).bind (·.dst) = some d → ∃ v, a.tmps[d]? = some v ∧ facts L j v w) (hjm : Nat.blt j m = true) (hj : (ops[j]?).bind (·.dst) = some d) (hL : L.getD j .any = .rd sz k cs) :
    ∃ A c, a.tmps[d]? = some (.slice A k c) ∧ Rd sz w (.slice A k c) k cs := by
  obtain ⟨u, hu, hf⟩ := h j d hjm hj
  unfold facts at hf
  rw [hL] at hf
  have hf : Rd sz w u k cs := hf
  obtain ⟨A, c, rfl⟩ := hf.shape
  exact ⟨A, c, hu, hf⟩

/-- A literal's row reads as its list. -/
theorem rd_blk {α : Type} {enc : α → List Value} {w0 W : World} {bs : List (Nat × Obj)} {os : List OwnA} (h : Wd w0 W bs os) {i b sz T : Nat} {C : Array Value} (hi : bs[i]? = some (b, .cells C T (0, 0))) (hsz : ∀ x, (enc x).length = sz) (xs : List α) (hC : C = (encs enc xs).toArray) :
    Rd sz W (.slice (some ⟨b, 0, none⟩) xs.length xs.length) xs.length (encs enc xs) := by
  refine ⟨?_, .inr ⟨b, 0, xs.length, rfl, Nat.le_refl _, fun j u hu => ?_⟩⟩
  · clear hC
    induction xs with
    | nil => simp [encs]
    | cons x r ih =>
      have : encs enc (x :: r) = enc x ++ encs enc r := by simp [encs]
      rw [this, List.length_append, ih, hsz, List.length_cons, Nat.succ_mul]
      omega
  · refine h.ca hi j u ?_
    rw [hC]
    simpa using hu
theorem seeL {α : Type} {enc : α → List Value} (hs : ∀ s, s ∈ o.looksAt ops → Seen l (facts L) ops o a w s) (s m sz e : Nat) (C : Array Value) (xs : List α) {w1 : World} {bs1 : List (Nat × Obj)} {os1 : List OwnA} (h : ((o.looksAt ops).any (Nat.beq s), srcOf ops o s) = (true, some m)) (hL : L.getD m .any = .lit w1 e xs.length C bs1 os1) (hsz : ∀ x, (enc x).length = sz) (hC : C = (encs enc xs).toArray) :
    ∃ b, a.tmps[s]? = some (.slice (some ⟨b, 0, none⟩) xs.length xs.length) ∧ Rd sz w (.slice (some ⟨b, 0, none⟩) xs.length xs.length) xs.length (encs enc xs) := by
  simp only [Prod.mk.injEq, List.any_eq_true] at h
  obtain ⟨⟨x, hx, hb⟩, h2⟩ := h
  have e := Nat.eq_of_beq_eq_true hb
  subst e
  have := hs s hx
  unfold Seen at this
  rw [h2] at this
  obtain ⟨u, hu, hf⟩ := this
  unfold facts at hf
  rw [hL] at hf
  obtain ⟨b, rfl, hw⟩ := hf
  exact ⟨b, hu, rd_blk hw (i := 0) rfl hsz xs hC⟩
theorem gotL {m j d e k : Nat} {w1 : World} {C : Array Value} {bs1 : List (Nat × Obj)} {os1 : List OwnA} (h : ∀ (j d : Nat), Nat.blt j m = true → (ops[j]?).bind (·.dst) = some d → ∃ v, a.tmps[d]? = some v ∧ facts L j v w) (hjm : Nat.blt j m = true) (hj : (ops[j]?).bind (·.dst) = some d) (hL : L.getD j .any = .lit w1 e k C bs1 os1) :
    ∃ b, a.tmps[d]? = some (.slice (some ⟨b, 0, none⟩) k k) ∧ Wd w1 w ((b, .cells C e (0, 0)) :: bs1) os1 := by
  obtain ⟨u, hu, hf⟩ := h j d hjm hj
  unfold facts at hf
  rw [hL] at hf
  obtain ⟨b, rfl, hw⟩ := hf
  exact ⟨b, hu, hw⟩

theorem gotF {m j d : Nat} {v : Value} (h : ∀ (j d : Nat), Nat.blt j m = true → (ops[j]?).bind (·.dst) = some d → ∃ v, a.tmps[d]? = some v ∧ facts L j v w) (hjm : Nat.blt j m = true) (hj : (ops[j]?).bind (·.dst) = some d) (hL : L.getD j .any = .fix v) : a.tmps[d]? = some v := by
  obtain ⟨u, hu, hf⟩ := h j d hjm hj
  unfold facts at hf
  rw [hL] at hf
  rw [hu, show u = v from hf]

theorem gotB {m j d : Nat} {w1 : World} {C : Array Value} {T : Nat} {bs1 : List (Nat × Obj)} {os1 : List OwnA} (h : ∀ (j d : Nat), Nat.blt j m = true → (ops[j]?).bind (·.dst) = some d → ∃ v, a.tmps[d]? = some v ∧ facts L j v w) (hjm : Nat.blt j m = true) (hj : (ops[j]?).bind (·.dst) = some d) (hL : L.getD j .any = .blk w1 C T bs1 os1) :
    ∃ b, a.tmps[d]? = some (.pointer (some ⟨b, 0, none⟩)) ∧ Wd w1 w ((b, .cells C T (0, 0)) :: bs1) os1 := by
  obtain ⟨u, hu, hf⟩ := h j d hjm hj
  unfold facts at hf
  rw [hL] at hf
  have hf : ∃ b, u = .pointer (some ⟨b, 0, none⟩) ∧ Wd w1 w ((b, .cells C T (0, 0)) :: bs1) os1 := hf
  obtain ⟨b, rfl, hw⟩ := hf
  exact ⟨b, hu, hw⟩

def YQ (a : Act) (w : World) (d : Nat) (G : Value → World → Prop) : Exit → Act → World → Prop := fun e a' w' => e = .normal ∧ ∃ v, a' = a.put (some d) v ∧ G v w' ∧ Below w.heap.size w w'

def fullL (n : Nat) (a : Act) : List (Nat × Value) := (List.range n).map fun i => (i, a.tmps.getD i undef)

theorem look_append (E l : List (Nat × Value)) (i : Nat) : look (E ++ l) i = (look E i).or (look l i) := by
  induction E with
  | nil => simp [look]
  | cons p r ih =>
    show look (p :: (r ++ l)) i = _
    simp only [look]
    cases Nat.beq p.1 i with
    | true => rfl
    | false => exact ih

theorem look_full (n : Nat) (a : Act) (i : Nat) : look (fullL n a) i = if i < n then some (a.tmps.getD i undef) else none := by
  have gen : ∀ (r : List Nat), look (r.map fun i => (i, a.tmps.getD i undef)) i = if i ∈ r then some (a.tmps.getD i undef) else none := by
    intro r
    induction r with
    | nil => simp [look]
    | cons x r ih =>
      simp only [List.map_cons, look]
      cases hb : Nat.beq x i with
      | true =>
        have e := Nat.eq_of_beq_eq_true hb
        subst e
        simp
      | false =>
        have e : ¬ i = x := fun e => Nat.ne_of_beq_eq_false hb e.symm
        simp only [ih, List.mem_cons, e, false_or]
  unfold fullL
  rw [gen]
  simp [List.mem_range]

theorem Has.full (h : Has n E a) : Has n (E ++ fullL n a) a := by
  refine ⟨h.size, h.defers, fun i v hv => ?_⟩
  rw [look_append] at hv
  cases he : look E i with
  | some u =>
    rw [he] at hv
    have : u = v := by simpa using hv
    subst this
    exact h.slot i u he
  | none =>
    rw [he, look_full] at hv
    by_cases hi : i < n
    · simp only [hi, if_true, Option.none_or, Option.some.injEq] at hv
      rw [← hv, Array.getD_eq_getD_getElem?, Array.getElem?_eq_getElem (by rw [h.size]; exact hi)]
      rfl
    · simp [hi] at hv

theorem yStep (ha : Has n E a) (d : Nat) (hok : okB n E ops o d = true)
    (h : ∀ l, Has n (E ++ l) a → (∀ a' v w', Has n ((d, v) :: (E ++ l)) a' → G v w' → Below w.heap.size w w' → wpList P ops (YQ a w d G) [] a' w') → wpList P ops (YQ a w d G) [o] a w) : Yields P ops o a w G := by
  obtain ⟨h1, h2, h3, h4⟩ := okB_spec hok
  have hw := ha.on ops o h2
  have key := h (fullL n a) ha.full (fun a' v w' ha' hg hb => by
    refine ⟨rfl, v, ?_, hg, hb⟩
    have he : a'.tmps = (a.put (some d) v).tmps := by
      apply Array.ext_getElem?
      intro i
      show a'.tmps[i]? = (a.tmps.setIfInBounds d v)[i]?
      by_cases hi : i < n
      · rw [Array.getElem?_setIfInBounds]
        by_cases hid : d = i
        · subst hid
          rw [if_pos rfl, if_pos (by rw [ha.size]; exact h3)]
          exact ha'.slot d v (by simp [look])
        · rw [if_neg hid]
          have hl : ∃ u, look (E ++ fullL n a) i = some u := by
            rw [look_append, look_full, if_pos hi]
            cases look E i <;> simp
          obtain ⟨u, hu⟩ := hl
          have e1 := ha.full.slot i u hu
          have e2 := ha'.slot i u (by
            simp only [look]
            cases hb : Nat.beq d i with
            | true => exact absurd (Nat.eq_of_beq_eq_true hb) hid
            | false => exact hu)
          rw [e1, e2]
      · rw [Array.getElem?_eq_none (by rw [ha'.size]; omega), Array.getElem?_eq_none (by rw [Array.size_setIfInBounds, ha.size]; omega)]
    have hd' : a'.defers = (a.put (some d) v).defers := ha'.defers.trans ha.defers.symm
    cases a'
    simp only at he hd'
    show Act.mk _ _ = Act.mk _ _
    rw [he, hd']
    rfl)
  unfold wpList at key
  rw [if_pos hw] at key
  rcases key with key | ⟨_, a1, w1, hq⟩
  · refine .inl ⟨hw, ?_⟩
    refine wp_false_mono' (fun a' w' hx => ?_) (fun e a' w' hne hq => ?_) key
    · obtain ⟨_, v, h5, h6, h7⟩ := hx
      exact ⟨v, by rw [h4]; exact h5, h6, h7⟩
    · exact hne hq.1
  · cases hq.1

/-- The address of a slice's element, where the slice's address is known. -/
theorem stepif {rest : List Oper} (ha : Has n l a) (d : Nat) {sz len : Nat} {b off c : Nat} (t e : Nat) (x i : Operand) (k : IntKind) (j : Int) (ho : o.op = .indexAddr t x i) (hx : ev l x = .slice (some ⟨b, off, none⟩) len c) (hi : ev l i = .int k j)
    (ht : P.underlying t = some (.slice e)) (hs : (P.info? e).map (·.size) = some sz) (h0 : 0 ≤ j) (h1 : j < len) (hok : okB n l ops o d = true)
    (h : ∀ a', Has n ((d, .pointer (some ⟨b, off + j.toNat * sz, none⟩)) :: l) a' → wpList P ops Q rest a' W) : wpList P ops Q (o :: rest) a W := by
  cases hie : P.info? e with
  | none => simp [hie] at hs
  | some ie =>
    have hsz : ie.size = sz := by simpa [hie] using hs
    refine stepv (W' := W) ha d (.pointer (some ⟨b, off + j.toNat * sz, none⟩)) hok ?_ h
    have hcond : 0 ≤ j ∧ j < (len : Int) := ⟨h0, h1⟩
    unfold execOp
    simp only [ho, hx, hi, Instr.indexAt, asIntOf, Sem.run_bind, Sem.run_pure, Result.andThen_ok, run_underlying ht, if_pos hcond, sizeOf, typeInfo, run_program, hie, hsz, Addr.add_lit]

theorem Rd.ca {α : Type} (enc : α → List Value) (dfl : α) {sz : Nat} (hsz : ∀ x, (enc x).length = sz) {b off c : Nat} {xs : List α} (hr : Rd sz W (.slice (some ⟨b, off, none⟩) xs.length c) xs.length (encs enc xs)) {j : Int} (h0 : 0 ≤ j) (h1 : j < xs.length) :
    CA W b (off + j.toNat * sz) (enc (rdL dfl xs j)).toArray := by
  intro m u hu
  have hm : m < sz := by
    have := (Array.getElem?_eq_some_iff.1 hu).1
    rw [List.size_toArray, hsz] at this
    exact this
  rcases hr.2 with ⟨hv, _⟩ | ⟨b', off', cap', hv, _, hcell⟩
  · cases hv
  · simp only [Value.slice.injEq, Option.some.injEq, Addr.mk.injEq, and_true, true_and] at hv
    obtain ⟨⟨rfl, rfl⟩, rfl⟩ := hv
    rw [Nat.add_assoc]
    refine hcell _ u ?_
    rw [encs_get hsz dfl xs j.toNat m (by omega) hm]
    simpa [rdL] using hu

theorem Rd.addr {sz len c : Nat} {A : Option Addr} {cs : List Value} (hr : Rd sz W (.slice A len c) len cs) {j : Int} (h0 : 0 ≤ j) (h1 : j < len) : ∃ b off, A = some ⟨b, off, none⟩ := by
  rcases hr.2 with ⟨_, hn⟩ | ⟨b, off, cap, hv, _⟩
  · omega
  · simp only [Value.slice.injEq] at hv
    exact ⟨b, off, hv.1⟩
end
end Go.Proofs.Ytdcojinnjpihaaa.X
