/- A region whose order is drawn: what is told of values may change with what was done already. No condition. -/
import Derived.Test.YtdcojinnjpihaaaXEff
namespace Go.Proofs.Ytdcojinnjpihaaa.X
open Go Go.RowKit

section
variable (P : Program) (n : Nat) (l : List (Nat × Value)) (F : Array Bool → Nat → Value → World → Prop) (ops : Array Oper) (J : Array Bool → World → Prop)
def OpKT (i : Nat) (o : Oper) : Prop := ∀ (a : Act) (w : World) (listed : Array Bool), listed.size = ops.size → listed.getD i true = false → (∀ m, waits o m = true → listed.getD m true = true) →
  (∀ (j : Nat) (oj : Oper), ops[j]? = some oj → listed.getD j true = true → ∀ m, m < ops.size → waits oj m = true → listed.getD m true = true) → a.tmps.size = n → a.defers = [] → J listed w → (∀ s, s ∈ o.looksAt ops → Seen l (F listed) ops o a w s) →
  (Region.wanted o (yielded ops a.tmps) = true ∧ o.wp P a w (fun a' w' => ∃ v, a' = a.put o.dst v ∧ F (listed.setIfInBounds i true) i v w' ∧ J (listed.setIfInBounds i true) w' ∧ ∀ j u, j ≠ i → F listed j u w → F (listed.setIfInBounds i true) j u w') (fun _ _ _ => False)) ∨
  (Region.wanted o (yielded ops a.tmps) = false ∧ F (listed.setIfInBounds i true) i undef w ∧ J (listed.setIfInBounds i true) w ∧ ∀ j u, j ≠ i → F listed j u w → F (listed.setIfInBounds i true) j u w)
end

section
variable (n : Nat) (l : List (Nat × Value)) (F : Array Bool → Nat → Value → World → Prop) (ops : Array Oper) (J : Array Bool → World → Prop)
def InvK (listed : Array Bool) (a : Act) (w : World) : Prop :=
  a.tmps.size = n ∧ a.defers = [] ∧ J listed w ∧
  (∀ s v, look l s = some v → (∀ (j : Nat) (o : Oper), ops[j]? = some o → o.dst = some s → listed.getD j true = false) → a.tmps[s]? = some v) ∧
  (∀ (j : Nat) (o : Oper) (d : Nat), ops[j]? = some o → o.dst = some d → listed.getD j true = true → ∃ v, a.tmps[d]? = some v ∧ F listed j v w) ∧
  (∀ (j : Nat) (o : Oper), ops[j]? = some o → listed.getD j true = true → ∀ m, m < ops.size → waits o m = true → listed.getD m true = true)
end

section
variable {P : Program} {n : Nat} {l : List (Nat × Value)} {F : Array Bool → Nat → Value → World → Prop} {ops : Array Oper} {W : World} {a : Act} {Q : Exit → Act → World → Prop}
theorem regionKT {id : Nat} (J : Array Bool → World → Prop) (m : Nat) (hmz : m ≤ ops.size) (hS : chkT m ops = true) (hm : P.follows .mixedOrders = true) (hchk : chkB ops = true) (ha : Has n l a) (HJ : ∀ k, J (Array.replicate ops.size false) { W with drawn := k })
    (hop : ∀ (i : Nat) (o : Oper), i < m → ops[i]? = some o → OpKT P n l F ops J i o)
    (hdst : ∀ (i : Nat) (o : Oper) (d : Nat), ops[i]? = some o → o.dst = some d → d < n)
    (hend : ∀ (a : Act) (w : World), a.tmps.size = n → a.defers = [] → ∀ listed : Array Bool, listed.size = ops.size → (∀ j, j < m → listed.getD j true = true) → J listed w → (∀ s v, look l s = some v → (∀ (j : Nat) (o : Oper), j < m → ops[j]? = some o → o.dst ≠ some s) → a.tmps[s]? = some v) →
      (∀ (j : Nat) (o : Oper) (d : Nat), j < m → ops[j]? = some o → o.dst = some d → ∃ v, a.tmps[d]? = some v ∧ F listed j v w) → wpList P ops Q (ops.toList.drop m) a w) : (Code.region id ops true).wp P Q a W := by
  refine wp_region_any hm ?_
  have key : ∀ (fuel : Nat) (listed : Array Bool) (a : Act) (w : World), listed.size = ops.size → (∀ j, m ≤ j → j < ops.size → listed.getD j true = false) → ((List.range m).filter fun i => !listed.getD i true).length = fuel → InvK n l F ops J listed a w → wpAny P .any ops Q (fuel + (ops.size - m)) listed a w := by
    intro fuel
    induction fuel with
    | zero =>
      intro listed a w hs hnb hc hI
      have hnil := List.eq_nil_of_length_eq_zero hc
      have hall : ∀ j, j < m → listed.getD j true = true := by
        intro j hj
        cases hb : listed.getD j true with
        | true => rfl
        | false =>
          have : j ∈ (List.range m).filter fun i => !listed.getD i true := List.mem_filter.mpr ⟨List.mem_range.mpr hj, by rw [hb]; rfl⟩
          rw [hnil] at this
          cases this
      obtain ⟨h1, h2, h3, h4, h5, _⟩ := hI
      rw [Nat.zero_add]
      refine tailT hchk hS (ops.size - m) m listed a w (Nat.le_refl _) (by omega) hs hall hnb ?_
      refine hend a w h1 h2 listed hs hall h3 (fun s v hv hno => h4 s v hv (fun j o hj hd => ?_)) (fun j o d hjm hj hd => h5 j o d hj hd (hall j hjm))
      by_cases hjm : j < m
      · exact absurd hd (hno j o hjm hj)
      · exact hnb j (by omega) (Array.getElem?_eq_some_iff.1 hj).1
    | succ fuel ih =>
      intro listed a w hs hnb hc hI
      have hmin : ∃ j, j < m ∧ listed.getD j true = false ∧ ∀ k, k < j → listed.getD k true = true := by
        have hex : ∃ j, j < m ∧ listed.getD j true = false := by
          cases hf : (List.range m).filter fun i => !listed.getD i true with
          | nil => rw [hf] at hc; cases hc
          | cons j r =>
            have : j ∈ (List.range m).filter fun i => !listed.getD i true := by rw [hf]; exact List.mem_cons_self
            obtain ⟨h1, h2⟩ := List.mem_filter.mp this
            exact ⟨j, List.mem_range.mp h1, by simpa using h2⟩
        obtain ⟨j, hj, hb⟩ := hex
        induction j using Nat.strongRecOn with
        | _ j ihj =>
          by_cases hall : ∀ k, k < j → listed.getD k true = true
          · exact ⟨j, hj, hb, hall⟩
          · simp only [Classical.not_forall] at hall
            obtain ⟨k, hk, hkb⟩ := hall
            exact ihj k hk (by omega) (by simpa using hkb)
      obtain ⟨jm, hjm, hjb, hlow⟩ := hmin
      rw [show fuel + 1 + (ops.size - m) = fuel + (ops.size - m) + 1 by omega]
      refine ⟨fun hr => ?_, fun i hi => ?_⟩
      · exfalso
        obtain ⟨o, ho⟩ : ∃ o, ops[jm]? = some o := ⟨ops[jm]'(by omega), Array.getElem?_eq_some_iff.2 ⟨by omega, rfl⟩⟩
        have := ready_of hs ho hchk hjb hlow
        rw [hr] at this
        cases this
      · have hi' := hi
        unfold Region.ready at hi'
        obtain ⟨hir, hic⟩ := List.mem_filter.mp hi'
        have hilt := List.mem_range.mp hir
        obtain ⟨o, ho⟩ : ∃ o, ops[i]? = some o := ⟨ops[i], Array.getElem?_eq_some_iff.2 ⟨hilt, rfl⟩⟩
        simp only [ho, Option.map_some, Option.getD_some, Bool.and_eq_true] at hic
        obtain ⟨hib, hdeps⟩ := hic
        have hib' : listed.getD i true = false := by simpa using hib
        have hw : ∀ m, waits o m = true → listed.getD m true = true := fun k hk => listed_of_waits hdeps k hk
        have him : i < m := by
          rcases Nat.lt_or_ge i m with h | h
          · exact h
          · have := waitsT_listed (listed := listed) hI.2.2.2.2.2 8 o jm (by omega) (fun k _ hk => hw k hk) (chkT_spec hS ho h jm (by omega))
            rw [hjb] at this
            cases this
        obtain ⟨h1, h2, h3, h4, h5, h9⟩ := hI
        have hseen : ∀ s, s ∈ o.looksAt ops → Seen l (F listed) ops o a w s := by
          intro s hs'
          unfold Seen
          cases hsrc : srcOf ops o s with
          | some m =>
            unfold srcOf at hsrc
            have h6 := List.find?_some hsrc
            have h7 := List.mem_of_find?_eq_some hsrc
            simp only [Bool.and_eq_true] at h6
            obtain ⟨om, hom⟩ : ∃ om, ops[m]? = some om := ⟨ops[m]'(List.mem_range.mp h7), Array.getElem?_eq_some_iff.2 ⟨List.mem_range.mp h7, rfl⟩⟩
            simp only [hom, Option.bind_some] at h6
            cases hd : om.dst with
            | none => simp [hd] at h6
            | some d =>
              simp only [hd] at h6
              have hds : d = s := Nat.eq_of_beq_eq_true h6.2
              subst hds
              exact h5 m om d hom hd (hw m h6.1)
          | none =>
            intro v hv
            refine h4 s v hv (fun j oj hj hd => ?_)
            have h6 := ((chkB_spec hchk ho).2 j oj s hj hd).2 hs'
            have hjlt : j < ops.size := (Array.getElem?_eq_some_iff.1 hj).1
            rcases h6 with h6 | h6
            · exfalso
              unfold srcOf at hsrc
              have := List.find?_eq_none.mp hsrc j (List.mem_range.mpr hjlt)
              simp [h6, hj, hd] at this
            · -- it waits for i, which is not listed; so it is not listed itself
              cases hb : listed.getD j true with
              | false => rfl
              | true =>
                exfalso
                have h8 := h9 j oj hj hb i hilt h6
                rw [hib'] at h8
                cases h8
        have step : ∀ (v : Value) (w' : World), F (listed.setIfInBounds i true) i v w' → J (listed.setIfInBounds i true) w' → (∀ j u, j ≠ i → F listed j u w → F (listed.setIfInBounds i true) j u w') → InvK n l F ops J (listed.setIfInBounds i true) (a.put o.dst v) w' := by
          intro v w' hF hB hM
          have hli : i < listed.size := by omega
          refine ⟨?_, ?_, ?_, ?_, ?_, ?_⟩
          · cases hd : o.dst with
            | none => exact h1
            | some d => simp [Act.put, h1]
          · cases hd : o.dst with
            | none => exact h2
            | some d => exact h2
          · exact hB
          · intro s u hu hno
            have hns : o.dst ≠ some s := by
              intro hd
              have := hno i o ho hd
              rw [getD_set hli, if_pos rfl] at this
              cases this
            have hold := h4 s u hu (fun j oj hj hd => by
              have := hno j oj hj hd
              rw [getD_set hli] at this
              split at this
              · cases this
              · exact this)
            cases hd : o.dst with
            | none => exact hold
            | some d =>
              show (a.tmps.setIfInBounds d v)[s]? = some u
              rw [Array.getElem?_setIfInBounds, if_neg (fun e => hns (by rw [hd, e]))]
              exact hold
          · intro j oj d hj hd hb
            by_cases hij : i = j
            · subst hij
              rw [ho] at hj
              cases hj
              refine ⟨v, ?_, hF⟩
              rw [hd]
              show (a.tmps.setIfInBounds d v)[d]? = some v
              rw [Array.getElem?_setIfInBounds, if_pos rfl, if_pos (by rw [h1]; exact hdst i o d ho hd)]
            · rw [getD_set hli, if_neg hij] at hb
              obtain ⟨u, hu, hFu⟩ := h5 j oj d hj hd hb
              refine ⟨u, ?_, hM j u (fun e => hij e.symm) hFu⟩
              have hne := ((chkB_spec hchk ho).2 j oj d hj hd).1 hij
              cases hdo : o.dst with
              | none => exact hu
              | some d' =>
                show (a.tmps.setIfInBounds d' v)[d]? = some u
                rw [Array.getElem?_setIfInBounds, if_neg (fun e => hne (by rw [hdo, e]))]
                exact hu
          · intro j oj hj hb m hm hwm
            rw [getD_set hli]
            split
            · rfl
            · by_cases hij : i = j
              · subst hij
                rw [ho] at hj
                cases hj
                exact hw m hwm
              · rw [getD_set hli, if_neg hij] at hb
                exact h9 j oj hj hb m hm hwm
        have hcount : ((List.range m).filter fun k => !(listed.setIfInBounds i true).getD k true).length = fuel := by
          have hli : i < listed.size := by omega
          have e1 : ((List.range m).filter fun k => !(listed.setIfInBounds i true).getD k true) = ((List.range m).filter fun k => !listed.getD k true).erase i := by
            rw [List.Nodup.erase_eq_filter (List.nodup_range.sublist List.filter_sublist), List.filter_filter]
            refine List.filter_congr (fun k _ => ?_)
            rw [getD_set hli]
            by_cases hik : i = k
            · subst hik; simp
            · have : ¬ k = i := fun e => hik e.symm
              simp [hik, this]
          rw [e1, List.length_erase_of_mem (List.mem_filter.mpr ⟨List.mem_range.mpr him, by rw [hib']; rfl⟩), hc]
          rfl
        have hnb' : ∀ j, m ≤ j → j < ops.size → (listed.setIfInBounds i true).getD j true = false := by
          intro j hj1 hj2
          rw [getD_set (by omega), if_neg (by omega)]
          exact hnb j hj1 hj2
        have rec_ : ∀ (v : Value) (w' : World), F (listed.setIfInBounds i true) i v w' → J (listed.setIfInBounds i true) w' → (∀ j u, j ≠ i → F listed j u w → F (listed.setIfInBounds i true) j u w') → wpAny P .any ops Q (fuel + (ops.size - m)) (listed.setIfInBounds i true) (a.put o.dst v) w' :=
          fun v w' hF hB hM => ih _ _ _ (by simpa using hs) hnb' hcount (step v w' hF hB hM)
        unfold wpOp
        simp only [ho]
        rcases hop i o him ho a w listed hs hib' hw h9 h1 h2 h3 hseen with ⟨hwt, hwp⟩ | ⟨hwf, hF, hB, hM⟩
        · rw [if_pos hwt]
          refine .inl (wp_false_mono (fun a' w' hx => ?_) (fun _ _ _ h => h) hwp)
          obtain ⟨v, rfl, hF, hB, hM⟩ := hx
          exact rec_ v w' hF hB hM
        · rw [if_neg (by rw [hwf]; simp)]
          exact rec_ undef w hF hB hM
  have hsz : m + (ops.size - m) = ops.size := by omega
  rw [← hsz]
  have h0 : ∀ j, j < ops.size → (Array.replicate ops.size false).getD j true = false := fun j hj => by simp [hj]
  rw [hsz]
  have := key m (Array.replicate ops.size false) a { W with drawn := W.drawn + 1 } (by simp) (fun j _ hj => h0 j hj) ?_ ⟨ha.size, ha.defers, HJ _, fun s v hv _ => ha.slot s v hv, ?_, ?_⟩
  · rwa [hsz] at this
  · have : (List.range m).filter (fun i => !(Array.replicate ops.size false).getD i true) = List.range m := by
      refine List.filter_eq_self.mpr (fun i hi => ?_)
      rw [h0 i (by have := List.mem_range.mp hi; omega)]
      rfl
    rw [this, List.length_range]
  · intro j o d hj _ hb
    rw [h0 j (Array.getElem?_eq_some_iff.1 hj).1] at hb
    cases hb
  · intro j o hj hb
    rw [h0 j (Array.getElem?_eq_some_iff.1 hj).1] at hb
    cases hb
end


/-- Facts that the one change ends are not told. -/
def hideX (X : List Bool) (L : List Fact) : List Fact := (List.range L.length).map fun i => match X.getD i false with
  | true => .any
  | false => L.getD i .any

theorem hideX_get (X : List Bool) (L : List Fact) (j : Nat) : (hideX X L).getD j .any = match X.getD j false with | true => .any | false => L.getD j .any := by
  unfold hideX
  by_cases hj : j < L.length
  · simp [List.getD_eq_getElem?_getD, hj]
  · have h1 : L.getD j .any = .any := by simp [List.getD_eq_getElem?_getD, hj]
    rw [h1]
    have h2 : ((List.range L.length).map fun i => match X.getD i false with | true => Fact.any | false => L.getD i .any).getD j .any = .any := by
      simp [List.getD_eq_getElem?_getD, hj]
    rw [h2]
    cases X.getD j false <;> rfl

def freeF : Fact → Bool
  | .fix _ => true
  | .any => true
  | .ptr => true
  | .pr _ => true
  | _ => false

theorem freeF_holds {f : Fact} (h : freeF f = true) {v : Value} {w w' : World} (hf : f.holds v w) : f.holds v w' := by
  cases f with
  | fix u => exact hf
  | any => trivial
  | ptr => exact hf
  | pr => exact hf
  | rd => cases h
  | blk => cases h
  | lit => cases h
  | wd => cases h

def fixX (q : Nat) (X : List Bool) (L : List Fact) : Bool := (List.range L.length).all fun i => Nat.beq i q || X.getD i false || freeF (L.getD i .any)

theorem fixX_get {q : Nat} {X : List Bool} {L : List Fact} (h : fixX q X L = true) (j : Nat) (hj : j ≠ q) : X.getD j false = true ∨ freeF (L.getD j .any) = true := by
  by_cases hl : j < L.length
  · have h1 := List.all_eq_true.mp h j (List.mem_range.mpr hl)
    simp only [Bool.or_eq_true] at h1
    rcases h1 with (h1 | h1) | h1
    · exact absurd (Nat.eq_of_beq_eq_true h1) hj
    · exact .inl h1
    · exact .inr h1
  · right
    have h1 : L.getD j .any = .any := by simp [List.getD_eq_getElem?_getD, hl]
    rw [h1]
    rfl

def OpOkX (P : Program) (n : Nat) (l : List (Nat × Value)) (L : List Fact) (X : List Bool) (ops : Array Oper) (w0 : World) (C : Sta) (i : Nat) (o : Oper) : Prop := ∀ (a : Act) (w : World), a.tmps.size = n → a.defers = [] → Wd w0 w C.1 C.2 → (∀ s, s ∈ o.looksAt ops → Seen l (facts (hideX X L)) ops o a w s) →
  (Region.wanted o (yielded ops a.tmps) = true ∧ o.wp P a w (fun a' w' => ∃ v, a' = a.put o.dst v ∧ facts L i v w' ∧ Below w.heap.size w w') (fun _ _ _ => False)) ∨
  (Region.wanted o (yielded ops a.tmps) = false ∧ facts L i undef w)

def EffOkX (P : Program) (n : Nat) (l : List (Nat × Value)) (L : List Fact) (ops : Array Oper) (w0 : World) (S : Sta) (f : Fact) (o : Oper) : Prop :=
  ∀ (a : Act) (w : World), a.tmps.size = n → a.defers = [] → Wd w0 w S.1 S.2 → (∀ s, s ∈ o.looksAt ops → Seen l (facts L) ops o a w s) →
  Region.wanted o (yielded ops a.tmps) = true ∧ o.wp P a w (fun a' w' => ∃ v, a' = a.put o.dst v ∧ f.holds v w') (fun _ _ _ => False)

def OpsOkX (P : Program) (n : Nat) (l : List (Nat × Value)) (L : List Fact) (X : List Bool) (ops : Array Oper) (w0 : World) (C S : Sta) (q : Nat) (f : Fact) : Nat → List Oper → Prop
  | _, [] => True
  | i, o :: r => (match Nat.beq i q with
    | true => EffOkX P n l L ops w0 S f o
    | false => OpOkX P n l L X ops w0 C i o) ∧ OpsOkX P n l L X ops w0 C S q f (i + 1) r

theorem OpsOkX.get {P : Program} {n : Nat} {l : List (Nat × Value)} {L : List Fact} {X : List Bool} {ops : Array Oper} {w0 : World} {C S : Sta} {q : Nat} {f : Fact} : ∀ (r : List Oper) (i : Nat), OpsOkX P n l L X ops w0 C S q f i r → ∀ (j : Nat) (o : Oper), r[j]? = some o →
    (i + j = q ∧ EffOkX P n l L ops w0 S f o) ∨ (i + j ≠ q ∧ OpOkX P n l L X ops w0 C (i + j) o)
  | [], _, _, j, o, h => by simp at h
  | x :: r, i, hx, 0, o, h => by
    simp only [List.getElem?_cons_zero, Option.some.injEq] at h
    subst h
    have h1 := hx.1
    cases hb : Nat.beq i q with
    | true => rw [hb] at h1; exact .inl ⟨Nat.eq_of_beq_eq_true hb, h1⟩
    | false => rw [hb] at h1; exact .inr ⟨fun e => Nat.ne_of_beq_eq_false hb e, h1⟩
  | x :: r, i, hx, j + 1, o, h => by
    have := OpsOkX.get r (i + 1) hx.2 j o (by simpa using h)
    rw [show i + (j + 1) = i + 1 + j by omega]
    exact this

def FX (L : List Fact) (X : List Bool) (q : Nat) (listed : Array Bool) (j : Nat) (v : Value) (w : World) : Prop := (X.getD j false = true ∧ listed.getD q true = true) ∨ facts L j v w

section
variable {P : Program} {n : Nat} {l : List (Nat × Value)} {ops : Array Oper} {w0 W : World} {a : Act} {Q : Exit → Act → World → Prop}
/-- One operation changes what is told; what is told of values that it uses up is told till then. -/
theorem regionE {id : Nat} (m q : Nat) (hm : P.follows .mixedOrders = true) (L : List Fact) (X : List Bool) (hchk : (chkB ops && dstB n ops && Nat.ble m ops.size && chkT m ops && fixX q X L && !X.getD q false) = true) (C S : Sta) (ha : Has n l a) (HW : Wd w0 W S.1 S.2) (f : Fact) (hL : L.getD q .any = f)
    (hC : ∀ w, Wd w0 w S.1 S.2 → Wd w0 w C.1 C.2) (hC2 : ∀ v w, f.holds v w → Wd w0 w C.1 C.2) (hq : Nat.blt q m = true)
    (hop : OpsOkX P n l L X ops w0 C S q f 0 (ops.toList.take m))
    (hend : ∀ (a : Act) (w : World), Has n [] a → (∃ v, f.holds v w) → (∀ s v, look l s = some v → freeB m ops s = true → a.tmps[s]? = some v) →
      (∀ (j d : Nat), Nat.blt j m = true → (ops[j]?).bind (·.dst) = some d → ∃ v, a.tmps[d]? = some v ∧ facts (hideX X L) j v w) → wpList P ops Q (ops.toList.drop m) a w) : (Code.region id ops true).wp P Q a W := by
  simp only [Bool.and_eq_true, Bool.not_eq_true'] at hchk
  obtain ⟨⟨⟨⟨⟨hc1, hc2⟩, hc3⟩, hc4⟩, hc5⟩, hc6⟩ := hchk
  have hmz := Nat.le_of_ble_eq_true hc3
  have hqm : q < m := Nat.le_of_ble_eq_true hq
  -- what the facts say where some are not told
  have hide : ∀ (listed : Array Bool) (j : Nat) (v : Value) (w : World), FX L X q listed j v w → facts (hideX X L) j v w := by
    intro listed j v w h
    unfold facts
    rw [hideX_get]
    cases hx : X.getD j false with
    | true => trivial
    | false =>
      rcases h with ⟨h, _⟩ | h
      · rw [hx] at h; cases h
      · exact h
  refine regionKT (F := FX L X q) (fun listed w => Wd w0 w C.1 C.2 ∧ (listed.getD q true = false → Wd w0 w S.1 S.2) ∧ (listed.getD q true = true → ∃ v, f.holds v w)) m hmz hc4 hm hc1 ha (fun k => ⟨hC _ (HW.drew k), fun _ => HW.drew k, fun h => ?_⟩) (fun i o him hi => ?_) (fun i o d hi hd => ?_) (fun a w h1 h2 listed hls hall hJ h4 h5 => ?_)
  · exfalso
    have : q < ops.size := by omega
    simp [this] at h
  · intro a w listed hsz hib hws _ h1 h2 hJ hseen
    have hli : i < listed.size := by rw [hsz]; exact (Array.getElem?_eq_some_iff.1 hi).1
    rcases OpsOkX.get (ops.toList.take m) 0 hop i o (by rw [List.getElem?_take, if_pos him]; simpa using hi) with ⟨hq, he⟩ | ⟨hq, he⟩
    · rw [Nat.zero_add] at hq
      subst hq
      obtain ⟨hw, hwp⟩ := he a w h1 h2 (hJ.2.1 hib) (fun s hs => by
        have := hseen s hs
        unfold Seen at this ⊢
        cases hsrc : srcOf ops o s with
        | none => rw [hsrc] at this; exact this
        | some k =>
          rw [hsrc] at this
          obtain ⟨v, hv, hf⟩ := this
          refine ⟨v, hv, ?_⟩
          rcases hf with ⟨_, hf⟩ | hf
          · rw [hib] at hf; cases hf
          · exact hf)
      refine .inl ⟨hw, wp_false_mono (fun a' w' hx => ?_) (fun _ _ _ h => h) hwp⟩
      obtain ⟨v, rfl, hv⟩ := hx
      have hq' : (listed.setIfInBounds i true).getD i true = true := by rw [getD_set hli, if_pos rfl]
      refine ⟨v, rfl, .inr (by unfold facts; rw [hL]; exact hv), ⟨hC2 v w' hv, fun hf => ?_, fun _ => ⟨v, hv⟩⟩, fun j u hj hf => ?_⟩
      · rw [hq'] at hf; cases hf
      · rcases fixX_get hc5 j hj with hx | hx
        · exact .inl ⟨hx, hq'⟩
        · right
          rcases hf with ⟨_, hf⟩ | hf
          · rw [hib] at hf; cases hf
          · exact freeF_holds hx hf
    · rw [Nat.zero_add] at hq he
      have hkeep : (listed.setIfInBounds i true).getD q true = listed.getD q true := by rw [getD_set hli, if_neg hq]
      have hs' : ∀ s, s ∈ o.looksAt ops → Seen l (facts (hideX X L)) ops o a w s := fun s hs => by
        have := hseen s hs
        unfold Seen at this ⊢
        cases hsrc : srcOf ops o s with
        | none => rw [hsrc] at this; exact this
        | some k =>
          rw [hsrc] at this
          obtain ⟨v, hv, hf⟩ := this
          exact ⟨v, hv, hide _ _ _ _ hf⟩
      rcases he a w h1 h2 hJ.1 hs' with ⟨hw, hwp⟩ | ⟨hw, hF⟩
      · refine .inl ⟨hw, wp_false_mono (fun a' w' hx => ?_) (fun _ _ _ h => h) hwp⟩
        obtain ⟨v, rfl, hF, hb⟩ := hx
        refine ⟨v, rfl, .inr hF, ⟨hJ.1.call hb, fun hf => (hJ.2.1 (hkeep ▸ hf)).call hb, fun hf => ?_⟩, fun j u _ hf => ?_⟩
        · obtain ⟨v1, hv1⟩ := hJ.2.2 (hkeep ▸ hf)
          exact ⟨v1, by
            have := facts_mono L q v1 w w' hb (by unfold facts; rw [hL]; exact hv1)
            unfold facts at this
            rw [hL] at this
            exact this⟩
        · rcases hf with ⟨h1, h2⟩ | hf
          · exact .inl ⟨h1, by rw [hkeep]; exact h2⟩
          · exact .inr (facts_mono L j u w w' hb hf)
      · refine .inr ⟨hw, .inr hF, ⟨hJ.1, fun hf => hJ.2.1 (hkeep ▸ hf), fun hf => hJ.2.2 (hkeep ▸ hf)⟩, fun j u _ hf => ?_⟩
        rcases hf with ⟨h1, h2⟩ | hf
        · exact .inl ⟨h1, by rw [hkeep]; exact h2⟩
        · exact .inr hf
  · unfold dstB at hc2
    rw [Array.all_eq_true_iff_forall_mem] at hc2
    have := hc2 o (Array.mem_of_getElem? hi)
    simp only [hd] at this
    exact Nat.le_of_ble_eq_true this
  · refine hend a w (hasNil h1 h2) (hJ.2.2 (hall q hqm)) (fun s v hv hf => h4 s v hv (fun j o hjm hj hd => ?_)) (fun j d hjm hj => ?_)
    · unfold freeB at hf
      have hmem : o ∈ ops.toList.take m := by
        refine List.mem_of_getElem? (i := j) ?_
        rw [List.getElem?_take, if_pos hjm]
        simpa using hj
      have := List.all_eq_true.mp hf o hmem
      simp [hd] at this
    · cases ho : ops[j]? with
      | none => simp [ho] at hj
      | some o =>
        obtain ⟨v, hv, hf⟩ := h5 j o d (Nat.le_of_ble_eq_true hjm) ho (by simpa [ho] using hj)
        exact ⟨v, hv, hide _ _ _ _ hf⟩
end
end Go.Proofs.Ytdcojinnjpihaaa.X
