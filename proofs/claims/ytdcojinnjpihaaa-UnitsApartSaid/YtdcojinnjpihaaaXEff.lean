/- A region whose order is drawn, in which one operation changes what is told (an append to a row of one's own, a call); what the others read stays. No condition. -/
import Derived.Test.YtdcojinnjpihaaaXPan2
namespace Go.Proofs.Ytdcojinnjpihaaa.X
open Go Go.RowKit

section
variable (P : Program) (n : Nat) (l : List (Nat × Value)) (F : Nat → Value → World → Prop) (ops : Array Oper) (J : Array Bool → World → Prop)
def OpJT (i : Nat) (o : Oper) : Prop := ∀ (a : Act) (w : World) (listed : Array Bool), listed.size = ops.size → listed.getD i true = false → (∀ m, waits o m = true → listed.getD m true = true) →
  (∀ (j : Nat) (oj : Oper), ops[j]? = some oj → listed.getD j true = true → ∀ m, m < ops.size → waits oj m = true → listed.getD m true = true) → a.tmps.size = n → a.defers = [] → J listed w → (∀ s, s ∈ o.looksAt ops → Seen l F ops o a w s) →
  (Region.wanted o (yielded ops a.tmps) = true ∧ o.wp P a w (fun a' w' => ∃ v, a' = a.put o.dst v ∧ F i v w' ∧ J (listed.setIfInBounds i true) w' ∧ ∀ j u, j ≠ i → F j u w → F j u w') (fun _ _ _ => False)) ∨
  (Region.wanted o (yielded ops a.tmps) = false ∧ F i undef w ∧ J (listed.setIfInBounds i true) w)
end

section
variable {P : Program} {n : Nat} {l : List (Nat × Value)} {F : Nat → Value → World → Prop} {ops : Array Oper} {W : World} {a : Act} {Q : Exit → Act → World → Prop}
theorem regionJT {id : Nat} (J : Array Bool → World → Prop) (m : Nat) (hmz : m ≤ ops.size) (hS : chkT m ops = true) (hm : P.follows .mixedOrders = true) (hchk : chkB ops = true) (ha : Has n l a) (HJ : ∀ k, J (Array.replicate ops.size false) { W with drawn := k })
    (hop : ∀ (i : Nat) (o : Oper), i < m → ops[i]? = some o → OpJT P n l F ops J i o)
    (hdst : ∀ (i : Nat) (o : Oper) (d : Nat), ops[i]? = some o → o.dst = some d → d < n)
    (hend : ∀ (a : Act) (w : World), a.tmps.size = n → a.defers = [] → (∃ listed : Array Bool, listed.size = ops.size ∧ (∀ j, j < m → listed.getD j true = true) ∧ J listed w) → (∀ s v, look l s = some v → (∀ (j : Nat) (o : Oper), j < m → ops[j]? = some o → o.dst ≠ some s) → a.tmps[s]? = some v) →
      (∀ (j : Nat) (o : Oper) (d : Nat), j < m → ops[j]? = some o → o.dst = some d → ∃ v, a.tmps[d]? = some v ∧ F j v w) → wpList P ops Q (ops.toList.drop m) a w) : (Code.region id ops true).wp P Q a W := by
  refine wp_region_any hm ?_
  have key : ∀ (fuel : Nat) (listed : Array Bool) (a : Act) (w : World), listed.size = ops.size → (∀ j, m ≤ j → j < ops.size → listed.getD j true = false) → ((List.range m).filter fun i => !listed.getD i true).length = fuel → InvJ n l F ops J listed a w → wpAny P .any ops Q (fuel + (ops.size - m)) listed a w := by
    intro fuel
    induction fuel with
    | zero =>
      intro listed a w hs hnb hc hI
      have hnil := List.eq_nil_of_length_eq_zero hc
      have hall : ∀ j, j < m → listed.getD j true = true := by
        intro j hj
        cases hb : listed.getD j true with
        | true => rfl
        | false =>
          have : j ∈ (List.range m).filter fun i => !listed.getD i true := List.mem_filter.mpr ⟨List.mem_range.mpr hj, by rw [hb]; rfl⟩
          rw [hnil] at this
          cases this
      obtain ⟨h1, h2, h3, h4, h5, _⟩ := hI
      rw [Nat.zero_add]
      refine tailT hchk hS (ops.size - m) m listed a w (Nat.le_refl _) (by omega) hs hall hnb ?_
      refine hend a w h1 h2 ⟨listed, hs, hall, h3⟩ (fun s v hv hno => h4 s v hv (fun j o hj hd => ?_)) (fun j o d hjm hj hd => h5 j o d hj hd (hall j hjm))
      by_cases hjm : j < m
      · exact absurd hd (hno j o hjm hj)
      · exact hnb j (by omega) (Array.getElem?_eq_some_iff.1 hj).1
    | succ fuel ih =>
      intro listed a w hs hnb hc hI
      have hmin : ∃ j, j < m ∧ listed.getD j true = false ∧ ∀ k, k < j → listed.getD k true = true := by
        have hex : ∃ j, j < m ∧ listed.getD j true = false := by
          cases hf : (List.range m).filter fun i => !listed.getD i true with
          | nil => rw [hf] at hc; cases hc
          | cons j r =>
            have : j ∈ (List.range m).filter fun i => !listed.getD i true := by rw [hf]; exact List.mem_cons_self
            obtain ⟨h1, h2⟩ := List.mem_filter.mp this
            exact ⟨j, List.mem_range.mp h1, by simpa using h2⟩
        obtain ⟨j, hj, hb⟩ := hex
        induction j using Nat.strongRecOn with
        | _ j ihj =>
          by_cases hall : ∀ k, k < j → listed.getD k true = true
          · exact ⟨j, hj, hb, hall⟩
          · simp only [Classical.not_forall] at hall
            obtain ⟨k, hk, hkb⟩ := hall
            exact ihj k hk (by omega) (by simpa using hkb)
      obtain ⟨jm, hjm, hjb, hlow⟩ := hmin
      rw [show fuel + 1 + (ops.size - m) = fuel + (ops.size - m) + 1 by omega]
      refine ⟨fun hr => ?_, fun i hi => ?_⟩
      · exfalso
        obtain ⟨o, ho⟩ : ∃ o, ops[jm]? = some o := ⟨ops[jm]'(by omega), Array.getElem?_eq_some_iff.2 ⟨by omega, rfl⟩⟩
        have := ready_of hs ho hchk hjb hlow
        rw [hr] at this
        cases this
      · have hi' := hi
        unfold Region.ready at hi'
        obtain ⟨hir, hic⟩ := List.mem_filter.mp hi'
        have hilt := List.mem_range.mp hir
        obtain ⟨o, ho⟩ : ∃ o, ops[i]? = some o := ⟨ops[i], Array.getElem?_eq_some_iff.2 ⟨hilt, rfl⟩⟩
        simp only [ho, Option.map_some, Option.getD_some, Bool.and_eq_true] at hic
        obtain ⟨hib, hdeps⟩ := hic
        have hib' : listed.getD i true = false := by simpa using hib
        have hw : ∀ m, waits o m = true → listed.getD m true = true := fun k hk => listed_of_waits hdeps k hk
        have him : i < m := by
          rcases Nat.lt_or_ge i m with h | h
          · exact h
          · have := waitsT_listed (listed := listed) hI.2.2.2.2.2 8 o jm (by omega) (fun k _ hk => hw k hk) (chkT_spec hS ho h jm (by omega))
            rw [hjb] at this
            cases this
        obtain ⟨h1, h2, h3, h4, h5, h9⟩ := hI
        have hseen : ∀ s, s ∈ o.looksAt ops → Seen l F ops o a w s := by
          intro s hs'
          unfold Seen
          cases hsrc : srcOf ops o s with
          | some m =>
            unfold srcOf at hsrc
            have h6 := List.find?_some hsrc
            have h7 := List.mem_of_find?_eq_some hsrc
            simp only [Bool.and_eq_true] at h6
            obtain ⟨om, hom⟩ : ∃ om, ops[m]? = some om := ⟨ops[m]'(List.mem_range.mp h7), Array.getElem?_eq_some_iff.2 ⟨List.mem_range.mp h7, rfl⟩⟩
            simp only [hom, Option.bind_some] at h6
            cases hd : om.dst with
            | none => simp [hd] at h6
            | some d =>
              simp only [hd] at h6
              have hds : d = s := Nat.eq_of_beq_eq_true h6.2
              subst hds
              exact h5 m om d hom hd (hw m h6.1)
          | none =>
            intro v hv
            refine h4 s v hv (fun j oj hj hd => ?_)
            have h6 := ((chkB_spec hchk ho).2 j oj s hj hd).2 hs'
            have hjlt : j < ops.size := (Array.getElem?_eq_some_iff.1 hj).1
            rcases h6 with h6 | h6
            · exfalso
              unfold srcOf at hsrc
              have := List.find?_eq_none.mp hsrc j (List.mem_range.mpr hjlt)
              simp [h6, hj, hd] at this
            · -- it waits for i, which is not listed; so it is not listed itself
              cases hb : listed.getD j true with
              | false => rfl
              | true =>
                exfalso
                have h8 := h9 j oj hj hb i hilt h6
                rw [hib'] at h8
                cases h8
        have step : ∀ (v : Value) (w' : World), F i v w' → J (listed.setIfInBounds i true) w' → (∀ j u, j ≠ i → F j u w → F j u w') → InvJ n l F ops J (listed.setIfInBounds i true) (a.put o.dst v) w' := by
          intro v w' hF hB hM
          have hli : i < listed.size := by omega
          refine ⟨?_, ?_, ?_, ?_, ?_, ?_⟩
          · cases hd : o.dst with
            | none => exact h1
            | some d => simp [Act.put, h1]
          · cases hd : o.dst with
            | none => exact h2
            | some d => exact h2
          · exact hB
          · intro s u hu hno
            have hns : o.dst ≠ some s := by
              intro hd
              have := hno i o ho hd
              rw [getD_set hli, if_pos rfl] at this
              cases this
            have hold := h4 s u hu (fun j oj hj hd => by
              have := hno j oj hj hd
              rw [getD_set hli] at this
              split at this
              · cases this
              · exact this)
            cases hd : o.dst with
            | none => exact hold
            | some d =>
              show (a.tmps.setIfInBounds d v)[s]? = some u
              rw [Array.getElem?_setIfInBounds, if_neg (fun e => hns (by rw [hd, e]))]
              exact hold
          · intro j oj d hj hd hb
            by_cases hij : i = j
            · subst hij
              rw [ho] at hj
              cases hj
              refine ⟨v, ?_, hF⟩
              rw [hd]
              show (a.tmps.setIfInBounds d v)[d]? = some v
              rw [Array.getElem?_setIfInBounds, if_pos rfl, if_pos (by rw [h1]; exact hdst i o d ho hd)]
            · rw [getD_set hli, if_neg hij] at hb
              obtain ⟨u, hu, hFu⟩ := h5 j oj d hj hd hb
              refine ⟨u, ?_, hM j u (fun e => hij e.symm) hFu⟩
              have hne := ((chkB_spec hchk ho).2 j oj d hj hd).1 hij
              cases hdo : o.dst with
              | none => exact hu
              | some d' =>
                show (a.tmps.setIfInBounds d' v)[d]? = some u
                rw [Array.getElem?_setIfInBounds, if_neg (fun e => hne (by rw [hdo, e]))]
                exact hu
          · intro j oj hj hb m hm hwm
            rw [getD_set hli]
            split
            · rfl
            · by_cases hij : i = j
              · subst hij
                rw [ho] at hj
                cases hj
                exact hw m hwm
              · rw [getD_set hli, if_neg hij] at hb
                exact h9 j oj hj hb m hm hwm
        have hcount : ((List.range m).filter fun k => !(listed.setIfInBounds i true).getD k true).length = fuel := by
          have hli : i < listed.size := by omega
          have e1 : ((List.range m).filter fun k => !(listed.setIfInBounds i true).getD k true) = ((List.range m).filter fun k => !listed.getD k true).erase i := by
            rw [List.Nodup.erase_eq_filter (List.nodup_range.sublist List.filter_sublist), List.filter_filter]
            refine List.filter_congr (fun k _ => ?_)
            rw [getD_set hli]
            by_cases hik : i = k
            · subst hik; simp
            · have : ¬ k = i := fun e => hik e.symm
              simp [hik, this]
          rw [e1, List.length_erase_of_mem (List.mem_filter.mpr ⟨List.mem_range.mpr him, by rw [hib']; rfl⟩), hc]
          rfl
        have hnb' : ∀ j, m ≤ j → j < ops.size → (listed.setIfInBounds i true).getD j true = false := by
          intro j hj1 hj2
          rw [getD_set (by omega), if_neg (by omega)]
          exact hnb j hj1 hj2
        have rec_ : ∀ (v : Value) (w' : World), F i v w' → J (listed.setIfInBounds i true) w' → (∀ j u, j ≠ i → F j u w → F j u w') → wpAny P .any ops Q (fuel + (ops.size - m)) (listed.setIfInBounds i true) (a.put o.dst v) w' :=
          fun v w' hF hB hM => ih _ _ _ (by simpa using hs) hnb' hcount (step v w' hF hB hM)
        unfold wpOp
        simp only [ho]
        rcases hop i o him ho a w listed hs hib' hw h9 h1 h2 h3 hseen with ⟨hwt, hwp⟩ | ⟨hwf, hF, hB⟩
        · rw [if_pos hwt]
          refine .inl (wp_false_mono (fun a' w' hx => ?_) (fun _ _ _ h => h) hwp)
          obtain ⟨v, rfl, hF, hB, hM⟩ := hx
          exact rec_ v w' hF hB hM
        · rw [if_neg (by rw [hwf]; simp)]
          exact rec_ undef w hF hB (fun _ _ _ h => h)
  have hsz : m + (ops.size - m) = ops.size := by omega
  rw [← hsz]
  have h0 : ∀ j, j < ops.size → (Array.replicate ops.size false).getD j true = false := fun j hj => by simp [hj]
  rw [hsz]
  have := key m (Array.replicate ops.size false) a { W with drawn := W.drawn + 1 } (by simp) (fun j _ hj => h0 j hj) ?_ ⟨ha.size, ha.defers, HJ _, fun s v hv _ => ha.slot s v hv, ?_, ?_⟩
  · rwa [hsz] at this
  · have : (List.range m).filter (fun i => !(Array.replicate ops.size false).getD i true) = List.range m := by
      refine List.filter_eq_self.mpr (fun i hi => ?_)
      rw [h0 i (by have := List.mem_range.mp hi; omega)]
      rfl
    rw [this, List.length_range]
  · intro j o d hj _ hb
    rw [h0 j (Array.getElem?_eq_some_iff.1 hj).1] at hb
    cases hb
  · intro j o hj hb
    rw [h0 j (Array.getElem?_eq_some_iff.1 hj).1] at hb
    cases hb
end

def fixQ (q : Nat) : Nat → List Fact → Bool
  | _, [] => true
  | i, f :: r => (Nat.beq i q || match f with
    | .fix _ => true
    | .any => true
    | _ => false) && fixQ q (i + 1) r

theorem fixQ_get {q : Nat} : ∀ (L : List Fact) (i : Nat), fixQ q i L = true → ∀ j, i + j ≠ q → (∃ u, L.getD j .any = .fix u) ∨ L.getD j .any = .any
  | [], i, _, j, _ => .inr (by simp)
  | f :: r, i, h, 0, hj => by
    simp only [fixQ, Bool.and_eq_true] at h
    have h1 := h.1
    have hb : Nat.beq i q = false := by
      cases hb : Nat.beq i q with
      | false => rfl
      | true => exact absurd (Nat.eq_of_beq_eq_true hb) (by simpa using hj)
    rw [hb, Bool.false_or] at h1
    cases f with
    | fix u => exact .inl ⟨u, rfl⟩
    | any => exact .inr rfl
    | rd => cases h1
    | blk => cases h1
    | lit => cases h1
    | ptr => cases h1
    | pr => cases h1
    | wd => cases h1
  | f :: r, i, h, j + 1, hj => by
    simp only [fixQ, Bool.and_eq_true] at h
    have := fixQ_get r (i + 1) h.2 j (by omega)
    simpa using this

def EffOk (P : Program) (n : Nat) (l : List (Nat × Value)) (L : List Fact) (ops : Array Oper) (w0 : World) (S : Sta) (f : Fact) (o : Oper) : Prop :=
  ∀ (a : Act) (w : World), a.tmps.size = n → a.defers = [] → Wd w0 w S.1 S.2 → (∀ s, s ∈ o.looksAt ops → Seen l (facts L) ops o a w s) →
  Region.wanted o (yielded ops a.tmps) = true ∧ o.wp P a w (fun a' w' => ∃ v, a' = a.put o.dst v ∧ f.holds v w') (fun _ _ _ => False)

def OpsOkA (P : Program) (n : Nat) (l : List (Nat × Value)) (L : List Fact) (ops : Array Oper) (w0 : World) (C S : Sta) (q : Nat) (f : Fact) : Nat → List Oper → Prop
  | _, [] => True
  | i, o :: r => (match Nat.beq i q with
    | true => EffOk P n l L ops w0 S f o
    | false => OpOk P n l (facts L) ops w0 C.1 C.2 i o) ∧ OpsOkA P n l L ops w0 C S q f (i + 1) r

theorem OpsOkA.get {P : Program} {n : Nat} {l : List (Nat × Value)} {L : List Fact} {ops : Array Oper} {w0 : World} {C S : Sta} {q : Nat} {f : Fact} : ∀ (r : List Oper) (i : Nat), OpsOkA P n l L ops w0 C S q f i r → ∀ (j : Nat) (o : Oper), r[j]? = some o →
    (i + j = q ∧ EffOk P n l L ops w0 S f o) ∨ (i + j ≠ q ∧ OpOk P n l (facts L) ops w0 C.1 C.2 (i + j) o)
  | [], _, _, j, o, h => by simp at h
  | x :: r, i, hx, 0, o, h => by
    simp only [List.getElem?_cons_zero, Option.some.injEq] at h
    subst h
    have h1 := hx.1
    cases hb : Nat.beq i q with
    | true => rw [hb] at h1; exact .inl ⟨Nat.eq_of_beq_eq_true hb, h1⟩
    | false => rw [hb] at h1; exact .inr ⟨fun e => Nat.ne_of_beq_eq_false hb e, h1⟩
  | x :: r, i, hx, j + 1, o, h => by
    have := OpsOkA.get r (i + 1) hx.2 j o (by simpa using h)
    rw [show i + (j + 1) = i + 1 + j by omega]
    exact this

section
variable {P : Program} {n : Nat} {l : List (Nat × Value)} {ops : Array Oper} {w0 W : World} {a : Act} {Q : Exit → Act → World → Prop}
theorem regionA {id : Nat} (m q : Nat) (hm : P.follows .mixedOrders = true) (L : List Fact) (hchk : (chkB ops && dstB n ops && Nat.ble m ops.size && chkT m ops && fixQ q 0 L) = true) (C S : Sta) (ha : Has n l a) (HW : Wd w0 W S.1 S.2) (f : Fact) (hL : L.getD q .any = f)
    (hC : ∀ w, Wd w0 w S.1 S.2 → Wd w0 w C.1 C.2) (hC2 : ∀ v w, f.holds v w → Wd w0 w C.1 C.2)
    (hop : OpsOkA P n l L ops w0 C S q f 0 (ops.toList.take m))
    (hend : ∀ (a : Act) (w : World), Has n [] a → (∀ s v, look l s = some v → freeB m ops s = true → a.tmps[s]? = some v) →
      (∀ (j d : Nat), Nat.blt j m = true → (ops[j]?).bind (·.dst) = some d → ∃ v, a.tmps[d]? = some v ∧ facts L j v w) → wpList P ops Q (ops.toList.drop m) a w) : (Code.region id ops true).wp P Q a W := by
  simp only [Bool.and_eq_true] at hchk
  obtain ⟨⟨⟨⟨hc1, hc2⟩, hc3⟩, hc4⟩, hc5⟩ := hchk
  have hmz := Nat.le_of_ble_eq_true hc3
  refine regionJT (F := facts L) (fun listed w => Wd w0 w C.1 C.2 ∧ (listed.getD q true = false → Wd w0 w S.1 S.2)) m hmz hc4 hm hc1 ha (fun k => ⟨hC _ (HW.drew k), fun _ => HW.drew k⟩) (fun i o him hi => ?_) (fun i o d hi hd => ?_) (fun a w h1 h2 _ h4 h5 => ?_)
  · intro a w listed hsz hib hws _ h1 h2 hJ hseen
    have hli : i < listed.size := by rw [hsz]; exact (Array.getElem?_eq_some_iff.1 hi).1
    rcases OpsOkA.get (ops.toList.take m) 0 hop i o (by rw [List.getElem?_take, if_pos him]; simpa using hi) with ⟨hq, he⟩ | ⟨hq, he⟩
    · rw [Nat.zero_add] at hq
      subst hq
      obtain ⟨hw, hwp⟩ := he a w h1 h2 (hJ.2 hib) hseen
      refine .inl ⟨hw, wp_false_mono (fun a' w' hx => ?_) (fun _ _ _ h => h) hwp⟩
      obtain ⟨v, rfl, hv⟩ := hx
      refine ⟨v, rfl, by unfold facts; rw [hL]; exact hv, ⟨hC2 v w' hv, fun hf => ?_⟩, fun j u hj hf => ?_⟩
      · rw [getD_set hli, if_pos rfl] at hf
        cases hf
      · unfold facts at *
        rcases fixQ_get L 0 hc5 j (by omega) with ⟨u', e⟩ | e
        · rw [e] at hf ⊢; exact hf
        · rw [e]; trivial
    · rw [Nat.zero_add] at hq he
      rcases he a w h1 h2 hJ.1 hseen with ⟨hw, hwp⟩ | ⟨hw, hF⟩
      · refine .inl ⟨hw, wp_false_mono (fun a' w' hx => ?_) (fun _ _ _ h => h) hwp⟩
        obtain ⟨v, rfl, hF, hb⟩ := hx
        refine ⟨v, rfl, hF, ⟨hJ.1.call hb, fun hf => ?_⟩, fun j u _ hf => facts_mono L j u w w' hb hf⟩
        rw [getD_set hli, if_neg hq] at hf
        exact (hJ.2 hf).call hb
      · refine .inr ⟨hw, hF, ⟨hJ.1, fun hf => ?_⟩⟩
        rw [getD_set hli, if_neg hq] at hf
        exact hJ.2 hf
  · unfold dstB at hc2
    rw [Array.all_eq_true_iff_forall_mem] at hc2
    have := hc2 o (Array.mem_of_getElem? hi)
    simp only [hd] at this
    exact Nat.le_of_ble_eq_true this
  · refine hend a w (hasNil h1 h2) (fun s v hv hf => h4 s v hv (fun j o hjm hj hd => ?_)) (fun j d hjm hj => ?_)
    · unfold freeB at hf
      have hmem : o ∈ ops.toList.take m := by
        refine List.mem_of_getElem? (i := j) ?_
        rw [List.getElem?_take, if_pos hjm]
        simpa using hj
      have := List.all_eq_true.mp hf o hmem
      simp [hd] at this
    · cases ho : ops[j]? with
      | none => simp [ho] at hj
      | some o => exact h5 j o d (Nat.le_of_ble_eq_true hjm) ho (by simpa [ho] using hj)

def YA (a : Act) (d : Nat) (G : Value → World → Prop) : Exit → Act → World → Prop := fun e a' w' => e = .normal ∧ ∃ v, a' = a.put (some d) v ∧ G v w'
variable {o : Oper} {w : World} {E : List (Nat × Value)} {G : Value → World → Prop}
theorem yStepA (ha : Has n E a) (d : Nat) (hok : okB n E ops o d = true)
    (h : ∀ l, Has n (E ++ l) a → (∀ a' v w', Has n ((d, v) :: (E ++ l)) a' → G v w' → wpList P ops (YA a d G) [] a' w') → wpList P ops (YA a d G) [o] a w) :
    Region.wanted o (yielded ops a.tmps) = true ∧ o.wp P a w (fun a' w' => ∃ v, a' = a.put o.dst v ∧ G v w') (fun _ _ _ => False) := by
  obtain ⟨h1, h2, h3, h4⟩ := okB_spec hok
  have hw := ha.on ops o h2
  have key := h (fullL n a) ha.full (fun a' v w' ha' hg => by
    refine ⟨rfl, v, ?_, hg⟩
    have he : a'.tmps = (a.put (some d) v).tmps := by
      apply Array.ext_getElem?
      intro i
      show a'.tmps[i]? = (a.tmps.setIfInBounds d v)[i]?
      by_cases hi : i < n
      · rw [Array.getElem?_setIfInBounds]
        by_cases hid : d = i
        · subst hid
          rw [if_pos rfl, if_pos (by rw [ha.size]; exact h3)]
          exact ha'.slot d v (by simp [look])
        · rw [if_neg hid]
          have hl : ∃ u, look (E ++ fullL n a) i = some u := by
            rw [look_append, look_full, if_pos hi]
            cases look E i <;> simp
          obtain ⟨u, hu⟩ := hl
          have e1 := ha.full.slot i u hu
          have e2 := ha'.slot i u (by
            simp only [look]
            cases hb : Nat.beq d i with
            | true => exact absurd (Nat.eq_of_beq_eq_true hb) hid
            | false => exact hu)
          rw [e1, e2]
      · rw [Array.getElem?_eq_none (by rw [ha'.size]; omega), Array.getElem?_eq_none (by rw [Array.size_setIfInBounds, ha.size]; omega)]
    have hd' : a'.defers = (a.put (some d) v).defers := ha'.defers.trans ha.defers.symm
    cases a'
    simp only at he hd'
    show Act.mk _ _ = Act.mk _ _
    rw [he, hd']
    rfl)
  unfold wpList at key
  rw [if_pos hw] at key
  rcases key with key | ⟨_, a1, w1, hq⟩
  · refine ⟨hw, ?_⟩
    refine wp_false_mono' (fun a' w' hx => ?_) (fun e a' w' hne hq => ?_) key
    · obtain ⟨_, v, h5, h6⟩ := hx
      exact ⟨v, by rw [h4]; exact h5, h6⟩
    · exact hne hq.1
  · cases hq.1

end
end Go.Proofs.Ytdcojinnjpihaaa.X
