/- A region whose order is drawn, behind which stand operations that wait for all others, at once or through others. No condition. -/
import Derived.Test.YtdcojinnjpihaaaXPanic
namespace Go.Proofs.Ytdcojinnjpihaaa.X
open Go Go.RowKit
def waitsT (ops : Array Oper) : Nat → Oper → Nat → Bool
  | 0, o, i => waits o i
  | f + 1, o, i => waits o i || (List.range ops.size).any fun k => waits o k && (match ops[k]? with
    | some ok => waitsT ops f ok i
    | none => false)

theorem waitsT_listed {ops : Array Oper} {listed : Array Bool} (h9 : ∀ (j : Nat) (o : Oper), ops[j]? = some o → listed.getD j true = true → ∀ m, m < ops.size → waits o m = true → listed.getD m true = true) :
    ∀ (f : Nat) (o : Oper) (i : Nat), i < ops.size → (∀ m, m < ops.size → waits o m = true → listed.getD m true = true) → waitsT ops f o i = true → listed.getD i true = true
  | 0, o, i, hi, hw, h => hw i hi h
  | f + 1, o, i, hi, hw, h => by
    unfold waitsT at h
    rcases Bool.or_eq_true_iff.mp h with h | h
    · exact hw i hi h
    · obtain ⟨k, hk, hb⟩ := List.any_eq_true.mp h
      have hk' := List.mem_range.mp hk
      simp only [Bool.and_eq_true] at hb
      obtain ⟨hb1, hb2⟩ := hb
      split at hb2
      · rename_i ok hok
        exact waitsT_listed h9 f ok i hi (h9 k ok hok (hw k hk' hb1)) hb2
      · cases hb2

theorem waitsT_lt {ops : Array Oper} (hchk : chkB ops = true) : ∀ (f j : Nat) (o : Oper) (i : Nat), ops[j]? = some o → waitsT ops f o i = true → i < j := by
  have one : ∀ (j : Nat) (o : Oper) (i : Nat), ops[j]? = some o → waits o i = true → i < j := by
    intro j o i ho h
    unfold waits at h
    obtain ⟨e, he, hb⟩ := Array.any_eq_true'.mp h
    simp only [Bool.and_eq_true] at hb
    have := (chkB_spec hchk ho).1 e he hb.1
    rw [Nat.eq_of_beq_eq_true hb.2] at this
    exact this
  intro f
  induction f with
  | zero => exact fun j o i ho h => one j o i ho h
  | succ f ih =>
    intro j o i ho h
    unfold waitsT at h
    rcases Bool.or_eq_true_iff.mp h with h | h
    · exact one j o i ho h
    · obtain ⟨k, _, hb⟩ := List.any_eq_true.mp h
      simp only [Bool.and_eq_true] at hb
      obtain ⟨hb1, hb2⟩ := hb
      split at hb2
      · rename_i ok hok
        have h1 := one j o k ho hb1
        have h2 := ih k ok i hok hb2
        omega
      · cases hb2

def chkT (m : Nat) (ops : Array Oper) : Bool := (List.range ops.size).all fun j => Nat.blt j m || (match ops[j]? with
  | none => true
  | some o => (List.range j).all fun i => waitsT ops 8 o i)

theorem chkT_spec {m : Nat} {ops : Array Oper} (h : chkT m ops = true) {j : Nat} {o : Oper} (hj : ops[j]? = some o) (hm : m ≤ j) : ∀ i, i < j → waitsT ops 8 o i = true := by
  have hlt : j < ops.size := (Array.getElem?_eq_some_iff.1 hj).1
  have h1 := List.all_eq_true.mp h j (List.mem_range.mpr hlt)
  simp only [hj, Bool.or_eq_true] at h1
  rcases h1 with h1 | h1
  · have := Nat.le_of_ble_eq_true h1; omega
  · intro i hi
    exact List.all_eq_true.mp h1 i (List.mem_range.mpr hi)

section
variable {P : Program} {n : Nat} {l : List (Nat × Value)} {F : Nat → Value → World → Prop} {ops : Array Oper} {w0 W : World} {bs : List (Nat × Obj)} {os : List OwnA} {a : Act} {Q : Exit → Act → World → Prop}
/-- The operations that wait for all that stand ahead of them: in the order of the text. -/
theorem tailT (hchk : chkB ops = true) {m : Nat} (hS : chkT m ops = true) : ∀ (r : Nat) (j : Nat) (listed : Array Bool) (a : Act) (w : World), m ≤ j → j + r = ops.size → listed.size = ops.size → (∀ i, i < j → listed.getD i true = true) → (∀ i, j ≤ i → i < ops.size → listed.getD i true = false) →
    wpList P ops Q (ops.toList.drop j) a w → wpAny P .any ops Q r listed a w := by
  intro r
  induction r with
  | zero =>
    intro j listed a w _ hr hs h1 h2 h
    have hj : j = ops.size := by omega
    subst hj
    rw [List.drop_of_length_le (by simp)] at h
    refine ⟨?_, h⟩
    unfold Region.ready
    refine List.filter_eq_nil_iff.mpr (fun k hk => ?_)
    rw [h1 k (List.mem_range.mp hk)]
    simp
  | succ r ih =>
    intro j listed a w hmj hr hs h1 h2 h
    have hj : j < ops.size := by omega
    obtain ⟨o, ho⟩ : ∃ o, ops[j]? = some o := ⟨ops[j], Array.getElem?_eq_some_iff.2 ⟨hj, rfl⟩⟩
    have hrd := ready_of hs ho hchk (h2 j (Nat.le_refl _) hj) h1
    refine ⟨fun hr' => absurd (hr' ▸ hrd) (by simp), fun i hi => ?_⟩
    have hi' := hi
    unfold Region.ready at hi'
    obtain ⟨hir, hic⟩ := List.mem_filter.mp hi'
    have hilt := List.mem_range.mp hir
    obtain ⟨oi, hoi⟩ : ∃ o, ops[i]? = some o := ⟨ops[i], Array.getElem?_eq_some_iff.2 ⟨hilt, rfl⟩⟩
    simp only [hoi, Option.map_some, Option.getD_some, Bool.and_eq_true] at hic
    obtain ⟨hib, hdeps⟩ := hic
    have hib' : listed.getD i true = false := by simpa using hib
    have hij : i = j := by
      rcases Nat.lt_trichotomy i j with hlt | heq | hgt
      · rw [h1 i hlt] at hib'; cases hib'
      · exact heq
      · have hw := chkT_spec hS hoi (by omega) j hgt
        have := waitsT_listed (listed := listed) (fun q oq hoq hq k hk hwk => by
          have hkq : k < q := waitsT_lt hchk 0 q oq k hoq hwk
          have hqj : q < j := by
            rcases Nat.lt_or_ge q j with h | h
            · exact h
            · rw [h2 q h (Array.getElem?_eq_some_iff.1 hoq).1] at hq; cases hq
          exact h1 k (by omega)) 8 oi j hj (fun k _ hk => listed_of_waits hdeps k hk) hw
        rw [h2 j (Nat.le_refl _) hj] at this
        cases this
    subst hij
    have hdrop : ops.toList.drop i = oi :: ops.toList.drop (i + 1) := by
      rw [List.drop_eq_getElem_cons (by simpa using hilt)]
      congr 1
      have := (Array.getElem?_eq_some_iff.1 hoi).2
      simpa using this
    rw [hdrop] at h
    have hli : i < listed.size := by omega
    have hnext : ∀ a' w', wpList P ops Q (ops.toList.drop (i + 1)) a' w' → wpAny P .any ops Q r (listed.setIfInBounds i true) a' w' := fun a' w' hh =>
      ih (i + 1) _ a' w' (by omega) (by omega) (by simpa using hs) (fun k hk => by
        rw [getD_set hli]
        split
        · rfl
        · exact h1 k (by omega)) (fun k hk hk2 => by
        rw [getD_set hli, if_neg (by omega)]
        exact h2 k (by omega) hk2) hh
    unfold wpOp
    unfold wpList at h
    simp only [hoi]
    split
    · rename_i hw
      rw [if_pos hw] at h
      rcases h with h | h
      · exact .inl (Oper.wp_mono hnext h)
      · exact .inr h
    · rename_i hw
      rw [if_neg hw] at h
      exact hnext _ _ h

theorem regionFT {id : Nat} (m : Nat) (hmz : m ≤ ops.size) (hS : chkT m ops = true) (hm : P.follows .mixedOrders = true) (hchk : chkB ops = true) (ha : Has n l a) (HW : Wd w0 W bs os)
    (hop : ∀ (i : Nat) (o : Oper), i < m → ops[i]? = some o → OpOk P n l F ops w0 bs os i o)
    (hmono : ∀ (j : Nat) (v : Value) (w w' : World), Below w.heap.size w w' → F j v w → F j v w')
    (hdst : ∀ (i : Nat) (o : Oper) (d : Nat), ops[i]? = some o → o.dst = some d → d < n)
    (hend : ∀ (a : Act) (w : World), a.tmps.size = n → a.defers = [] → Wd w0 w bs os → (∀ s v, look l s = some v → (∀ (j : Nat) (o : Oper), j < m → ops[j]? = some o → o.dst ≠ some s) → a.tmps[s]? = some v) →
      (∀ (j : Nat) (o : Oper) (d : Nat), j < m → ops[j]? = some o → o.dst = some d → ∃ v, a.tmps[d]? = some v ∧ F j v w) → wpList P ops Q (ops.toList.drop m) a w) : (Code.region id ops true).wp P Q a W := by
  refine wp_region_any hm ?_
  have key : ∀ (fuel : Nat) (listed : Array Bool) (a : Act) (w : World), listed.size = ops.size → (∀ j, m ≤ j → j < ops.size → listed.getD j true = false) → ((List.range m).filter fun i => !listed.getD i true).length = fuel → Inv n l F ops w0 bs os listed a w → wpAny P .any ops Q (fuel + (ops.size - m)) listed a w := by
    intro fuel
    induction fuel with
    | zero =>
      intro listed a w hs hnb hc hI
      have hnil := List.eq_nil_of_length_eq_zero hc
      have hall : ∀ j, j < m → listed.getD j true = true := by
        intro j hj
        cases hb : listed.getD j true with
        | true => rfl
        | false =>
          have : j ∈ (List.range m).filter fun i => !listed.getD i true := List.mem_filter.mpr ⟨List.mem_range.mpr hj, by rw [hb]; rfl⟩
          rw [hnil] at this
          cases this
      obtain ⟨h1, h2, h3, h4, h5, _⟩ := hI
      rw [Nat.zero_add]
      refine tailT hchk hS (ops.size - m) m listed a w (Nat.le_refl _) (by omega) hs hall hnb ?_
      refine hend a w h1 h2 h3 (fun s v hv hno => h4 s v hv (fun j o hj hd => ?_)) (fun j o d hjm hj hd => h5 j o d hj hd (hall j hjm))
      by_cases hjm : j < m
      · exact absurd hd (hno j o hjm hj)
      · exact hnb j (by omega) (Array.getElem?_eq_some_iff.1 hj).1
    | succ fuel ih =>
      intro listed a w hs hnb hc hI
      have hmin : ∃ j, j < m ∧ listed.getD j true = false ∧ ∀ k, k < j → listed.getD k true = true := by
        have hex : ∃ j, j < m ∧ listed.getD j true = false := by
          cases hf : (List.range m).filter fun i => !listed.getD i true with
          | nil => rw [hf] at hc; cases hc
          | cons j r =>
            have : j ∈ (List.range m).filter fun i => !listed.getD i true := by rw [hf]; exact List.mem_cons_self
            obtain ⟨h1, h2⟩ := List.mem_filter.mp this
            exact ⟨j, List.mem_range.mp h1, by simpa using h2⟩
        obtain ⟨j, hj, hb⟩ := hex
        induction j using Nat.strongRecOn with
        | _ j ihj =>
          by_cases hall : ∀ k, k < j → listed.getD k true = true
          · exact ⟨j, hj, hb, hall⟩
          · simp only [Classical.not_forall] at hall
            obtain ⟨k, hk, hkb⟩ := hall
            exact ihj k hk (by omega) (by simpa using hkb)
      obtain ⟨jm, hjm, hjb, hlow⟩ := hmin
      rw [show fuel + 1 + (ops.size - m) = fuel + (ops.size - m) + 1 by omega]
      refine ⟨fun hr => ?_, fun i hi => ?_⟩
      · exfalso
        obtain ⟨o, ho⟩ : ∃ o, ops[jm]? = some o := ⟨ops[jm]'(by omega), Array.getElem?_eq_some_iff.2 ⟨by omega, rfl⟩⟩
        have := ready_of hs ho hchk hjb hlow
        rw [hr] at this
        cases this
      · have hi' := hi
        unfold Region.ready at hi'
        obtain ⟨hir, hic⟩ := List.mem_filter.mp hi'
        have hilt := List.mem_range.mp hir
        obtain ⟨o, ho⟩ : ∃ o, ops[i]? = some o := ⟨ops[i], Array.getElem?_eq_some_iff.2 ⟨hilt, rfl⟩⟩
        simp only [ho, Option.map_some, Option.getD_some, Bool.and_eq_true] at hic
        obtain ⟨hib, hdeps⟩ := hic
        have hib' : listed.getD i true = false := by simpa using hib
        have hw : ∀ m, waits o m = true → listed.getD m true = true := fun k hk => listed_of_waits hdeps k hk
        have him : i < m := by
          rcases Nat.lt_or_ge i m with h | h
          · exact h
          · have := waitsT_listed (listed := listed) hI.2.2.2.2.2 8 o jm (by omega) (fun k _ hk => hw k hk) (chkT_spec hS ho h jm (by omega))
            rw [hjb] at this
            cases this
        obtain ⟨h1, h2, h3, h4, h5, h9⟩ := hI
        have hseen : ∀ s, s ∈ o.looksAt ops → Seen l F ops o a w s := by
          intro s hs'
          unfold Seen
          cases hsrc : srcOf ops o s with
          | some m =>
            unfold srcOf at hsrc
            have h6 := List.find?_some hsrc
            have h7 := List.mem_of_find?_eq_some hsrc
            simp only [Bool.and_eq_true] at h6
            obtain ⟨om, hom⟩ : ∃ om, ops[m]? = some om := ⟨ops[m]'(List.mem_range.mp h7), Array.getElem?_eq_some_iff.2 ⟨List.mem_range.mp h7, rfl⟩⟩
            simp only [hom, Option.bind_some] at h6
            cases hd : om.dst with
            | none => simp [hd] at h6
            | some d =>
              simp only [hd] at h6
              have hds : d = s := Nat.eq_of_beq_eq_true h6.2
              subst hds
              exact h5 m om d hom hd (hw m h6.1)
          | none =>
            intro v hv
            refine h4 s v hv (fun j oj hj hd => ?_)
            have h6 := ((chkB_spec hchk ho).2 j oj s hj hd).2 hs'
            have hjlt : j < ops.size := (Array.getElem?_eq_some_iff.1 hj).1
            rcases h6 with h6 | h6
            · exfalso
              unfold srcOf at hsrc
              have := List.find?_eq_none.mp hsrc j (List.mem_range.mpr hjlt)
              simp [h6, hj, hd] at this
            · -- it waits for i, which is not listed; so it is not listed itself
              cases hb : listed.getD j true with
              | false => rfl
              | true =>
                exfalso
                have h8 := h9 j oj hj hb i hilt h6
                rw [hib'] at h8
                cases h8
        have step : ∀ (v : Value) (w' : World), F i v w' → Below w.heap.size w w' → Inv n l F ops w0 bs os (listed.setIfInBounds i true) (a.put o.dst v) w' := by
          intro v w' hF hB
          have hli : i < listed.size := by omega
          refine ⟨?_, ?_, h3.call hB, ?_, ?_, ?_⟩
          · cases hd : o.dst with
            | none => exact h1
            | some d => simp [Act.put, h1]
          · cases hd : o.dst with
            | none => exact h2
            | some d => exact h2
          · intro s u hu hno
            have hns : o.dst ≠ some s := by
              intro hd
              have := hno i o ho hd
              rw [getD_set hli, if_pos rfl] at this
              cases this
            have hold := h4 s u hu (fun j oj hj hd => by
              have := hno j oj hj hd
              rw [getD_set hli] at this
              split at this
              · cases this
              · exact this)
            cases hd : o.dst with
            | none => exact hold
            | some d =>
              show (a.tmps.setIfInBounds d v)[s]? = some u
              rw [Array.getElem?_setIfInBounds, if_neg (fun e => hns (by rw [hd, e]))]
              exact hold
          · intro j oj d hj hd hb
            by_cases hij : i = j
            · subst hij
              rw [ho] at hj
              cases hj
              refine ⟨v, ?_, hF⟩
              rw [hd]
              show (a.tmps.setIfInBounds d v)[d]? = some v
              rw [Array.getElem?_setIfInBounds, if_pos rfl, if_pos (by rw [h1]; exact hdst i o d ho hd)]
            · rw [getD_set hli, if_neg hij] at hb
              obtain ⟨u, hu, hFu⟩ := h5 j oj d hj hd hb
              refine ⟨u, ?_, hmono j u w w' hB hFu⟩
              have hne := ((chkB_spec hchk ho).2 j oj d hj hd).1 hij
              cases hdo : o.dst with
              | none => exact hu
              | some d' =>
                show (a.tmps.setIfInBounds d' v)[d]? = some u
                rw [Array.getElem?_setIfInBounds, if_neg (fun e => hne (by rw [hdo, e]))]
                exact hu
          · intro j oj hj hb m hm hwm
            rw [getD_set hli]
            split
            · rfl
            · by_cases hij : i = j
              · subst hij
                rw [ho] at hj
                cases hj
                exact hw m hwm
              · rw [getD_set hli, if_neg hij] at hb
                exact h9 j oj hj hb m hm hwm
        have hcount : ((List.range m).filter fun k => !(listed.setIfInBounds i true).getD k true).length = fuel := by
          have hli : i < listed.size := by omega
          have e1 : ((List.range m).filter fun k => !(listed.setIfInBounds i true).getD k true) = ((List.range m).filter fun k => !listed.getD k true).erase i := by
            rw [List.Nodup.erase_eq_filter (List.nodup_range.sublist List.filter_sublist), List.filter_filter]
            refine List.filter_congr (fun k _ => ?_)
            rw [getD_set hli]
            by_cases hik : i = k
            · subst hik; simp
            · have : ¬ k = i := fun e => hik e.symm
              simp [hik, this]
          rw [e1, List.length_erase_of_mem (List.mem_filter.mpr ⟨List.mem_range.mpr him, by rw [hib']; rfl⟩), hc]
          rfl
        have hnb' : ∀ j, m ≤ j → j < ops.size → (listed.setIfInBounds i true).getD j true = false := by
          intro j hj1 hj2
          rw [getD_set (by omega), if_neg (by omega)]
          exact hnb j hj1 hj2
        have rec_ : ∀ (v : Value) (w' : World), F i v w' → Below w.heap.size w w' → wpAny P .any ops Q (fuel + (ops.size - m)) (listed.setIfInBounds i true) (a.put o.dst v) w' :=
          fun v w' hF hB => ih _ _ _ (by simpa using hs) hnb' hcount (step v w' hF hB)
        unfold wpOp
        simp only [ho]
        rcases hop i o him ho a w h1 h2 h3 hseen with ⟨hwt, hwp⟩ | ⟨hwf, hF⟩
        · rw [if_pos hwt]
          refine .inl (wp_false_mono (fun a' w' hx => ?_) (fun _ _ _ h => h) hwp)
          obtain ⟨v, rfl, hF, hB⟩ := hx
          exact rec_ v w' hF hB
        · rw [if_neg (by rw [hwf]; simp)]
          exact rec_ undef w hF (Below.refl _ _)
  have hsz : m + (ops.size - m) = ops.size := by omega
  rw [← hsz]
  have h0 : ∀ j, j < ops.size → (Array.replicate ops.size false).getD j true = false := fun j hj => by simp [hj]
  rw [hsz]
  have := key m (Array.replicate ops.size false) a { W with drawn := W.drawn + 1 } (by simp) (fun j _ hj => h0 j hj) ?_ ⟨ha.size, ha.defers, HW.drew _, fun s v hv _ => ha.slot s v hv, ?_, ?_⟩
  · rwa [hsz] at this
  · have : (List.range m).filter (fun i => !(Array.replicate ops.size false).getD i true) = List.range m := by
      refine List.filter_eq_self.mpr (fun i hi => ?_)
      rw [h0 i (by have := List.mem_range.mp hi; omega)]
      rfl
    rw [this, List.length_range]
  · intro j o d hj _ hb
    rw [h0 j (Array.getElem?_eq_some_iff.1 hj).1] at hb
    cases hb
  · intro j o hj hb
    rw [h0 j (Array.getElem?_eq_some_iff.1 hj).1] at hb
    cases hb
end

section
variable {P : Program} {n : Nat} {l : List (Nat × Value)} {ops : Array Oper} {w0 W : World} {bs : List (Nat × Obj)} {os : List OwnA} {a : Act} {Q : Exit → Act → World → Prop} {L : List Fact}
theorem regionGT {id : Nat} (m : Nat) (hm : P.follows .mixedOrders = true) (hchk : (chkB ops && dstB n ops && Nat.ble m ops.size && chkT m ops) = true) (ha : Has n l a) (HW : Wd w0 W bs os) (L : List Fact)
    (hop : OpsOk P n l L ops w0 bs os 0 (ops.toList.take m))
    (hend : ∀ (a : Act) (w : World), Has n [] a → Wd w0 w bs os → (∀ s v, look l s = some v → freeB m ops s = true → a.tmps[s]? = some v) →
      (∀ (j d : Nat), Nat.blt j m = true → (ops[j]?).bind (·.dst) = some d → ∃ v, a.tmps[d]? = some v ∧ facts L j v w) → wpList P ops Q (ops.toList.drop m) a w) : (Code.region id ops true).wp P Q a W := by
  simp only [Bool.and_eq_true] at hchk
  obtain ⟨⟨⟨hc1, hc2⟩, hc3⟩, hc4⟩ := hchk
  have hmz := Nat.le_of_ble_eq_true hc3
  refine regionFT (F := facts L) m hmz hc4 hm hc1 ha HW (fun i o him hi => ?_) (facts_mono L) (fun i o d hi hd => ?_) (fun a w h1 h2 h3 h4 h5 => ?_)
  · have := OpsOk.get (ops.toList.take m) 0 hop i o (by rw [List.getElem?_take, if_pos him]; simpa using hi)
    rwa [Nat.zero_add] at this
  · unfold dstB at hc2
    rw [Array.all_eq_true_iff_forall_mem] at hc2
    have := hc2 o (Array.mem_of_getElem? hi)
    simp only [hd] at this
    exact Nat.le_of_ble_eq_true this
  · refine hend a w (hasNil h1 h2) h3 (fun s v hv hf => h4 s v hv (fun j o hjm hj hd => ?_)) (fun j d hjm hj => ?_)
    · unfold freeB at hf
      have hmem : o ∈ ops.toList.take m := by
        refine List.mem_of_getElem? (i := j) ?_
        rw [List.getElem?_take, if_pos hjm]
        simpa using hj
      have := List.all_eq_true.mp hf o hmem
      simp [hd] at this
    · cases ho : ops[j]? with
      | none => simp [ho] at hj
      | some o => exact h5 j o d (Nat.le_of_ble_eq_true hjm) ho (by simpa [ho] using hj)

end

section
variable {K : Act → World → Prop} {Q : Exit → Act → World → Prop} {c : List PanicEntry} {a : Act} {W : World}
/-- A panic leaves what stands around it. -/
theorem thenP (h : Q (.panic c) a W) : Exit.then K Q (.panic c) a W := h
theorem blkP {id : Nat} (h : Q (.panic c) a W) : Exit.inBlock id Q (.panic c) a W := h
/-- A panic leaves the function. -/
theorem finP {P : Program} {fn : Func} {R : Ending → World → Prop} {n : Nat} {l : List (Nat × Value)} (ha : Has n l a) (h : R (.panicked c) W) : bodyPost P fn R (.panic c) a W := ⟨ha.defers, h⟩
end
end Go.Proofs.Ytdcojinnjpihaaa.X
