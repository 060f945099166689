/- A region whose order is drawn, and at whose end something is stored: what does not look at what is stored may come ahead of the store or behind it. No condition. -/
import Derived.Test.YtdcojinnjpihaaaXDraw
import Derived.Test.YtdcojinnjpihaaaXEq
import Derived.ArgAppend
import Derived.Deep.Upon
namespace Go.Proofs.Ytdcojinnjpihaaa.X
open Go Go.RowKit
section
variable {P : Program} {n : Nat} {l : List (Nat × Value)} {a : Act} {ops : Array Oper} {o : Oper} {rest : List Oper} {Q : Exit → Act → World → Prop} {W : World}
theorem oneCells_encs {α : Type} {enc : α → List Value} (h1 : ∀ x, oneCells (enc x) = true) (ys : List α) : oneCells (encs enc ys) = true := by
  unfold oneCells encs
  rw [List.all_eq_true]
  intro u hu
  obtain ⟨y, _, hy⟩ := List.mem_flatMap.mp hu
  exact List.all_eq_true.mp (h1 y) u hy
/-- An append of what is read elsewhere to a new slice without elements. -/
theorem stepapl (ha : Has n l a) (d t e : Nat) (x y : Operand) (z : Value) (sz bytes b : Nat) (v2 : Value) (m2 : Nat) (cs2 : List Value)
    (ho : o.op = .call { callee := .builtin .append, args := #[x, y], argTypes := #[t, t] }) (hx : ev l x = .slice (some ⟨b, 0, none⟩) 0 0) (hy : ev l y = v2) (hr : Rd sz W v2 m2 cs2)
    (ht : P.underlying t = some (.slice e)) (hinfo : (P.info? e).map (fun i => (i.zero, i.size, i.bytes)) = some (some z, sz, bytes)) (hz : z.cells.size = sz) (hsz : 0 < sz)
    (h1 : oneCells cs2 = true) (h63 : m2 ≤ maxLen) (hby : m2 * bytes ≤ 140737488355328) (hok : okB n l ops o d = true)
    (h : ∀ A c a' W', Rd sz W' (.slice A m2 c) m2 cs2 → Below W.heap.size W W' → Has n ((d, .slice A m2 c) :: l) a' → wpList P ops Q rest a' W') : wpList P ops Q (o :: rest) a W := by
  obtain ⟨ie, hie, hz0, hz1, hz2⟩ := infoParts hinfo
  have hone : ∀ u ∈ cs2, u.oneCell' = true := fun u hu => List.all_eq_true.mp h1 u hu
  have key : ∃ v' W', (Builtin.append_ #[t, t] o.type #[.slice (some ⟨b, 0, none⟩) 0 0, v2]).run P W = .ok v' W' ∧ Rd sz W' v' m2 cs2 ∧ Below W.heap.size W W' := by
    obtain ⟨hl, hr⟩ := hr
    rcases hr with ⟨rfl, rfl⟩ | ⟨b2, off, cap, rfl, _, hcell⟩
    · have hc2 : cs2 = [] := List.eq_nil_of_length_eq_zero (by simpa using hl)
      subst hc2
      refine ⟨_, W, run_append_nothing (P := P) W t t o.type e ie ht hie _ 0 0 (Nat.le_refl _) _ (Src.ofNil W ht 0), ⟨by simp, .inr ⟨b, 0, 0, rfl, Nat.le_refl _, fun j u hu => by simp at hu⟩⟩, Below.refl _ _⟩
    · by_cases hm : m2 = 0
      · subst hm
        have hc2 : cs2 = [] := List.eq_nil_of_length_eq_zero (by simpa using hl)
        subst hc2
        refine ⟨_, W, run_append_nothing (P := P) W t t o.type e ie ht hie _ 0 0 (Nat.le_refl _) _ (Src.ofSlice W ht ⟨b2, off, none⟩ 0 cap [] (by simp) (fun j u hu => by simp at hu) (fun u hu => by simp at hu)), ⟨by simp, .inr ⟨b, 0, 0, rfl, Nat.le_refl _, fun j u hu => by simp at hu⟩⟩, Below.refl _ _⟩
      · obtain ⟨v', W', hrun, how, hg⟩ := run_append_arg_grows (P := P) (w := W) t o.type e ie z sz bytes ht hie hz0 hz1 hz2 hz hsz ⟨b, 0, none⟩ 0 0 [] (by simp) (fun j u hu => by simp at hu) ⟨b2, off, none⟩ m2 cap cs2 hl
          (fun j u hu => by rw [Addr.add_lit]; exact hcell j u hu) (by omega) (by omega) (by rw [Nat.zero_add]; exact hby)
        rw [Nat.zero_add, List.nil_append] at how
        exact ⟨v', W', hrun, Rd.of_own (ownG_of how), (Below.refl _ W).grown hg (Nat.le_refl _) (fun k e => by simp at e)⟩
  obtain ⟨v', W', hrun, ho', hg⟩ := key
  obtain ⟨A, c, rfl⟩ := ho'.shape
  refine stepv (W' := W') ha d (.slice A m2 c) hok ?_ fun a' ha' => h A c a' W' ho' hg ha'
  unfold execOp
  simp only [ho, resolve, invoke, builtin, Sem.run_bind, Sem.run_pure, Result.andThen_ok, List.map_toArray, List.map_cons, List.map_nil, hx, hy, hrun]
end
theorem roundK {P : Program} {c : Code} {Q : Exit → Act → World → Prop} {n : Nat} {a : Act} {w : World} (h : ∀ K, (∀ a w, Code.rounds P c Q n a w → K a w) → c.wp P (Exit.then K Q) a w) : Code.rounds P c Q (n + 1) a w := h _ fun _ _ h => h

section
variable (P : Program) (n : Nat) (l : List (Nat × Value)) (F : Nat → Value → World → Prop) (ops : Array Oper) (J : Array Bool → World → Prop)
def OpJ (i : Nat) (o : Oper) : Prop := ∀ (a : Act) (w : World) (listed : Array Bool), listed.size = ops.size → listed.getD i true = false → (∀ m, waits o m = true → listed.getD m true = true) →
  (∀ (j : Nat) (oj : Oper), ops[j]? = some oj → listed.getD j true = true → ∀ m, m < ops.size → waits oj m = true → listed.getD m true = true) → a.tmps.size = n → a.defers = [] → J listed w → (∀ s, s ∈ o.looksAt ops → Seen l F ops o a w s) →
  (Region.wanted o (yielded ops a.tmps) = true ∧ o.wp P a w (fun a' w' => ∃ v, a' = a.put o.dst v ∧ F i v w' ∧ J (listed.setIfInBounds i true) w' ∧ ∀ j u, F j u w → F j u w') (fun _ _ _ => False)) ∨
  (Region.wanted o (yielded ops a.tmps) = false ∧ F i undef w ∧ J (listed.setIfInBounds i true) w)
def InvJ (listed : Array Bool) (a : Act) (w : World) : Prop :=
  a.tmps.size = n ∧ a.defers = [] ∧ J listed w ∧
  (∀ s v, look l s = some v → (∀ (j : Nat) (o : Oper), ops[j]? = some o → o.dst = some s → listed.getD j true = false) → a.tmps[s]? = some v) ∧
  (∀ (j : Nat) (o : Oper) (d : Nat), ops[j]? = some o → o.dst = some d → listed.getD j true = true → ∃ v, a.tmps[d]? = some v ∧ F j v w) ∧
  (∀ (j : Nat) (o : Oper), ops[j]? = some o → listed.getD j true = true → ∀ m, m < ops.size → waits o m = true → listed.getD m true = true)
end

section
variable {P : Program} {n : Nat} {l : List (Nat × Value)} {F : Nat → Value → World → Prop} {ops : Array Oper} {W : World} {a : Act} {Q : Exit → Act → World → Prop}
theorem regionJ {id : Nat} (J : Array Bool → World → Prop) (m : Nat) (hmz : m ≤ ops.size) (hS : chkS m ops = true) (hm : P.follows .mixedOrders = true) (hchk : chkB ops = true) (ha : Has n l a) (HJ : ∀ k, J (Array.replicate ops.size false) { W with drawn := k })
    (hop : ∀ (i : Nat) (o : Oper), i < m → ops[i]? = some o → OpJ P n l F ops J i o)
    (hdst : ∀ (i : Nat) (o : Oper) (d : Nat), ops[i]? = some o → o.dst = some d → d < n)
    (hend : ∀ (a : Act) (w : World), a.tmps.size = n → a.defers = [] → (∃ listed : Array Bool, listed.size = ops.size ∧ (∀ j, j < m → listed.getD j true = true) ∧ J listed w) → (∀ s v, look l s = some v → (∀ (j : Nat) (o : Oper), j < m → ops[j]? = some o → o.dst ≠ some s) → a.tmps[s]? = some v) →
      (∀ (j : Nat) (o : Oper) (d : Nat), j < m → ops[j]? = some o → o.dst = some d → ∃ v, a.tmps[d]? = some v ∧ F j v w) → wpList P ops Q (ops.toList.drop m) a w) : (Code.region id ops true).wp P Q a W := by
  refine wp_region_any hm ?_
  have key : ∀ (fuel : Nat) (listed : Array Bool) (a : Act) (w : World), listed.size = ops.size → (∀ j, m ≤ j → j < ops.size → listed.getD j true = false) → ((List.range m).filter fun i => !listed.getD i true).length = fuel → InvJ n l F ops J listed a w → wpAny P .any ops Q (fuel + (ops.size - m)) listed a w := by
    intro fuel
    induction fuel with
    | zero =>
      intro listed a w hs hnb hc hI
      have hnil := List.eq_nil_of_length_eq_zero hc
      have hall : ∀ j, j < m → listed.getD j true = true := by
        intro j hj
        cases hb : listed.getD j true with
        | true => rfl
        | false =>
          have : j ∈ (List.range m).filter fun i => !listed.getD i true := List.mem_filter.mpr ⟨List.mem_range.mpr hj, by rw [hb]; rfl⟩
          rw [hnil] at this
          cases this
      obtain ⟨h1, h2, h3, h4, h5, _⟩ := hI
      rw [Nat.zero_add]
      refine tailF hchk hS (ops.size - m) m listed a w (Nat.le_refl _) (by omega) hs hall hnb ?_
      refine hend a w h1 h2 ⟨listed, hs, hall, h3⟩ (fun s v hv hno => h4 s v hv (fun j o hj hd => ?_)) (fun j o d hjm hj hd => h5 j o d hj hd (hall j hjm))
      by_cases hjm : j < m
      · exact absurd hd (hno j o hjm hj)
      · exact hnb j (by omega) (Array.getElem?_eq_some_iff.1 hj).1
    | succ fuel ih =>
      intro listed a w hs hnb hc hI
      have hmin : ∃ j, j < m ∧ listed.getD j true = false ∧ ∀ k, k < j → listed.getD k true = true := by
        have hex : ∃ j, j < m ∧ listed.getD j true = false := by
          cases hf : (List.range m).filter fun i => !listed.getD i true with
          | nil => rw [hf] at hc; cases hc
          | cons j r =>
            have : j ∈ (List.range m).filter fun i => !listed.getD i true := by rw [hf]; exact List.mem_cons_self
            obtain ⟨h1, h2⟩ := List.mem_filter.mp this
            exact ⟨j, List.mem_range.mp h1, by simpa using h2⟩
        obtain ⟨j, hj, hb⟩ := hex
        induction j using Nat.strongRecOn with
        | _ j ihj =>
          by_cases hall : ∀ k, k < j → listed.getD k true = true
          · exact ⟨j, hj, hb, hall⟩
          · simp only [Classical.not_forall] at hall
            obtain ⟨k, hk, hkb⟩ := hall
            exact ihj k hk (by omega) (by simpa using hkb)
      obtain ⟨jm, hjm, hjb, hlow⟩ := hmin
      rw [show fuel + 1 + (ops.size - m) = fuel + (ops.size - m) + 1 by omega]
      refine ⟨fun hr => ?_, fun i hi => ?_⟩
      · exfalso
        obtain ⟨o, ho⟩ : ∃ o, ops[jm]? = some o := ⟨ops[jm]'(by omega), Array.getElem?_eq_some_iff.2 ⟨by omega, rfl⟩⟩
        have := ready_of hs ho hchk hjb hlow
        rw [hr] at this
        cases this
      · have hi' := hi
        unfold Region.ready at hi'
        obtain ⟨hir, hic⟩ := List.mem_filter.mp hi'
        have hilt := List.mem_range.mp hir
        obtain ⟨o, ho⟩ : ∃ o, ops[i]? = some o := ⟨ops[i], Array.getElem?_eq_some_iff.2 ⟨hilt, rfl⟩⟩
        simp only [ho, Option.map_some, Option.getD_some, Bool.and_eq_true] at hic
        obtain ⟨hib, hdeps⟩ := hic
        have hib' : listed.getD i true = false := by simpa using hib
        have hw : ∀ m, waits o m = true → listed.getD m true = true := fun k hk => listed_of_waits hdeps k hk
        have him : i < m := by
          rcases Nat.lt_or_ge i m with h | h
          · exact h
          · have := hw jm (chkS_spec hS ho h jm (by omega))
            rw [hjb] at this
            cases this
        obtain ⟨h1, h2, h3, h4, h5, h9⟩ := hI
        have hseen : ∀ s, s ∈ o.looksAt ops → Seen l F ops o a w s := by
          intro s hs'
          unfold Seen
          cases hsrc : srcOf ops o s with
          | some m =>
            unfold srcOf at hsrc
            have h6 := List.find?_some hsrc
            have h7 := List.mem_of_find?_eq_some hsrc
            simp only [Bool.and_eq_true] at h6
            obtain ⟨om, hom⟩ : ∃ om, ops[m]? = some om := ⟨ops[m]'(List.mem_range.mp h7), Array.getElem?_eq_some_iff.2 ⟨List.mem_range.mp h7, rfl⟩⟩
            simp only [hom, Option.bind_some] at h6
            cases hd : om.dst with
            | none => simp [hd] at h6
            | some d =>
              simp only [hd] at h6
              have hds : d = s := Nat.eq_of_beq_eq_true h6.2
              subst hds
              exact h5 m om d hom hd (hw m h6.1)
          | none =>
            intro v hv
            refine h4 s v hv (fun j oj hj hd => ?_)
            have h6 := ((chkB_spec hchk ho).2 j oj s hj hd).2 hs'
            have hjlt : j < ops.size := (Array.getElem?_eq_some_iff.1 hj).1
            rcases h6 with h6 | h6
            · exfalso
              unfold srcOf at hsrc
              have := List.find?_eq_none.mp hsrc j (List.mem_range.mpr hjlt)
              simp [h6, hj, hd] at this
            · -- it waits for i, which is not listed; so it is not listed itself
              cases hb : listed.getD j true with
              | false => rfl
              | true =>
                exfalso
                have h8 := h9 j oj hj hb i hilt h6
                rw [hib'] at h8
                cases h8
        have step : ∀ (v : Value) (w' : World), F i v w' → J (listed.setIfInBounds i true) w' → (∀ j u, F j u w → F j u w') → InvJ n l F ops J (listed.setIfInBounds i true) (a.put o.dst v) w' := by
          intro v w' hF hB hM
          have hli : i < listed.size := by omega
          refine ⟨?_, ?_, ?_, ?_, ?_, ?_⟩
          · cases hd : o.dst with
            | none => exact h1
            | some d => simp [Act.put, h1]
          · cases hd : o.dst with
            | none => exact h2
            | some d => exact h2
          · exact hB
          · intro s u hu hno
            have hns : o.dst ≠ some s := by
              intro hd
              have := hno i o ho hd
              rw [getD_set hli, if_pos rfl] at this
              cases this
            have hold := h4 s u hu (fun j oj hj hd => by
              have := hno j oj hj hd
              rw [getD_set hli] at this
              split at this
              · cases this
              · exact this)
            cases hd : o.dst with
            | none => exact hold
            | some d =>
              show (a.tmps.setIfInBounds d v)[s]? = some u
              rw [Array.getElem?_setIfInBounds, if_neg (fun e => hns (by rw [hd, e]))]
              exact hold
          · intro j oj d hj hd hb
            by_cases hij : i = j
            · subst hij
              rw [ho] at hj
              cases hj
              refine ⟨v, ?_, hF⟩
              rw [hd]
              show (a.tmps.setIfInBounds d v)[d]? = some v
              rw [Array.getElem?_setIfInBounds, if_pos rfl, if_pos (by rw [h1]; exact hdst i o d ho hd)]
            · rw [getD_set hli, if_neg hij] at hb
              obtain ⟨u, hu, hFu⟩ := h5 j oj d hj hd hb
              refine ⟨u, ?_, hM j u hFu⟩
              have hne := ((chkB_spec hchk ho).2 j oj d hj hd).1 hij
              cases hdo : o.dst with
              | none => exact hu
              | some d' =>
                show (a.tmps.setIfInBounds d' v)[d]? = some u
                rw [Array.getElem?_setIfInBounds, if_neg (fun e => hne (by rw [hdo, e]))]
                exact hu
          · intro j oj hj hb m hm hwm
            rw [getD_set hli]
            split
            · rfl
            · by_cases hij : i = j
              · subst hij
                rw [ho] at hj
                cases hj
                exact hw m hwm
              · rw [getD_set hli, if_neg hij] at hb
                exact h9 j oj hj hb m hm hwm
        have hcount : ((List.range m).filter fun k => !(listed.setIfInBounds i true).getD k true).length = fuel := by
          have hli : i < listed.size := by omega
          have e1 : ((List.range m).filter fun k => !(listed.setIfInBounds i true).getD k true) = ((List.range m).filter fun k => !listed.getD k true).erase i := by
            rw [List.Nodup.erase_eq_filter (List.nodup_range.sublist List.filter_sublist), List.filter_filter]
            refine List.filter_congr (fun k _ => ?_)
            rw [getD_set hli]
            by_cases hik : i = k
            · subst hik; simp
            · have : ¬ k = i := fun e => hik e.symm
              simp [hik, this]
          rw [e1, List.length_erase_of_mem (List.mem_filter.mpr ⟨List.mem_range.mpr him, by rw [hib']; rfl⟩), hc]
          rfl
        have hnb' : ∀ j, m ≤ j → j < ops.size → (listed.setIfInBounds i true).getD j true = false := by
          intro j hj1 hj2
          rw [getD_set (by omega), if_neg (by omega)]
          exact hnb j hj1 hj2
        have rec_ : ∀ (v : Value) (w' : World), F i v w' → J (listed.setIfInBounds i true) w' → (∀ j u, F j u w → F j u w') → wpAny P .any ops Q (fuel + (ops.size - m)) (listed.setIfInBounds i true) (a.put o.dst v) w' :=
          fun v w' hF hB hM => ih _ _ _ (by simpa using hs) hnb' hcount (step v w' hF hB hM)
        unfold wpOp
        simp only [ho]
        rcases hop i o him ho a w listed hs hib' hw h9 h1 h2 h3 hseen with ⟨hwt, hwp⟩ | ⟨hwf, hF, hB⟩
        · rw [if_pos hwt]
          refine .inl (wp_false_mono (fun a' w' hx => ?_) (fun _ _ _ h => h) hwp)
          obtain ⟨v, rfl, hF, hB, hM⟩ := hx
          exact rec_ v w' hF hB hM
        · rw [if_neg (by rw [hwf]; simp)]
          exact rec_ undef w hF hB (fun _ _ h => h)
  have hsz : m + (ops.size - m) = ops.size := by omega
  rw [← hsz]
  have h0 : ∀ j, j < ops.size → (Array.replicate ops.size false).getD j true = false := fun j hj => by simp [hj]
  rw [hsz]
  have := key m (Array.replicate ops.size false) a { W with drawn := W.drawn + 1 } (by simp) (fun j _ hj => h0 j hj) ?_ ⟨ha.size, ha.defers, HJ _, fun s v hv _ => ha.slot s v hv, ?_, ?_⟩
  · rwa [hsz] at this
  · have : (List.range m).filter (fun i => !(Array.replicate ops.size false).getD i true) = List.range m := by
      refine List.filter_eq_self.mpr (fun i hi => ?_)
      rw [h0 i (by have := List.mem_range.mp hi; omega)]
      rfl
    rw [this, List.length_range]
  · intro j o d hj _ hb
    rw [h0 j (Array.getElem?_eq_some_iff.1 hj).1] at hb
    cases hb
  · intro j o hj hb
    rw [h0 j (Array.getElem?_eq_some_iff.1 hj).1] at hb
    cases hb
end

def fixB (L : List Fact) : Bool := L.all fun f => match f with
  | .fix _ => true
  | .any => true
  | _ => false
theorem fixB_mono {L : List Fact} (h : fixB L = true) (j : Nat) (v : Value) (w w' : World) (hf : facts L j v w) : facts L j v w' := by
  unfold facts at *
  rw [List.getD_eq_getElem?_getD] at *
  cases e : L[j]? with
  | none => trivial
  | some f =>
    rw [e] at hf
    have := List.all_eq_true.mp h f (List.mem_of_getElem? e)
    cases f with
    | fix u => exact hf
    | any => trivial
    | rd => cases this
    | blk => cases this
    | lit => cases this
    | ptr => cases this
    | pr => cases this
    | wd => cases this

section
variable {P : Program} {n : Nat} {l : List (Nat × Value)} {ops : Array Oper} {w0 W : World} {bs bs2 bsC : List (Nat × Obj)} {os os2 osC : List OwnA} {a : Act} {Q : Exit → Act → World → Prop} {L : List Fact}

def StoreOk (P : Program) (n : Nat) (l : List (Nat × Value)) (F : Nat → Value → World → Prop) (ops : Array Oper) (w0 : World) (bs : List (Nat × Obj)) (os : List OwnA) (bs2 : List (Nat × Obj)) (os2 : List OwnA) (o : Oper) : Prop :=
  ∀ (a : Act) (w : World), a.tmps.size = n → a.defers = [] → Wd w0 w bs os → (∀ s, s ∈ o.looksAt ops → Seen l F ops o a w s) →
  Region.wanted o (yielded ops a.tmps) = true ∧ o.wp P a w (fun a' w' => a' = a.put o.dst undef ∧ Wd w0 w' bs2 os2) (fun _ _ _ => False)
abbrev Sta := List (Nat × Obj) × List OwnA
def OpsOkK (P : Program) (n : Nat) (l : List (Nat × Value)) (L : List Fact) (ops : Array Oper) (w0 : World) (C : Sta) : Sta → List (Option Sta) → Nat → List Oper → Prop
  | _, _, _, [] => True
  | S, none :: ks, i, o :: r => OpOk P n l (facts L) ops w0 C.1 C.2 i o ∧ OpsOkK P n l L ops w0 C S ks (i + 1) r
  | S, some S' :: ks, i, o :: r => StoreOk P n l (facts L) ops w0 S.1 S.2 S'.1 S'.2 o ∧ OpsOkK P n l L ops w0 C S' ks (i + 1) r
  | _, [], _, _ :: _ => False
def storesOf : List (Option Sta) → Nat → List (Nat × Sta)
  | [], _ => []
  | none :: r, i => storesOf r (i + 1)
  | some S :: r, i => (i, S) :: storesOf r (i + 1)
def lastS : Sta → List (Nat × Sta) → Sta
  | S, [] => S
  | _, p :: r => lastS p.2 r
def finS : Sta → List (Option Sta) → Sta
  | S, [] => S
  | S, none :: r => finS S r
  | _, some S :: r => finS S r
def JL (w0 : World) (listed : Array Bool) : List (Nat × Sta) → Sta → World → Prop
  | [], S, w => Wd w0 w S.1 S.2
  | p :: r, S, w => if listed.getD p.1 true = true then JL w0 listed r p.2 w else Wd w0 w S.1 S.2
def CommonK (w0 : World) (C : Sta) : Sta → List (Option Sta) → Prop
  | S, [] => ∀ w, Wd w0 w S.1 S.2 → Wd w0 w C.1 C.2
  | S, none :: r => CommonK w0 C S r
  | S, some S' :: r => (∀ w, Wd w0 w S.1 S.2 → Wd w0 w C.1 C.2) ∧ CommonK w0 C S' r
def chkK (ops : Array Oper) (L : List Fact) (K : List (Option Sta)) : Bool :=
  let qs := (storesOf K 0).map (·.1)
  qs.all (fun q => (match L.getD q .any with | .any => true | _ => false) && qs.all fun p => !Nat.blt p q || (match ops[q]? with | some o => waits o p | none => false))

theorem JL_mono {w0 : World} {listed listed' : Array Bool} {w w' : World} (hb : Below w.heap.size w w') : ∀ (r : List (Nat × Sta)) (S : Sta), (∀ p ∈ r, listed'.getD p.1 true = listed.getD p.1 true) → JL w0 listed r S w → JL w0 listed' r S w'
  | [], S, _, h => Wd.call h hb
  | p :: r, S, he, h => by
    unfold JL at *
    rw [he p (by simp)]
    split
    · rename_i hp
      rw [if_pos hp] at h
      exact JL_mono hb r p.2 (fun q hq => he q (by simp [hq])) h
    · rename_i hp
      rw [if_neg hp] at h
      exact Wd.call h hb
theorem JL_common {w0 : World} {listed : Array Bool} {w : World} {C : Sta} : ∀ (K : List (Option Sta)) (S : Sta) (i : Nat), CommonK w0 C S K → JL w0 listed (storesOf K i) S w → Wd w0 w C.1 C.2
  | [], S, i, hc, h => hc w h
  | none :: r, S, i, hc, h => JL_common r S (i + 1) hc h
  | some S' :: r, S, i, hc, h => by
    simp only [storesOf, JL] at h
    split at h
    · exact JL_common r S' (i + 1) hc.2 h
    · exact hc.1 w h
theorem JL_at {w0 : World} {listed : Array Bool} {w : World} {q : Nat} {S' : Sta} {r2 : List (Nat × Sta)} : ∀ (r1 : List (Nat × Sta)) (S : Sta), (∀ p ∈ r1, listed.getD p.1 true = true) → listed.getD q true = false → JL w0 listed (r1 ++ (q, S') :: r2) S w → Wd w0 w (lastS S r1).1 (lastS S r1).2
  | [], S, _, hq, h => by
    simp only [List.nil_append, JL] at h
    rw [if_neg (by rw [hq]; simp)] at h
    exact h
  | p :: r, S, hp, hq, h => by
    simp only [List.cons_append, JL] at h
    rw [if_pos (hp p (by simp))] at h
    exact JL_at r p.2 (fun x hx => hp x (by simp [hx])) hq h
theorem JL_after {w0 : World} {listed : Array Bool} {w : World} {q : Nat} {S' : Sta} {r2 : List (Nat × Sta)} (hw : Wd w0 w S'.1 S'.2) (hq : listed.getD q true = true) (h2 : ∀ p ∈ r2, listed.getD p.1 true = false) : ∀ (r1 : List (Nat × Sta)) (S : Sta), (∀ p ∈ r1, listed.getD p.1 true = true) → JL w0 listed (r1 ++ (q, S') :: r2) S w
  | [], S, _ => by
    simp only [List.nil_append, JL]
    rw [if_pos hq]
    cases r2 with
    | nil => exact hw
    | cons p r =>
      simp only [JL]
      rw [if_neg (by rw [h2 p (by simp)]; simp)]
      exact hw
  | p :: r, S, hp => by
    simp only [List.cons_append, JL]
    rw [if_pos (hp p (by simp))]
    exact JL_after hw hq h2 r p.2 (fun x hx => hp x (by simp [hx]))
theorem stores_split : ∀ (K : List (Option Sta)) (i j : Nat) (S' : Sta), K[j]? = some (some S') → storesOf K i = storesOf (K.take j) i ++ (i + j, S') :: storesOf (K.drop (j + 1)) (i + j + 1)
  | [], i, j, S', h => by simp at h
  | none :: r, i, 0, S', h => by simp at h
  | some A :: r, i, 0, S', h => by
    simp only [List.getElem?_cons_zero, Option.some.injEq] at h
    subst h
    rfl
  | none :: r, i, j + 1, S', h => by
    have := stores_split r (i + 1) j S' (by simpa using h)
    simp only [storesOf, List.take_succ_cons, List.drop_succ_cons]
    rw [this, show i + 1 + j = i + (j + 1) by omega]
  | some A :: r, i, j + 1, S', h => by
    have := stores_split r (i + 1) j S' (by simpa using h)
    simp only [storesOf, List.take_succ_cons, List.drop_succ_cons, List.cons_append]
    rw [this, show i + 1 + j = i + (j + 1) by omega]
theorem stores_ge : ∀ (K : List (Option Sta)) (i : Nat) (p : Nat × Sta), p ∈ storesOf K i → i ≤ p.1 ∧ p.1 < i + K.length ∧ K[p.1 - i]? = some (some p.2)
  | [], i, p, h => by cases h
  | none :: r, i, p, h => by
    obtain ⟨h1, h2, h3⟩ := stores_ge r (i + 1) p h
    refine ⟨by omega, by simp only [List.length_cons]; omega, ?_⟩
    rw [show p.1 - i = (p.1 - (i + 1)) + 1 by omega]
    exact h3
  | some S :: r, i, p, h => by
    rcases List.mem_cons.1 h with h | h
    · subst h
      exact ⟨Nat.le_refl _, by simp, by simp⟩
    · obtain ⟨h1, h2, h3⟩ := stores_ge r (i + 1) p h
      refine ⟨by omega, by simp only [List.length_cons]; omega, ?_⟩
      rw [show p.1 - i = (p.1 - (i + 1)) + 1 by omega]
      exact h3
theorem OpsOkK.get {P : Program} {n : Nat} {l : List (Nat × Value)} {L : List Fact} {ops : Array Oper} {w0 : World} {C : Sta} : ∀ (K : List (Option Sta)) (S : Sta) (i : Nat) (r : List Oper), OpsOkK P n l L ops w0 C S K i r → ∀ (j : Nat) (o : Oper), r[j]? = some o →
    (K[j]? = some none ∧ OpOk P n l (facts L) ops w0 C.1 C.2 (i + j) o) ∨ ∃ S', K[j]? = some (some S') ∧ StoreOk P n l (facts L) ops w0 (lastS S (storesOf (K.take j) i)).1 (lastS S (storesOf (K.take j) i)).2 S'.1 S'.2 o
  | _, _, _, [], _, j, o, h => by simp at h
  | [], _, _, _ :: _, hx, _, _, _ => by simp only [OpsOkK] at hx
  | none :: ks, S, i, x :: r, hx, 0, o, h => by
    simp only [List.getElem?_cons_zero, Option.some.injEq] at h
    subst h
    exact .inl ⟨rfl, hx.1⟩
  | some A :: ks, S, i, x :: r, hx, 0, o, h => by
    simp only [List.getElem?_cons_zero, Option.some.injEq] at h
    subst h
    exact .inr ⟨A, rfl, hx.1⟩
  | none :: ks, S, i, x :: r, hx, j + 1, o, h => by
    rcases OpsOkK.get ks S (i + 1) r hx.2 j o (by simpa using h) with ⟨h1, h2⟩ | ⟨S', h1, h2⟩
    · exact .inl ⟨by simpa using h1, by rw [show i + (j + 1) = i + 1 + j by omega]; exact h2⟩
    · exact .inr ⟨S', by simpa using h1, h2⟩
  | some A :: ks, S, i, x :: r, hx, j + 1, o, h => by
    rcases OpsOkK.get ks A (i + 1) r hx.2 j o (by simpa using h) with ⟨h1, h2⟩ | ⟨S', h1, h2⟩
    · exact .inl ⟨by simpa using h1, by rw [show i + (j + 1) = i + 1 + j by omega]; exact h2⟩
    · exact .inr ⟨S', by simpa using h1, h2⟩
theorem JL_all {w0 : World} {listed : Array Bool} {w : World} : ∀ (K : List (Option Sta)) (i : Nat) (S : Sta), (∀ p ∈ storesOf K i, listed.getD p.1 true = true) → JL w0 listed (storesOf K i) S w → Wd w0 w (finS S K).1 (finS S K).2
  | [], i, S, _, h => h
  | none :: r, i, S, hp, h => JL_all r (i + 1) S hp h
  | some A :: r, i, S, hp, h => by
    simp only [storesOf, JL] at h
    rw [if_pos (hp (i, A) (by simp [storesOf]))] at h
    exact JL_all r (i + 1) A (fun p h' => hp p (by simp [storesOf, h'])) h

theorem regionL {id : Nat} (m : Nat) (hm : P.follows .mixedOrders = true) (C S : Sta) (K : List (Option Sta)) (L : List Fact) (hchk : (chkB ops && dstB n ops && Nat.ble m ops.size && chkS m ops && fixB L && chkK ops L K && Nat.beq K.length m) = true) (ha : Has n l a) (HW : Wd w0 W S.1 S.2)
    (hC : CommonK w0 C S K) (hop : OpsOkK P n l L ops w0 C S K 0 (ops.toList.take m))
    (hend : ∀ (a : Act) (w : World), Has n [] a → Wd w0 w (finS S K).1 (finS S K).2 → (∀ s v, look l s = some v → freeB m ops s = true → a.tmps[s]? = some v) →
      (∀ (j d : Nat), Nat.blt j m = true → (ops[j]?).bind (·.dst) = some d → ∃ v, a.tmps[d]? = some v ∧ facts L j v w) → wpList P ops Q (ops.toList.drop m) a w) : (Code.region id ops true).wp P Q a W := by
  simp only [Bool.and_eq_true] at hchk
  obtain ⟨⟨⟨⟨⟨⟨hc1, hc2⟩, hc3⟩, hc4⟩, hc5⟩, hc6⟩, hc7⟩ := hchk
  have hmz := Nat.le_of_ble_eq_true hc3
  have hKl : K.length = m := Nat.eq_of_beq_eq_true hc7
  have chain : ∀ (p q : Nat) (A B : Sta), (p, A) ∈ storesOf K 0 → (q, B) ∈ storesOf K 0 → p < q → ∀ o, ops[q]? = some o → waits o p = true := by
    intro p q A B hp hq hlt o ho
    have h1 := List.all_eq_true.mp hc6 q (List.mem_map.mpr ⟨_, hq, rfl⟩)
    simp only [Bool.and_eq_true] at h1
    have h2 := List.all_eq_true.mp h1.2 p (List.mem_map.mpr ⟨_, hp, rfl⟩)
    have : Nat.blt p q = true := Nat.ble_eq_true_of_le hlt
    simp only [this, Bool.not_true, Bool.false_or, ho] at h2
    exact h2
  refine regionJ (F := facts L) (fun listed w => JL w0 listed (storesOf K 0) S w) m hmz hc4 hm hc1 ha (fun k => ?_) (fun i o him hi => ?_) (fun i o d hi hd => ?_) (fun a w h1 h2 h3 h4 h5 => ?_)
  · cases hst : storesOf K 0 with
    | nil => exact HW.drew k
    | cons p r =>
      have hp := stores_ge K 0 p (by rw [hst]; simp)
      simp only [JL]
      rw [if_neg]
      · exact HW.drew k
      · have : p.1 < ops.size := by omega
        simp [this]
  · intro a w listed hs hli hwt h9 h1 h2 h3 hseen
    have hlt : i < listed.size := by rw [hs]; exact (Array.getElem?_eq_some_iff.1 hi).1
    rcases OpsOkK.get K S 0 (ops.toList.take m) hop i o (by rw [List.getElem?_take, if_pos him]; simpa using hi) with ⟨hk, hok⟩ | ⟨S', hk, hok⟩
    · rw [Nat.zero_add] at hok
      have hne : ∀ p ∈ storesOf K 0, p.1 ≠ i := by
        intro p hp e
        have := (stores_ge K 0 p hp).2.2
        rw [Nat.sub_zero, e, hk] at this
        simp at this
      have hJ : ∀ w', Below w.heap.size w w' → JL w0 (listed.setIfInBounds i true) (storesOf K 0) S w' := fun w' hB =>
        JL_mono hB _ _ (fun p hp => by rw [getD_set hlt, if_neg (fun e => hne p hp e.symm)]) h3
      rcases hok a w h1 h2 (JL_common K S 0 hC h3) hseen with ⟨hw, hwp⟩ | ⟨hw, hf⟩
      · refine .inl ⟨hw, wp_false_mono (fun a' w' hx => ?_) (fun _ _ _ h => h) hwp⟩
        obtain ⟨v, hv, hf, hB⟩ := hx
        exact ⟨v, hv, hf, hJ w' hB, fun j u hfu => fixB_mono hc5 j u _ _ hfu⟩
      · exact .inr ⟨hw, hf, hJ w (Below.refl _ _)⟩
    · have hsp := stores_split K 0 i S' hk
      rw [Nat.zero_add] at hsp
      have hmem : (i, S') ∈ storesOf K 0 := by rw [hsp]; simp
      have hr1 : ∀ p ∈ storesOf (K.take i) 0, p.1 < i ∧ listed.getD p.1 true = true := by
        intro p hp
        have hb := stores_ge _ _ p hp
        rw [List.length_take] at hb
        exact ⟨by omega, hwt p.1 (chain p.1 i p.2 S' (by rw [hsp]; exact List.mem_append_left _ hp) hmem (by omega) o hi)⟩
      have hr2 : ∀ p ∈ storesOf (K.drop (i + 1)) (i + 1), i < p.1 ∧ listed.getD p.1 true = false := by
        intro p hp
        have hb := stores_ge _ _ p hp
        have hpm : p ∈ storesOf K 0 := by rw [hsp]; exact List.mem_append_right _ (List.mem_cons_of_mem _ hp)
        refine ⟨by omega, ?_⟩
        cases hx : listed.getD p.1 true with
        | false => rfl
        | true =>
          exfalso
          have hpl := (stores_ge K 0 p hpm).2.1
          obtain ⟨op, hop'⟩ : ∃ o, ops[p.1]? = some o := ⟨ops[p.1]'(by omega), Array.getElem?_eq_some_iff.2 ⟨by omega, rfl⟩⟩
          have := h9 p.1 op hop' hx i (by omega) (chain i p.1 S' p.2 hmem hpm (by omega) op hop')
          rw [hli] at this
          cases this
      rw [hsp] at h3
      have hW := JL_at _ _ (fun p hp => (hr1 p hp).2) hli h3
      obtain ⟨hw, hwp⟩ := hok a w h1 h2 hW hseen
      refine .inl ⟨hw, wp_false_mono (fun a' w' hx => ?_) (fun _ _ _ h => h) hwp⟩
      obtain ⟨rfl, hx⟩ := hx
      refine ⟨undef, rfl, ?_, ?_, fun j u hf => fixB_mono hc5 j u _ _ hf⟩
      · have h1 := List.all_eq_true.mp hc6 i (List.mem_map.mpr ⟨_, hmem, rfl⟩)
        simp only [Bool.and_eq_true] at h1
        have h1 := h1.1
        unfold facts
        cases hf : L.getD i .any with
        | any => trivial
        | fix u => rw [hf] at h1; cases h1
        | rd => rw [hf] at h1; cases h1
        | blk => rw [hf] at h1; cases h1
        | lit => rw [hf] at h1; cases h1
        | ptr => rw [hf] at h1; cases h1
        | pr => rw [hf] at h1; cases h1
        | wd => rw [hf] at h1; cases h1
      · rw [hsp]
        refine JL_after hx (by rw [getD_set hlt, if_pos rfl]) (fun p hp => ?_) _ _ (fun p hp => ?_)
        · rw [getD_set hlt, if_neg (by have := (hr2 p hp).1; omega)]; exact (hr2 p hp).2
        · rw [getD_set hlt]
          split
          · rfl
          · exact (hr1 p hp).2
  · unfold dstB at hc2
    rw [Array.all_eq_true_iff_forall_mem] at hc2
    have := hc2 o (Array.mem_of_getElem? hi)
    simp only [hd] at this
    exact Nat.le_of_ble_eq_true this
  · obtain ⟨listed, hs, hall, hJ⟩ := h3
    refine hend a w (hasNil h1 h2) (JL_all K 0 S (fun p hp => hall p.1 (by have := (stores_ge K 0 p hp).2.1; omega)) hJ) (fun s v hv hf => h4 s v hv (fun j o hjm hj hd => ?_)) (fun j d hjm hj => ?_)
    · unfold freeB at hf
      have hmem : o ∈ ops.toList.take m := by
        refine List.mem_of_getElem? (i := j) ?_
        rw [List.getElem?_take, if_pos hjm]
        simpa using hj
      have := List.all_eq_true.mp hf o hmem
      simp [hd] at this
    · cases ho : ops[j]? with
      | none => simp [ho] at hj
      | some o => exact h5 j o d (Nat.le_of_ble_eq_true hjm) ho (by simpa [ho] using hj)

def YS (a : Act) (w0 : World) (bs : List (Nat × Obj)) (os : List OwnA) : Exit → Act → World → Prop := fun e a' w' => e = .normal ∧ a' = a ∧ Wd w0 w' bs os
variable {o : Oper} {w : World} {E : List (Nat × Value)}
theorem yStepS (ha : Has n E a) (hok : okS E ops o = true)
    (h : ∀ l, Has n (E ++ l) a → (∀ a' w', Has n (E ++ l) a' → Wd w0 w' bs2 os2 → wpList P ops (YS a w0 bs2 os2) [] a' w') → wpList P ops (YS a w0 bs2 os2) [o] a w) :
    Region.wanted o (yielded ops a.tmps) = true ∧ o.wp P a w (fun a' w' => a' = a.put o.dst undef ∧ Wd w0 w' bs2 os2) (fun _ _ _ => False) := by
  have hok' := hok
  simp only [okS, Bool.and_eq_true, Option.isNone_iff_eq_none] at hok'
  obtain ⟨⟨h1, h2⟩, h3⟩ := hok'
  have hw := ha.on ops o h2
  have key := h (fullL n a) ha.full (fun a' w' ha' hx => by
    refine ⟨rfl, ?_, hx⟩
    have he : a'.tmps = a.tmps := by
      apply Array.ext_getElem?
      intro i
      by_cases hi : i < n
      · have hl : ∃ u, look (E ++ fullL n a) i = some u := by
          rw [look_append, look_full, if_pos hi]
          cases look E i <;> simp
        obtain ⟨u, hu⟩ := hl
        rw [ha.full.slot i u hu, ha'.slot i u hu]
      · rw [Array.getElem?_eq_none (by rw [ha'.size]; omega), Array.getElem?_eq_none (by rw [ha.size]; omega)]
    have hd' : a'.defers = a.defers := ha'.defers.trans ha.defers.symm
    cases a'
    cases a
    simp only at he hd'
    subst he hd'
    rfl)
  unfold wpList at key
  rw [if_pos hw] at key
  refine ⟨hw, ?_⟩
  rcases key with key | ⟨_, a1, w1, hq⟩
  · refine wp_false_mono' (fun a' w' hx => ?_) (fun e a' w' hne hq => ?_) key
    · obtain ⟨_, h5, h6⟩ := hx
      refine ⟨?_, h6⟩
      rw [h3, h5]; rfl
    · exact hne hq.1
  · cases hq.1
end
end Go.Proofs.Ytdcojinnjpihaaa.X
