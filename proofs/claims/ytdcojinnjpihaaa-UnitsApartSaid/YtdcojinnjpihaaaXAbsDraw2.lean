/- A region whose order is drawn, in the plain run: the run. No condition. -/
import Derived.Test.YtdcojinnjpihaaaXAbsDraw
namespace Go.Proofs.Ytdcojinnjpihaaa.X
open Go Go.RowKit

structure DCert where
  recs : List DRec
  frs : List (List Value)
  hs : List Heap
  effs : List Nat

noncomputable def passD (P : Program) (ng : Nat) (call : CallF) (ops : Array Oper) (base : Nat) (ms : List Nat) : List Oper → Nat → List Value → Heap → List DRec → List (List Value) → List Heap → List Nat → Option DCert
  | [], _, fr, _, recs, frs, hs, effs => some ⟨recs, frs ++ [fr], hs, effs⟩
  | o :: r, i, fr, S, recs, frs, hs, effs => match awant ops fr o with
    | false => passD P ng call ops base ms r (i + 1) (fput fr o.dst undef) S (recs ++ [.off]) (frs ++ [fr]) hs effs
    | true => match opsOk ng o.op with
      | false => none
      | true => match aop P (addA base (ms.getD i 0) recs 0 S).get o (aev fr) with
        | none => none
        | some (.val v) => passD P ng call ops base ms r (i + 1) (fput fr o.dst v) S (recs ++ [.val v]) (frs ++ [fr]) hs effs
        | some (.alloc c e sl) => passD P ng call ops base ms r (i + 1) (fput fr o.dst (fresh (base + i) sl)) S (recs ++ [.alloc c e sl]) (frs ++ [fr]) hs effs
        | some res => match applyR call (addA base (ms.getD i 0) recs 0 S) res with
          | none => none
          | some (v, S') => passD P ng call ops base ms r (i + 1) (fput fr o.dst v) S' (recs ++ [.eff v]) (frs ++ [fr]) (hs ++ [S']) (effs ++ [i])

def condB (ms effs : List Nat) (i j : Nat) : Bool := (effs.take j).all (fun e => !befB ms e i) && (effs.drop j).all (fun e => !befB ms i e)

noncomputable def chkW (P : Program) (base : Nat) (ms : List Nat) (ops : Array Oper) (C : DCert) : Bool := (List.range ops.size).all fun i => match ops[i]?, C.frs[i]?, C.recs[i]? with
  | some o, some fr, some (.val v) => match needsH o (aev fr) with
    | false => true
    | true => (List.range (C.effs.length + 1)).all fun j => match condB ms C.effs i j with
      | false => true
      | true => match C.hs[j]? with
        | none => false
        | some S => match aop P (addA base (ms.getD i 0) (C.recs.take i) 0 S).get o (aev fr) with
          | some (.val v') => veq v' v
          | _ => false
  | _, _, _ => true

/-- The looks at memory, whatever stands there then, see the same. -/
def ChkW (P : Program) (base : Nat) (ms : List Nat) (ops : Array Oper) (C : DCert) : Prop := ∀ (i : Nat) (o : Oper) (fr : List Value) (v : Value) (j : Nat) (S : Heap), ops[i]? = some o → C.frs[i]? = some fr → C.recs[i]? = some (.val v) → needsH o (aev fr) = true →
  j < C.effs.length + 1 → condB ms C.effs i j = true → C.hs[j]? = some S → aop P (addA base (ms.getD i 0) (C.recs.take i) 0 S).get o (aev fr) = some (.val v)

theorem chkW_prop {P : Program} {base : Nat} {ms : List Nat} {ops : Array Oper} {C : DCert} (h : chkW P base ms ops C = true) : ChkW P base ms ops C := by
  intro i o fr v j S ho hf hr hn hj hc hs
  unfold chkW at h
  have h2 := List.all_eq_true.mp h i (List.mem_range.mpr (Array.getElem?_eq_some_iff.1 ho).1)
  simp only [ho, hf, hr, hn] at h2
  have h3 := List.all_eq_true.mp h2 j (List.mem_range.mpr hj)
  rw [hc] at h3
  simp only [hs] at h3
  split at h3
  · rename_i v' hv'
    rw [hv', veq_eq h3]
  · cases h3

/-- What is to be alike. -/
noncomputable def pairsW (P : Program) (base : Nat) (ms : List Nat) (ops : Array Oper) (C : DCert) : List (List (Option ARes × Option ARes)) := (List.range ops.size).map fun i => match ops[i]?, C.frs[i]?, C.recs[i]? with
  | some o, some fr, some (DRec.val v) => match needsH o (aev fr) with
    | false => []
    | true => (List.range (C.effs.length + 1)).map fun j => match condB ms C.effs i j with
      | false => (none, none)
      | true => match C.hs[j]? with
        | none => (none, none)
        | some S => (aop P (addA base (ms.getD i 0) (C.recs.take i) 0 S).get o (aev fr), some (ARes.val v))
  | _, _, _ => []

theorem pairsW_prop {P : Program} {base : Nat} {ms : List Nat} {ops : Array Oper} {C : DCert} (h : (pairsW P base ms ops C).map (·.map Prod.fst) = (pairsW P base ms ops C).map (·.map Prod.snd)) : ChkW P base ms ops C := by
  intro i o fr v j S ho hf hr hn hj hc hs
  have hlt := (Array.getElem?_eq_some_iff.1 ho).1
  have h1 := congrArg (fun l => l[i]?) h
  simp only [List.getElem?_map, pairsW, List.getElem?_range hlt, Option.map_some, ho, hf, hr, hn, Option.some.injEq] at h1
  have h2 := congrArg (fun l => l[j]?) h1
  simpa only [List.getElem?_map, List.getElem?_range hj, Option.map_some, hc, hs, Option.some.injEq] using h2

def chkA (base : Nat) (ms : List Nat) (C : DCert) : Bool := (List.range C.recs.length).all fun i => match C.recs[i]? with
  | some (.alloc ..) => (List.range (C.effs.length + 1)).all fun j => match (C.effs.take j).all (fun e => !befB ms e i) with
    | false => true
    | true => match C.hs[j]? with
      | none => false
      | some S => (S.get (base + i)).isNone
  | _ => true

def chkC (ms : List Nat) : List Nat → Bool
  | a :: b :: r => befB ms b a && chkC ms (b :: r)
  | _ => true

noncomputable def runD (P : Program) (ng : Nat) (call : CallF) (ops : Array Oper) (fr : List Value) (H : Heap) : Option (List Value × Heap) := match chkB ops && chkM ops (masks ops.toList) && dstB fr.length ops with
  | false => none
  | true => match passD P ng call ops H.next (masks ops.toList) ops.toList 0 fr ⟨H.next + ops.size, H.t⟩ [] [] [⟨H.next + ops.size, H.t⟩] [] with
    | none => none
    | some C => match C.effs.isEmpty || (chkC (masks ops.toList) C.effs && chkW P H.next (masks ops.toList) ops C) with
      | false => none
      | true => match chkA H.next (masks ops.toList) C with
        | false => none
        | true => match C.frs[ops.size]?, C.hs[C.effs.length]? with
          | some fr', some S => some (fr', addA H.next (2 ^ ops.size - 1) C.recs 0 S)
          | _, _ => none

/-! ### What the pass tells -/
def IsEff : ARes → Bool
  | .val _ | .alloc .. => false
  | _ => true

section
variable {P : Program} {ng : Nat} {call : CallF} {ops : Array Oper} {base : Nat} {ms : List Nat}

def Val1 (P : Program) (ng : Nat) (call : CallF) (ops : Array Oper) (base : Nat) (ms : List Nat) (C : DCert) (i : Nat) : Prop :=
  ∃ o fr rec, ops[i]? = some o ∧ C.frs[i]? = some fr ∧ C.recs[i]? = some rec ∧ C.frs[i + 1]? = some (fput fr o.dst (rec.value base i)) ∧
    ((rec = .off ∧ awant ops fr o = false) ∨ (awant ops fr o = true ∧ o.op.operands.all (opd1 ng) = true ∧
      ((∃ v l S, rec = .val v ∧ l ≤ C.effs.length ∧ C.hs[l]? = some S ∧ aop P (addA base (ms.getD i 0) (C.recs.take i) 0 S).get o (aev fr) = some (.val v)) ∨
       (∃ c e sl G, rec = .alloc c e sl ∧ aop P G o (aev fr) = some (.alloc c e sl)) ∨
       (∃ v l S S' res, rec = .eff v ∧ C.effs[l]? = some i ∧ C.hs[l]? = some S ∧ C.hs[l + 1]? = some S' ∧ IsEff res = true ∧ aop P (addA base (ms.getD i 0) (C.recs.take i) 0 S).get o (aev fr) = some res ∧
          applyR call (addA base (ms.getD i 0) (C.recs.take i) 0 S) res = some (v, S')))))

/-- A longer one. -/
structure CLe (C C' : DCert) : Prop where
  recs : ∃ x, C'.recs = C.recs ++ x
  frs : ∃ x, C'.frs = C.frs ++ x
  hs : ∃ x, C'.hs = C.hs ++ x
  effs : ∃ x, C'.effs = C.effs ++ x

theorem get_app {α : Type} {l x l' : List α} (h : l' = l ++ x) {i : Nat} {a : α} (ha : l[i]? = some a) : l'[i]? = some a := by
  rw [h, List.getElem?_append_left (List.getElem?_eq_some_iff.1 ha).1]; exact ha

theorem Val1.mono {C C' : DCert} (hl : CLe C C') {i : Nat} (h : Val1 P ng call ops base ms C i) : Val1 P ng call ops base ms C' i := by
  obtain ⟨⟨x1, e1⟩, ⟨x2, e2⟩, ⟨x3, e3⟩, ⟨x4, e4⟩⟩ := hl
  obtain ⟨o, fr, rec, h1, h2, h3, h4, h5⟩ := h
  have ht : C'.recs.take i = C.recs.take i := by
    rw [e1, List.take_append_of_le_length]
    have := (List.getElem?_eq_some_iff.1 h3).1
    omega
  refine ⟨o, fr, rec, h1, get_app e2 h2, get_app e1 h3, get_app e2 h4, ?_⟩
  rcases h5 with h5 | ⟨h5, h6, h7⟩
  · exact .inl h5
  · refine .inr ⟨h5, h6, ?_⟩
    rcases h7 with ⟨v, l, S, q1, q2, q3, q4⟩ | h7 | ⟨v, l, S, S', res, q1, q2, q3, q4, q5, q6, q7⟩
    · exact .inl ⟨v, l, S, q1, by rw [e4]; simp; omega, get_app e3 q3, by rw [ht]; exact q4⟩
    · exact .inr (.inl h7)
    · exact .inr (.inr ⟨v, l, S, S', res, q1, get_app e4 q2, get_app e3 q3, get_app e3 q4, q5, by rw [ht]; exact q6, by rw [ht]; exact q7⟩)

/-- What holds all along. -/
structure PInv (P : Program) (ng : Nat) (call : CallF) (ops : Array Oper) (base : Nat) (ms : List Nat) (C : DCert) (i : Nat) (S : Heap) : Prop where
  recs : C.recs.length = i
  frs : C.frs.length = i + 1
  hs : C.hs.length = C.effs.length + 1
  last : C.hs[C.effs.length]? = some S
  lt : ∀ (l e : Nat), C.effs[l]? = some e → e < i
  eff : ∀ (j : Nat) (v : Value), C.recs[j]? = some (.eff v) → j ∈ C.effs
  inc : ∀ (l m e : Nat), C.effs[l]? = some e → C.effs[m]? = some e → l = m
  effr : ∀ (l e : Nat), C.effs[l]? = some e → ∃ v, C.recs[e]? = some (.eff v)
  val : ∀ (j : Nat), j < i → Val1 P ng call ops base ms C j

theorem take_all {α : Type} {l : List α} {n : Nat} (h : l.length = n) : l.take n = l := by rw [← h]; exact List.take_length

theorem passD_ok : ∀ (l : List Oper) (i : Nat) (fr : List Value) (S : Heap) (recs : List DRec) (frs : List (List Value)) (hs : List Heap) (effs : List Nat) (C' : DCert), l = ops.toList.drop i → i ≤ ops.size →
    PInv P ng call ops base ms ⟨recs, frs ++ [fr], hs, effs⟩ i S → passD P ng call ops base ms l i fr S recs frs hs effs = some C' →
    ∃ S', PInv P ng call ops base ms C' ops.size S' ∧ CLe ⟨recs, frs ++ [fr], hs, effs⟩ C' := by
  intro l
  induction l with
  | nil =>
    intro i fr S recs frs hs effs C' hl hi hI h
    simp only [passD, Option.some.injEq] at h
    subst h
    have : i = ops.size := by
      have := congrArg List.length hl
      simp at this
      omega
    subst this
    exact ⟨S, hI, ⟨[], by simp⟩, ⟨[], by simp⟩, ⟨[], by simp⟩, ⟨[], by simp⟩⟩
  | cons o r ih =>
    intro i fr S recs frs hs effs C' hl hi hI h
    have hilt : i < ops.size := by
      rcases Nat.lt_or_ge i ops.size with h1 | h1
      · exact h1
      · rw [List.drop_of_length_le (by simpa using h1)] at hl; cases hl
    have ho : ops[i]? = some o := by
      have : (ops.toList.drop i)[0]? = some o := by rw [← hl]; rfl
      rw [List.getElem?_drop, Array.getElem?_toList] at this
      exact this
    have hr : r = ops.toList.drop (i + 1) := by
      have := congrArg List.tail hl
      simpa [List.tail_drop] using this
    have hR : recs.length = i := hI.recs
    have hF : (frs ++ [fr]).length = i + 1 := hI.frs
    have hFl : frs.length = i := by simpa using hF
    have hfr : ∀ x : List (List Value), ((frs ++ [fr]) ++ x)[i]? = some fr := fun x => by
      rw [List.getElem?_append_left (by omega), List.getElem?_append_right (by omega)]
      simp [hFl]
    have hfr1 : ∀ x : List Value, ((frs ++ [fr]) ++ [x])[i + 1]? = some x := fun x => by
      rw [List.getElem?_append_right (by omega)]
      simp [hFl]
    have hrc : ∀ x : DRec, (recs ++ [x])[i]? = some x := fun x => by rw [List.getElem?_append_right (by omega)]; simp [hR]
    have htk : ∀ x : DRec, (recs ++ [x]).take i = recs := fun x => by rw [List.take_append_of_le_length (by omega)]; exact take_all hR
    -- one operation more, without an effect
    have more : ∀ (rec : DRec) (fr' : List Value), fr' = fput fr o.dst (rec.value base i) → (∀ v, rec ≠ .eff v) → Val1 P ng call ops base ms ⟨recs ++ [rec], (frs ++ [fr]) ++ [fr'], hs, effs⟩ i →
        passD P ng call ops base ms r (i + 1) fr' S (recs ++ [rec]) (frs ++ [fr]) hs effs = some C' → ∃ S', PInv P ng call ops base ms C' ops.size S' ∧ CLe ⟨recs, frs ++ [fr], hs, effs⟩ C' := by
      intro rec fr' hfr' hne hv hp
      have hle : CLe ⟨recs, frs ++ [fr], hs, effs⟩ ⟨recs ++ [rec], (frs ++ [fr]) ++ [fr'], hs, effs⟩ := ⟨⟨_, rfl⟩, ⟨_, rfl⟩, ⟨[], by simp⟩, ⟨[], by simp⟩⟩
      obtain ⟨S', h1, h2⟩ := ih (i + 1) fr' S (recs ++ [rec]) (frs ++ [fr]) hs effs C' hr hilt ⟨by simp [hR], by simp [hFl], hI.hs, hI.last, fun l e he => by have := hI.lt l e he; omega, fun j v hj => by
        rcases Nat.lt_or_ge j recs.length with h3 | h3
        · exact hI.eff j v (by rw [List.getElem?_append_left h3] at hj; exact hj)
        · rw [List.getElem?_append_right h3] at hj
          have : j - recs.length = 0 := by
            have := (List.getElem?_eq_some_iff.1 hj).1
            simp at this
            omega
          rw [this] at hj
          simp at hj
          exact absurd hj (hne v), hI.inc, fun l e he => by obtain ⟨v, h9⟩ := hI.effr l e he; exact ⟨v, get_app (x := [rec]) rfl h9⟩, fun j hj => by
        by_cases e : j = i
        · rw [e]; exact hv
        · exact (hI.val j (by omega)).mono hle⟩ hp
      exact ⟨S', h1, ⟨by obtain ⟨x, hx⟩ := h2.recs; exact ⟨[rec] ++ x, by rw [hx]; simp⟩, by obtain ⟨x, hx⟩ := h2.frs; exact ⟨[fr'] ++ x, by rw [hx]; simp⟩, h2.hs, h2.effs⟩⟩
    unfold passD at h
    split at h
    · rename_i hw
      exact more .off _ rfl (fun v hv => by cases hv) ⟨o, fr, .off, ho, hfr _, hrc _, hfr1 _, .inl ⟨rfl, hw⟩⟩ h
    · rename_i hw
      split at h
      · cases h
      · rename_i hops
        replace hops := opsOk_all hops
        split at h
        · cases h
        · rename_i v hv
          exact more (.val v) _ rfl (fun v hv => by cases hv) ⟨o, fr, .val v, ho, hfr _, hrc _, hfr1 _, .inr ⟨hw, hops, .inl ⟨v, effs.length, S, rfl, Nat.le_refl _, hI.last, by rw [htk]; exact hv⟩⟩⟩ h
        · rename_i c e sl hv
          exact more (.alloc c e sl) _ rfl (fun v hv => by cases hv) ⟨o, fr, .alloc c e sl, ho, hfr _, hrc _, hfr1 _, .inr ⟨hw, hops, .inr (.inl ⟨c, e, sl, _, rfl, hv⟩)⟩⟩ h
        · rename_i res hne1 hne2 hv
          split at h
          · cases h
          · rename_i v S' ha
            have hle : CLe ⟨recs, frs ++ [fr], hs, effs⟩ ⟨recs ++ [.eff v], (frs ++ [fr]) ++ [fput fr o.dst v], hs ++ [S'], effs ++ [i]⟩ := ⟨⟨_, rfl⟩, ⟨_, rfl⟩, ⟨_, rfl⟩, ⟨_, rfl⟩⟩
            have hhl : hs.length = effs.length + 1 := hI.hs
            have hie : IsEff res = true := by
              cases res <;> first | rfl | exact (hne1 _ rfl).elim | exact (hne2 _ _ _ rfl).elim
            obtain ⟨S2, h1, h2⟩ := ih (i + 1) (fput fr o.dst v) S' (recs ++ [.eff v]) (frs ++ [fr]) (hs ++ [S']) (effs ++ [i]) C' hr hilt ⟨by simp [hR], by simp [hFl], by simp [hhl], by simp [hhl], fun l e he => by
              rcases Nat.lt_or_ge l effs.length with h3 | h3
              · rw [List.getElem?_append_left h3] at he
                have := hI.lt l e he; omega
              · rw [List.getElem?_append_right h3] at he
                have hz : l - effs.length = 0 := by
                  have := (List.getElem?_eq_some_iff.1 he).1
                  simp at this
                  omega
                rw [hz] at he; simp at he; omega, fun j u hj => by
              rcases Nat.lt_or_ge j recs.length with h3 | h3
              · exact List.mem_append_left _ (hI.eff j u (by rw [List.getElem?_append_left h3] at hj; exact hj))
              · have hz := (List.getElem?_eq_some_iff.1 hj).1
                simp at hz
                have : j = i := by omega
                rw [this]; simp, fun l m e hl hm => by
              have key : ∀ l, (effs ++ [i])[l]? = some e → (l < effs.length ∧ effs[l]? = some e) ∨ (l = effs.length ∧ e = i) := by
                intro l hl
                rcases Nat.lt_or_ge l effs.length with h3 | h3
                · exact .inl ⟨h3, by rw [List.getElem?_append_left h3] at hl; exact hl⟩
                · rw [List.getElem?_append_right h3] at hl
                  have hz : l - effs.length = 0 := by
                    have := (List.getElem?_eq_some_iff.1 hl).1
                    simp at this
                    omega
                  rw [hz] at hl; simp at hl
                  exact .inr ⟨by omega, hl.symm⟩
              rcases key l hl with ⟨h3, h4⟩ | ⟨h3, h4⟩
              · rcases key m hm with ⟨h5, h6⟩ | ⟨h5, h6⟩
                · exact hI.inc l m e h4 h6
                · have := hI.lt l e h4; omega
              · rcases key m hm with ⟨h5, h6⟩ | ⟨h5, h6⟩
                · have := hI.lt m e h6; omega
                · omega, fun l e he => by
              rcases Nat.lt_or_ge l effs.length with h3 | h3
              · rw [List.getElem?_append_left h3] at he
                obtain ⟨u, h9⟩ := hI.effr l e he
                exact ⟨u, get_app (x := [.eff v]) rfl h9⟩
              · rw [List.getElem?_append_right h3] at he
                have hz : l - effs.length = 0 := by
                  have := (List.getElem?_eq_some_iff.1 he).1
                  simp at this
                  omega
                rw [hz] at he; simp at he; subst he
                exact ⟨v, hrc _⟩, fun j hj => by
              by_cases e : j = i
              · rw [e]
                refine ⟨o, fr, .eff v, ho, hfr _, hrc _, hfr1 _, .inr ⟨hw, hops, .inr (.inr ⟨v, effs.length, S, S', res, rfl, by simp, ?_, ?_, hie, by rw [htk]; exact hv, by rw [htk]; exact ha⟩)⟩⟩
                · exact get_app (x := [S']) rfl hI.last
                · rw [List.getElem?_append_right (by omega)]; simp [hhl]
              · exact (hI.val j (by omega)).mono hle⟩ h
            exact ⟨S2, h1, ⟨by obtain ⟨x, hx⟩ := h2.recs; exact ⟨[.eff v] ++ x, by rw [hx]; simp⟩, by obtain ⟨x, hx⟩ := h2.frs; exact ⟨[fput fr o.dst v] ++ x, by rw [hx]; simp⟩, by obtain ⟨x, hx⟩ := h2.hs; exact ⟨[S'] ++ x, by rw [hx]; simp⟩, by obtain ⟨x, hx⟩ := h2.effs; exact ⟨[i] ++ x, by rw [hx]; simp⟩⟩⟩
end
end Go.Proofs.Ytdcojinnjpihaaa.X
