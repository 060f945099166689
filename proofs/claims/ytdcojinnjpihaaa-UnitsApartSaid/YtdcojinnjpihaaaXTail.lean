/- A region whose order is drawn, with stores into blocks that it makes itself (such a block is not told behind it). No condition. -/
import Derived.Test.YtdcojinnjpihaaaXLate
namespace Go.Proofs.Ytdcojinnjpihaaa.X
open Go Go.RowKit

inductive TFact where
  | fix (u : Value)
  | lit (e n : Nat) (C : Array Value)
  | new (T k : Nat)
  | any

def TFact.holds (W : World) : TFact → Value → World → Prop
  | .fix u, v, _ => v = u
  | .lit e n C, v, w => ∃ b, v = .slice (some ⟨b, 0, none⟩) n n ∧ Wd W w [(b, .cells C e (0, 0))] []
  | .new T k, v, w => ∃ b C, C.size = k ∧ v = .pointer (some ⟨b, 0, none⟩) ∧ Wd W w [(b, .cells C T (0, 0))] []
  | .any, _, _ => True

def tfacts (W : World) (L : List TFact) (j : Nat) (v : Value) (w : World) : Prop := (L.getD j .any).holds W v w

theorem tfacts_mono (W : World) (L : List TFact) (j : Nat) (v : Value) (w w' : World) (hb : Below w.heap.size w w') (h : tfacts W L j v w) : tfacts W L j v w' := by
  unfold tfacts at *
  cases hf : L.getD j .any with
  | fix u => rw [hf] at h; exact h
  | lit e n C => rw [hf] at h; obtain ⟨b, e, hw⟩ := h; exact ⟨b, e, hw.call hb⟩
  | new T k => rw [hf] at h; obtain ⟨b, C, hs, e, hw⟩ := h; exact ⟨b, C, hs, e, hw.call hb⟩
  | any => trivial

theorem Wd.one {W w : World} {b : Nat} {o : Obj} (hb : Below W.heap.size W w) (h1 : W.heap.size ≤ b) (h2 : w.heap[b]? = some o) : Wd W w [(b, o)] [] := by
  refine ⟨hb, fun i p hp => ?_, fun _ _ h => by simp at h, fun i j p q hp hq hne => ?_, fun _ _ _ _ h => by simp at h, fun _ _ _ _ _ h => by simp at h⟩
  · cases i with
    | zero =>
      simp only [List.getElem?_cons_zero, Option.some.injEq] at hp
      subst hp
      exact ⟨h1, h2⟩
    | succ i => simp at hp
  · cases i with
    | zero =>
      cases j with
      | zero => exact absurd rfl hne
      | succ j => simp at hq
    | succ i => simp at hp

/-- No literal of the type T. -/
def clearB (T : Nat) (L : List TFact) : Bool := L.all fun f => match f with
  | .lit e _ _ => !Nat.beq e T
  | _ => true

theorem tfacts_store {W w w' : World} {L : List TFact} {T b : Nat} {C C' : Array Value} (hL : clearB T L = true) (hw : Wd W w [(b, .cells C T (0, 0))] []) (hsz : C'.size = C.size) (ho : w'.heap[b]? = some (.cells C' T (0, 0)))
    (hg : w.grownBy w' (some b)) (j : Nat) (v : Value) (h : tfacts W L j v w) : tfacts W L j v w' := by
  have h0 := hw.blk 0 _ rfl
  have hwn : Wd W w' [(b, .cells C' T (0, 0))] [] := hw.turnb (i := 0) rfl ho hg
  have keep : ∀ {b2 : Nat} {o : Obj}, b2 ≠ b → Wd W w [(b2, o)] [] → Wd W w' [(b2, o)] [] := by
    intro b2 o hne h2
    have h3 := h2.blk 0 _ rfl
    exact Wd.one hwn.below h3.1 ((hg.block b2 (wlt h3.2) (by simpa using hne)).trans h3.2)
  unfold tfacts at *
  cases hf : L.getD j .any with
  | fix u => rw [hf] at h; exact h
  | lit e n C2 =>
    rw [hf] at h
    obtain ⟨b2, e2, h2⟩ := h
    refine ⟨b2, e2, keep (fun q => ?_) h2⟩
    subst q
    have h3 := (h2.blk 0 _ rfl).2
    rw [h0.2] at h3
    simp only [Option.some.injEq, Obj.cells.injEq] at h3
    have hmem : TFact.lit e n C2 ∈ L := by
      rw [List.getD_eq_getElem?_getD] at hf
      cases hx : L[j]? with
      | none => rw [hx] at hf; simp at hf
      | some f => rw [hx] at hf; simp only [Option.getD_some] at hf; rw [← hf]; exact List.mem_of_getElem? hx
    have := List.all_eq_true.mp hL _ hmem
    rw [← h3.2.1] at this
    replace this : (!Nat.beq T T) = true := this
    rw [Nat.beq_refl] at this
    cases this
  | new T2 k =>
    rw [hf] at h
    obtain ⟨b2, C2, hs, e2, h2⟩ := h
    by_cases q : b2 = b
    · subst q
      have h3 := (h2.blk 0 _ rfl).2
      rw [h0.2] at h3
      simp only [Option.some.injEq, Obj.cells.injEq] at h3
      obtain ⟨q1, q2, _⟩ := h3
      subst q1 q2
      exact ⟨_, C', by rw [hsz]; exact hs, e2, hwn⟩
    · exact ⟨b2, C2, hs, e2, keep q h2⟩
  | any => trivial

section
variable (P : Program) (n : Nat) (l : List (Nat × Value)) (L : List TFact) (ops : Array Oper) (W : World)
def StoreT (o : Oper) : Prop := ∀ (a : Act) (w : World), a.tmps.size = n → a.defers = [] → Wd W w [] [] → (∀ s, s ∈ o.looksAt ops → Seen l (tfacts W L) ops o a w s) →
  Region.wanted o (yielded ops a.tmps) = true ∧ o.wp P a w (fun a' w' => a' = a.put o.dst undef ∧ Wd W w' [] [] ∧ ∀ j u, tfacts W L j u w → tfacts W L j u w') (fun _ _ _ => False)
def OpT (i : Nat) (o : Oper) : Prop := match o.dst with
  | none => (match L.getD i .any with
    | .any => True
    | _ => False) ∧ StoreT P n l L ops W o
  | some _ => OpOk P n l (tfacts W L) ops W [] [] i o
def OpsT : Nat → List Oper → Prop
  | _, [] => True
  | i, o :: r => OpT P n l L ops W i o ∧ OpsT (i + 1) r
end
theorem OpsT.get {P : Program} {n : Nat} {l : List (Nat × Value)} {L : List TFact} {ops : Array Oper} {W : World} : ∀ (r : List Oper) (i : Nat), OpsT P n l L ops W i r → ∀ (j : Nat) (o : Oper), r[j]? = some o → OpT P n l L ops W (i + j) o
  | [], _, _, _, _, h => by simp at h
  | x :: r, i, h, 0, o, e => by
    simp only [List.getElem?_cons_zero, Option.some.injEq] at e
    subst e
    exact h.1
  | x :: r, i, h, j + 1, o, e => by
    have := OpsT.get r (i + 1) h.2 j o (by simpa using e)
    rwa [show i + (j + 1) = i + 1 + j by omega]

section
variable {P : Program} {n : Nat} {l : List (Nat × Value)} {ops : Array Oper} {W w0 : World} {bs : List (Nat × Obj)} {os : List OwnA} {a : Act} {Q : Exit → Act → World → Prop}
theorem regionT {id : Nat} (m : Nat) (hm : P.follows .mixedOrders = true) (hchk : (chkB ops && dstB n ops && Nat.ble m ops.size && chkS m ops) = true) (ha : Has n l a) (HW : Wd w0 W bs os) (L : List TFact)
    (hop : OpsT P n l L ops W 0 (ops.toList.take m))
    (hend : ∀ (a : Act) (w : World), Has n [] a → Wd w0 w bs os → (∀ s v, look l s = some v → freeB m ops s = true → a.tmps[s]? = some v) →
      (∀ (j d : Nat), Nat.blt j m = true → (ops[j]?).bind (·.dst) = some d → ∃ v, a.tmps[d]? = some v ∧ tfacts W L j v w) → wpList P ops Q (ops.toList.drop m) a w) : (Code.region id ops true).wp P Q a W := by
  simp only [Bool.and_eq_true] at hchk
  obtain ⟨⟨⟨hc1, hc2⟩, hc3⟩, hc4⟩ := hchk
  have hmz := Nat.le_of_ble_eq_true hc3
  refine regionJ (F := tfacts W L) (fun _ w => Wd W w [] []) m hmz hc4 hm hc1 ha (fun k => (Wd.refl W).drew k) (fun i o him hi => ?_) (fun i o d hi hd => ?_) (fun a w h1 h2 h3 h4 h5 => ?_)
  · intro a w listed _ _ _ _ h1 h2 h3 hseen
    have hok := OpsT.get (ops.toList.take m) 0 hop i o (by rw [List.getElem?_take, if_pos him]; simpa using hi)
    rw [Nat.zero_add] at hok
    unfold OpT at hok
    cases hd : o.dst with
    | none =>
      simp only [hd] at hok
      obtain ⟨hany, hst⟩ := hok
      obtain ⟨hw, hwp⟩ := hst a w h1 h2 h3 hseen
      refine .inl ⟨hw, wp_false_mono (fun a' w' hx => ?_) (fun _ _ _ h => h) hwp⟩
      obtain ⟨hx1, hx2, hx3⟩ := hx
      refine ⟨undef, by rw [hd] at hx1; exact hx1, ?_, hx2, hx3⟩
      unfold tfacts
      cases hf : L.getD i .any with
      | any => trivial
      | fix u => rw [hf] at hany; exact hany.elim
      | lit => rw [hf] at hany; exact hany.elim
      | new => rw [hf] at hany; exact hany.elim
    | some d =>
      simp only [hd] at hok
      rcases hok a w h1 h2 h3 hseen with ⟨hw, hwp⟩ | ⟨hw, hf⟩
      · refine .inl ⟨hw, wp_false_mono (fun a' w' hx => ?_) (fun _ _ _ h => h) hwp⟩
        obtain ⟨v, hv, hf, hB⟩ := hx
        exact ⟨v, by rw [hd] at hv; exact hv, hf, h3.call hB, fun j u hfu => tfacts_mono W L j u _ _ hB hfu⟩
      · exact .inr ⟨hw, hf, h3⟩
  · unfold dstB at hc2
    rw [Array.all_eq_true_iff_forall_mem] at hc2
    have := hc2 o (Array.mem_of_getElem? hi)
    simp only [hd] at this
    exact Nat.le_of_ble_eq_true this
  · obtain ⟨listed, _, _, hJ⟩ := h3
    refine hend a w (hasNil h1 h2) (HW.call hJ.below) (fun s v hv hf => h4 s v hv (fun j o hjm hj hd => ?_)) (fun j d hjm hj => ?_)
    · unfold freeB at hf
      have hmem : o ∈ ops.toList.take m := by
        refine List.mem_of_getElem? (i := j) ?_
        rw [List.getElem?_take, if_pos hjm]
        simpa using hj
      have := List.all_eq_true.mp hf o hmem
      simp [hd] at this
    · cases ho : ops[j]? with
      | none => simp [ho] at hj
      | some o => exact h5 j o d (Nat.le_of_ble_eq_true hjm) ho (by simpa [ho] using hj)

variable {o : Oper} {w : World} {E : List (Nat × Value)} {L : List TFact}
def YT (a : Act) (G : World → Prop) : Exit → Act → World → Prop := fun e a' w' => e = .normal ∧ a' = a ∧ G w'
theorem yStepT (G : World → Prop) (ha : Has n E a) (hok : okS E ops o = true)
    (h : ∀ l, Has n (E ++ l) a → (∀ a' w', Has n (E ++ l) a' → G w' → wpList P ops (YT a G) [] a' w') → wpList P ops (YT a G) [o] a w) :
    Region.wanted o (yielded ops a.tmps) = true ∧ o.wp P a w (fun a' w' => a' = a.put o.dst undef ∧ G w') (fun _ _ _ => False) := by
  have hok' := hok
  simp only [okS, Bool.and_eq_true, Option.isNone_iff_eq_none] at hok'
  obtain ⟨⟨h1, h2⟩, h3⟩ := hok'
  have hw := ha.on ops o h2
  have key := h (fullL n a) ha.full (fun a' w' ha' hx => by
    refine ⟨rfl, ?_, hx⟩
    have he : a'.tmps = a.tmps := by
      apply Array.ext_getElem?
      intro i
      by_cases hi : i < n
      · have hl : ∃ u, look (E ++ fullL n a) i = some u := by
          rw [look_append, look_full, if_pos hi]
          cases look E i <;> simp
        obtain ⟨u, hu⟩ := hl
        rw [ha.full.slot i u hu, ha'.slot i u hu]
      · rw [Array.getElem?_eq_none (by rw [ha'.size]; omega), Array.getElem?_eq_none (by rw [ha.size]; omega)]
    have hd' : a'.defers = a.defers := ha'.defers.trans ha.defers.symm
    cases a'
    cases a
    simp only at he hd'
    subst he hd'
    rfl)
  unfold wpList at key
  rw [if_pos hw] at key
  refine ⟨hw, ?_⟩
  rcases key with key | ⟨_, a1, w1, hq⟩
  · refine wp_false_mono' (fun a' w' hx => ?_) (fun e a' w' hne hq => ?_) key
    · obtain ⟨_, h5, h6⟩ := hx
      refine ⟨?_, h6⟩
      rw [h3, h5]; rfl
    · exact hne hq.1
  · cases hq.1

/-- A store into the whole of a block that the region made. -/
theorem storeT (ha : Has n E a) {b : Nat} {C : Array Value} {T : Nat} (hw : Wd W w [(b, .cells C T (0, 0))] []) (t : Nat) (x y : Operand) (v : Value)
    (ho : o.op = .store t x y) (hp : ev E x = .pointer (some ⟨b, 0, none⟩)) (hx : ∀ l, ev (E ++ l) x = ev E x) (hv : ∀ l, ev (E ++ l) y = v) (hs : (P.info? t).map (·.size) = some v.cells.size) (hm : v.cells.size = C.size) (h1 : oneCells v.cells.toList = true)
    (hL : clearB T L = true) (hok : okS E ops o = true) (hok2 : ∀ l, okS (E ++ l) ops o = true) :
    Region.wanted o (yielded ops a.tmps) = true ∧ o.wp P a w (fun a' w' => a' = a.put o.dst undef ∧ Wd W w' [] [] ∧ ∀ j u, tfacts W L j u w → tfacts W L j u w') (fun _ _ _ => False) := by
  have hb := (hw.blk 0 _ rfl).2
  refine yStepT (fun w' => Wd W w' [] [] ∧ ∀ j u, tfacts W L j u w → tfacts W L j u w') ha hok fun l_ ha' HK => ?_
  have hsz : (putAt C 0 v.cells.toList).size = C.size := by
    unfold putAt
    simp only [List.take_zero, List.nil_append, List.size_toArray, List.length_append, List.length_drop, Array.length_toList]
    omega
  have hnew := setRow_heap w b C (putAt C 0 v.cells.toList) T (0, 0) hb
  have hg := grown_setRow w b (putAt C 0 v.cells.toList)
  refine steps (W' := w.setRow b (putAt C 0 v.cells.toList)) ha' (hok2 l_) ?_ fun a' ha'' => HK a' _ ha'' ⟨⟨(hw.turnb (i := 0) rfl hnew hg).below, fun _ _ h => by simp at h, fun _ _ h => by simp at h, fun _ _ _ _ h => by simp at h, fun _ _ _ _ h => by simp at h, fun _ _ _ _ h => by simp at h⟩, fun j u hu => tfacts_store hL hw hsz hnew hg j u hu⟩
  unfold execOp
  simp only [ho, hx, hp, hv, Instr.storeAt, Instr.sureAddr, Sem.run_bind, Sem.run_pure, Result.andThen_ok, run_storeVar_blk hb t 0 v hs (by omega) h1]
end
section
variable {n : Nat} {l : List (Nat × Value)} {ops : Array Oper} {W w : World} {a : Act} {o : Oper} {L : List TFact}
theorem seenT (hs : ∀ s, s ∈ o.looksAt ops → Seen l (tfacts W L) ops o a w s) (s m : Nat) (h : ((o.looksAt ops).any (Nat.beq s), srcOf ops o s) = (true, some m)) : ∃ v, a.tmps[s]? = some v ∧ tfacts W L m v w := by
  simp only [Prod.mk.injEq, List.any_eq_true] at h
  obtain ⟨⟨x, hx, hb⟩, h2⟩ := h
  have e := Nat.eq_of_beq_eq_true hb
  subst e
  have := hs s hx
  unfold Seen at this
  rw [h2] at this
  exact this
theorem seeET (hs : ∀ s, s ∈ o.looksAt ops → Seen l (tfacts W L) ops o a w s) (s : Nat) (v : Value) (h : ((o.looksAt ops).any (Nat.beq s), srcOf ops o s) = (true, none)) (hl : look l s = some v) : a.tmps[s]? = some v := by
  simp only [Prod.mk.injEq, List.any_eq_true] at h
  obtain ⟨⟨x, hx, hb⟩, h2⟩ := h
  have e := Nat.eq_of_beq_eq_true hb
  subst e
  have := hs s hx
  unfold Seen at this
  rw [h2] at this
  exact this v hl
theorem seeFT (hs : ∀ s, s ∈ o.looksAt ops → Seen l (tfacts W L) ops o a w s) (s m : Nat) (v : Value) (h : ((o.looksAt ops).any (Nat.beq s), srcOf ops o s) = (true, some m)) (hL : L.getD m .any = .fix v) : a.tmps[s]? = some v := by
  obtain ⟨u, hu, hf⟩ := seenT hs s m h
  unfold tfacts at hf
  rw [hL] at hf
  rw [hu, show u = v from hf]
theorem seeLT {α : Type} {enc : α → List Value} (hs : ∀ s, s ∈ o.looksAt ops → Seen l (tfacts W L) ops o a w s) (s m sz e : Nat) (C : Array Value) (xs : List α) (h : ((o.looksAt ops).any (Nat.beq s), srcOf ops o s) = (true, some m)) (hL : L.getD m .any = .lit e xs.length C) (hsz : ∀ x, (enc x).length = sz) (hC : C = (encs enc xs).toArray) :
    ∃ b, a.tmps[s]? = some (.slice (some ⟨b, 0, none⟩) xs.length xs.length) ∧ Rd sz w (.slice (some ⟨b, 0, none⟩) xs.length xs.length) xs.length (encs enc xs) := by
  obtain ⟨u, hu, hf⟩ := seenT hs s m h
  unfold tfacts at hf
  rw [hL] at hf
  obtain ⟨b, rfl, hw⟩ := hf
  exact ⟨b, hu, rd_blk hw (i := 0) rfl hsz xs hC⟩
theorem seeNT (hs : ∀ s, s ∈ o.looksAt ops → Seen l (tfacts W L) ops o a w s) (s m T k : Nat) (h : ((o.looksAt ops).any (Nat.beq s), srcOf ops o s) = (true, some m)) (hL : L.getD m .any = .new T k) :
    ∃ b C, a.tmps[s]? = some (.pointer (some ⟨b, 0, none⟩)) ∧ C.size = k ∧ Wd W w [(b, .cells C T (0, 0))] [] := by
  obtain ⟨u, hu, hf⟩ := seenT hs s m h
  unfold tfacts at hf
  rw [hL] at hf
  obtain ⟨b, C, h1, rfl, hw⟩ := hf
  exact ⟨b, C, hu, h1, hw⟩
theorem gotFT {m j d : Nat} {v : Value} (h : ∀ (j d : Nat), Nat.blt j m = true → (ops[j]?).bind (·.dst) = some d → ∃ v, a.tmps[d]? = some v ∧ tfacts W L j v w) (hjm : Nat.blt j m = true) (hj : (ops[j]?).bind (·.dst) = some d) (hL : L.getD j .any = .fix v) : a.tmps[d]? = some v := by
  obtain ⟨u, hu, hf⟩ := h j d hjm hj
  unfold tfacts at hf
  rw [hL] at hf
  rw [hu, show u = v from hf]
end
end Go.Proofs.Ytdcojinnjpihaaa.X
