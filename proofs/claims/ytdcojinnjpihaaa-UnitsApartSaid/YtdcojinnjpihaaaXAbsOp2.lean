/- One operation of the plain run (new blocks, aggregates, appends). No condition. -/
import Derived.Test.YtdcojinnjpihaaaXAbsOp
namespace Go.Proofs.Ytdcojinnjpihaaa.X
open Go Go.RowKit
set_option linter.unusedVariables false
set_option linter.unusedSimpArgs false

section
variable {P : Program} {w0 W : World} {μ : Nat → Option Loc} {G : Nat → Option AObj} {o : Oper} {ρ ρ' : Operand → Value}

/-! ### Aggregates -/
inductive PR (μ : Nat → Option Loc) : List (Nat × Value) → List (Nat × Value) → Prop
  | nil : PR μ [] []
  | cons {i x y r r'} (h : VR μ x y) (h' : PR μ r r') : PR μ ((i, x) :: r) ((i, y) :: r')

theorem VL.set {xs ys : List Value} (h : VL μ xs ys) {x y : Value} (hr : VR μ x y) (i : Nat) : VL μ (xs.set i x) (ys.set i y) := by
  refine .of_get (by simp [h.1]) fun j z hz => ?_
  rw [List.getElem?_set] at hz ⊢
  split at hz
  · rename_i e
    rw [if_pos e]
    split at hz
    · rename_i h1; rw [if_pos (by rw [← h.1]; exact h1)]; cases hz; exact ⟨y, rfl, hr⟩
    · cases hz
  · rename_i e
    rw [if_neg e]
    exact h.get hz

theorem fold_rel (off : Nat) : ∀ (l l' : List Value) (j : Nat) (cs cs' : Array Value), VL μ l l' → VL μ cs.toList cs'.toList →
    VL μ ((l.zipIdx j).foldl (fun cs (p : Value × Nat) => cs.setIfInBounds (off + p.2) p.1) cs).toList ((l'.zipIdx j).foldl (fun cs (p : Value × Nat) => cs.setIfInBounds (off + p.2) p.1) cs').toList := by
  intro l
  induction l with
  | nil => intro l' j cs cs' h hc; rw [h.inv_nil]; exact hc
  | cons x r ih =>
    intro l' j cs cs' h hc
    obtain ⟨y, r', rfl, hxy, hr⟩ := h.inv_cons
    simp only [List.zipIdx_cons, List.foldl_cons]
    exact ih r' (j + 1) _ _ hr (by simpa using hc.set hxy (off + j))

theorem fill_rel (place : Nat → Option (Nat × Nat)) {ps ps' : List (Nat × Value)} (hp : PR μ ps ps') : ∀ {cs cs' : Array Value} {r : Array Value}, VL μ cs.toList cs'.toList → Instr.fill place cs ps = some r →
    ∃ r', Instr.fill place cs' ps' = some r' ∧ VL μ r.toList r'.toList := by
  induction hp with
  | nil => intro cs cs' r hc h; simp only [Instr.fill, Option.some.injEq] at h; subst h; exact ⟨cs', rfl, hc⟩
  | cons hxy _ ih =>
    rename_i i x y _ _ _
    intro cs cs' r hc h
    simp only [Instr.fill] at h ⊢
    cases hpl : place i with
    | none => simp [hpl] at h
    | some q =>
      obtain ⟨off, size⟩ := q
      simp only [hpl] at h ⊢
      have h1 : y.cells.size = x.cells.size := by have := hxy.cells.1; simpa using this.symm
      have h2 : cs'.size = cs.size := by have := hc.1; simpa using this.symm
      rw [h1, h2]
      split at h
      · cases h
      · rename_i hne
        rw [if_neg hne]
        refine ih ?_ h
        have := fold_rel (μ := μ) off x.cells.toList y.cells.toList 0 cs cs' hxy.cells hc
        rw [← Array.foldl_toList, ← Array.foldl_toList, Array.toList_zipIdx, Array.toList_zipIdx]
        exact this

def abuild (P : Program) (t : Nat) (parts : List (Nat × Value)) : Option Value := match (P.info? t).bind (·.zero) with
  | none => none
  | some z => match z.cells.toList.all flat1 with
    | false => none
    | true => match P.underlying t with
      | some (.struct fs) => match quiet P (fs.mapM fun f => do pure (f.offset, ← sizeOf f.type) : Sem (Array (Nat × Nat))) with
        | none => none
        | some pl => (Instr.fill (pl[·]?) z.cells parts).map .agg
      | some (.array _ e) => match szOf P e with
        | none => none
        | some n => (Instr.fill (fun i => some (i * n, n)) z.cells parts).map .agg
      | _ => none

theorem flats_rel {cs : List Value} (h : cs.all flat1 = true) : VL μ cs cs := ⟨rfl, fun i x y hx hy => by rw [hx] at hy; cases hy; exact flat1_rel (List.all_eq_true.mp h x (List.mem_of_getElem? hx))⟩

theorem run_zero {t : Nat} {z : Value} (h : (P.info? t).bind (·.zero) = some z) : (zeroValue t).run P W = .ok z W := by
  cases hi : P.info? t with
  | none => simp [hi] at h
  | some i => simp only [hi, Option.bind_some] at h; simp [zeroValue, typeInfo, hi, h]

theorem ok_build {t : Nat} {ps ps' : Array (Nat × Value)} {v : Value} (h : abuild P t ps.toList = some v) (hp : PR μ ps.toList ps'.toList) : ∃ v', (Instr.build t ps').run P W = .ok v' W ∧ VR μ v v' := by
  unfold abuild at h
  split at h
  · cases h
  · rename_i z hz
    split at h
    · cases h
    · rename_i hfl
      split at h
      · rename_i fs hu
        split at h
        · cases h
        · rename_i pl hq
          cases hf : Instr.fill (pl[·]?) z.cells ps.toList with
          | none => simp [hf] at h
          | some r =>
            simp only [hf, Option.map_some, Option.some.injEq] at h
            subst h
            obtain ⟨r', h1, h2⟩ := fill_rel _ hp (flats_rel hfl) hf
            refine ⟨.agg r', ?_, h2.agg⟩
            simp only [Instr.build, Sem.run_bind, run_zero hz, Result.andThen_ok, run_underlying hu, quiet_run hq, h1, Sem.run_pure]
      · rename_i n e hu
        split at h
        · cases h
        · rename_i n hn
          obtain ⟨ie, hie, hsz⟩ := szOf_info hn
          subst hsz
          cases hf : Instr.fill (fun i => some (i * ie.size, ie.size)) z.cells ps.toList with
          | none => simp [hf] at h
          | some r =>
            simp only [hf, Option.map_some, Option.some.injEq] at h
            subst h
            obtain ⟨r', h1, h2⟩ := fill_rel _ hp (flats_rel hfl) hf
            refine ⟨.agg r', ?_, h2.agg⟩
            simp only [Instr.build, Sem.run_bind, run_zero hz, Result.andThen_ok, run_underlying hu, sizeOf, typeInfo, run_program, hie, Sem.run_pure, h1]
      · cases h

/-! ### New blocks -/
theorem ok_newRow {c c' : List Value} {e n : Nat} (hs : szOf P e = some n) (hc : VL μ c c') (hw : HR P w0 μ G W) {k : Nat} (hk : μ k = none) :
    ∃ W', (newRow e c'.toArray).run P W = .ok ⟨W.heap.size, 0, none⟩ W' ∧ HR P w0 (upd μ k ⟨W.heap.size, 0, n, c'.length⟩) (upd G k (.row c (e, true))) W' := by
  refine ⟨W.alloc (.cells c'.toArray e), by simp [newRow], ?_⟩
  exact hw.alloc (e := (e, true)) hk (fun i x hx => hc.get hx) (fun i _ => by simp) (Nat.le_refl _) (by rw [hc.1]; exact Nat.le_refl _) hs (fun _ => hc.1.symm)

theorem ok_var {t n : Nat} {v v' : Value} (hs : szOf P t = some n) (hv : VR μ v v') (hw : HR P w0 μ G W) {k : Nat} (hk : μ k = none) :
    ∃ W', (newVar t v').run P W = .ok ⟨W.heap.size, 0, none⟩ W' ∧ HR P w0 (upd μ k ⟨W.heap.size, 0, n, v'.cells.toList.length⟩) (upd G k (.row v.cells.toList (t, true))) W' := by
  obtain ⟨W', h1, h2⟩ := ok_newRow (c' := v'.cells.toList) hs hv.cells hw hk
  exact ⟨W', by simpa [newVar] using h1, h2⟩

/-- A pattern, again and again. -/
def zrep (zs : List Value) : Nat → List Value
  | 0 => []
  | n + 1 => zs ++ zrep zs n

theorem zrep_length (zs : List Value) (n : Nat) : (zrep zs n).length = n * zs.length := by
  induction n with
  | zero => simp [zrep]
  | succ n ih => simp [zrep, ih, Nat.add_mul]; omega

theorem zrep_get (zs : List Value) (hz : 0 < zs.length) : ∀ (n i : Nat), i < n * zs.length → (zrep zs n)[i]? = zs[i % zs.length]? := by
  intro n
  induction n with
  | zero => intro i h; simp at h
  | succ n ih =>
    intro i h
    unfold zrep
    by_cases hi : i < zs.length
    · rw [List.getElem?_append_left hi, Nat.mod_eq_of_lt hi]
    · rw [List.getElem?_append_right (by omega), ih _ (by rw [Nat.succ_mul] at h; omega), Nat.mod_eq_sub_mod (by omega : i ≥ zs.length)]

theorem zrep_flat {zs : List Value} (h : zs.all flat1 = true) (n : Nat) : (zrep zs n).all flat1 = true := by
  induction n with
  | zero => rfl
  | succ n ih => simp only [zrep, List.all_append, h, ih, Bool.and_self]

theorem zrep_eq {z : Array Value} {n m : Nat} (hz : z.size = m) (hm : 0 < m) : (Array.range (n * m)).map (fun i => z[i % z.size]!) = (zrep z.toList n).toArray := by
  apply Array.ext_getElem?
  intro i
  by_cases hi : i < n * m
  · have h1 : (Array.range (n * m))[i]? = some i := by simp [hi]
    rw [Array.getElem?_map, h1, List.getElem?_toArray, zrep_get z.toList (by simp; omega) n i (by simp [hz, hi])]
    have h2 : i % z.size < z.size := Nat.mod_lt _ (by omega)
    simp [h2]
  · rw [Array.getElem?_eq_none (by simp; omega), Array.getElem?_eq_none (by simp [zrep_length, hz]; omega)]

def zeroC (P : Program) (e : Nat) : Option (List Value) := match (P.info? e).bind (·.zero) with
  | none => none
  | some z => match z.cells.toList.all flat1 with
    | true => some z.cells.toList
    | false => none

theorem zeroC_spec {e : Nat} {zs : List Value} (h : zeroC P e = some zs) : ∃ z, (P.info? e).bind (·.zero) = some z ∧ z.cells.toList = zs ∧ zs.all flat1 = true := by
  unfold zeroC at h
  split at h
  · cases h
  · rename_i z hz
    split at h
    · rename_i hf
      cases h
      exact ⟨z, hz, rfl, hf⟩
    · cases h

def amake (P : Program) (t : Nat) (l c : Value) : Option ARes := match P.underlying t with
  | some (.slice e) => match l, c with
    | .int _ (.ofNat n), .int _ (.ofNat m) => match szOf P e, zeroC P e, P.info? e with
      | some sz, some zs, some ie => match Nat.blt 0 sz && Nat.beq zs.length sz && Nat.ble n m && Nat.ble m 9223372036854775807 && Nat.ble (ie.bytes * m) 281474976710656 with
        | true => some (.alloc (zrep zs m) (e, true) (some (n, m)))
        | false => none
      | _, _, _ => none
    | _, _ => none
  | _ => none

theorem ok_make {t : Nat} {l c l' c' : Value} {r : ARes} (h : amake P t l c = some r) (hl : VR μ l l') (hc : VR μ c c') (hw : HR P w0 μ G W) :
    AOk P w0 μ G W ((do pure (.value (← Instr.makeSlice t l' c')) : Sem Next).run P W) r := by
  unfold amake at h
  split at h
  · rename_i e hu
    split at h
    · rename_i k1 n k2 m
      cases hl; cases hc
      split at h
      · rename_i sz zs ie hs hz hie
        split at h
        · rename_i hb
          cases h
          simp only [Bool.and_eq_true] at hb
          obtain ⟨⟨⟨⟨h1, h2⟩, h3⟩, h4⟩, h5⟩ := hb
          have h1 : 0 < sz := Nat.le_of_ble_eq_true h1
          have h2 := Nat.eq_of_beq_eq_true h2
          have h3 := Nat.le_of_ble_eq_true h3
          have h4 := Nat.le_of_ble_eq_true h4
          have h5 := Nat.le_of_ble_eq_true h5
          obtain ⟨z, hz0, rfl, hzf⟩ := zeroC_spec hz
          obtain ⟨i2, hi2, hsz⟩ := szOf_info hs
          rw [hie] at hi2; cases hi2
          intro k hk
          have hi5 : (ie.bytes : Int) * (m : Int) ≤ 281474976710656 := by
            have h6 : ((ie.bytes * m : Nat) : Int) ≤ 281474976710656 := by omega
            rwa [Int.natCast_mul] at h6
          have hzz : ie.zero = some z := by rw [hie] at hz0; simpa using hz0
          have hrun := run_make (P := P) W t e ie z hu hie hzz k1 k2 n m (by omega) (by omega) hi5 (by omega)
          have hzr : madeCells z.cells (m * ie.size) = (zrep z.cells.toList m).toArray := by
            have h7 : z.cells.size = ie.size := by rw [hsz, ← h2]; simp
            exact zrep_eq h7 (by omega)
          simp only [Int.toNat_natCast, hzr] at hrun
          refine ⟨.slice (some ⟨W.heap.size, 0, none⟩) n m, _, ⟨W.heap.size, 0, sz, (zrep z.cells.toList m).length⟩, ?_, ?_, hw.alloc (c := zrep z.cells.toList m) (c' := zrep z.cells.toList m) (e := (e, true)) (fr := (0, 0)) hk (fun i x hx => (flats_rel (zrep_flat hzf m)).get hx) (fun i _ => by simp) (Nat.le_refl _) (Nat.le_refl _) hs (fun _ => rfl)⟩
          · have e1 : Int.ofNat n = (n : Int) := rfl
            have e2 : Int.ofNat m = (m : Int) := rfl
            simp only [Sem.run_bind, e1, e2, hrun, Result.andThen_ok, Sem.run_pure]
          · refine .slice (upd_same _ _ _) h3 (Nat.le_refl _) ?_
            simp [zrep_length, h2]
        · cases h
      · cases h
    · cases h
  · cases h
end
end Go.Proofs.Ytdcojinnjpihaaa.X
