/- One operation of the plain run (slices that are made, conversions, appends). No condition. -/
import Derived.Test.YtdcojinnjpihaaaXAbsOp2
import Derived.Laws.IdiomStrings
namespace Go.Proofs.Ytdcojinnjpihaaa.X
open Go Go.RowKit

section
variable {P : Program} {w0 W : World} {μ : Nat → Option Loc} {G : Nat → Option AObj} {o : Oper} {ρ ρ' : Operand → Value}

def abuildS (P : Program) (t len : Nat) (parts : List (Nat × Value)) : Option ARes := match P.underlying t with
  | some (.slice e) => match szOf P e with
    | none => none
    | some sz => match Nat.ble (len * sz) 16777216 with
      | false => none
      | true => match zeroC P e with
        | none => none
        | some zs => match Nat.beq zs.length sz && Nat.blt 0 sz with
          | false => none
          | true => match Instr.fill (fun i => some (i * sz, sz)) (zrep zs len).toArray parts with
            | none => none
            | some r => some (.alloc r.toList (e, true) (some (len, len)))
  | _ => none

theorem fill_size (place : Nat → Option (Nat × Nat)) : ∀ (ps : List (Nat × Value)) (cs r : Array Value), Instr.fill place cs ps = some r → r.size = cs.size := by
  intro ps
  induction ps with
  | nil => intro cs r h; simp only [Instr.fill, Option.some.injEq] at h; rw [h]
  | cons p ps ih =>
    intro cs r h
    obtain ⟨i, v⟩ := p
    simp only [Instr.fill] at h
    split at h
    · cases h
    · rename_i off size _
      split at h
      · cases h
      · rw [ih _ _ h]
        have hf : ∀ (l : List (Value × Nat)) (cs : Array Value), (l.foldl (fun cs (p : Value × Nat) => cs.setIfInBounds (off + p.2) p.1) cs).size = cs.size := by
          intro l
          induction l with
          | nil => intro cs; rfl
          | cons p r ih => intro cs; rw [List.foldl_cons, ih]; simp
        rw [← Array.foldl_toList]
        exact hf _ _

theorem ok_buildS {t len : Nat} {ps ps' : Array (Nat × Value)} {r : ARes} (h : abuildS P t len ps.toList = some r) (hp : PR μ ps.toList ps'.toList) (hw : HR P w0 μ G W) :
    AOk P w0 μ G W ((do pure (.value (← Instr.buildSlice t len ps')) : Sem Next).run P W) r := by
  unfold abuildS at h
  split at h
  · rename_i e hu
    split at h
    · cases h
    · rename_i sz hs
      split at h
      · cases h
      · rename_i hlim
        have hlim := Nat.le_of_ble_eq_true hlim
        split at h
        · cases h
        · rename_i zs hz
          split at h
          · cases h
          · rename_i hb
            simp only [Bool.and_eq_true] at hb
            have h2 := Nat.eq_of_beq_eq_true hb.1
            have h1 : 0 < sz := Nat.le_of_ble_eq_true hb.2
            obtain ⟨z, hz0, rfl, hzf⟩ := zeroC_spec hz
            obtain ⟨ie, hie, hsz⟩ := szOf_info hs
            split at h
            · cases h
            · rename_i r0 hf
              cases h
              obtain ⟨r', h3, h4⟩ := fill_rel (μ := μ) (fun i => some (i * sz, sz)) hp (cs := (zrep z.cells.toList len).toArray) (cs' := (zrep z.cells.toList len).toArray) (by simpa using flats_rel (zrep_flat hzf len)) hf
              have hrs : r0.size = len * sz := by rw [fill_size _ _ _ _ hf]; simp only [List.size_toArray, zrep_length, h2]
              intro k hk
              have hzr : len * sz ≠ 0 → (Array.range (len * sz)).map (fun i => z.cells[i % z.cells.size]!) = (zrep z.cells.toList len).toArray := fun _ => zrep_eq (by simpa using h2) (by omega)
              have hr' : VL μ r0.toList r'.toList := h4
              obtain ⟨W', hn, hH⟩ := ok_newRow (P := P) (c' := r'.toList) hs hr' hw hk
              refine ⟨.slice (some ⟨W.heap.size, 0, none⟩) len len, W', ⟨W.heap.size, 0, sz, r'.toList.length⟩, ?_, ?_, hH⟩
              · have hgt : ¬ (len * sz > 2 ^ 24) := by omega
                subst hsz
                by_cases h0 : len * ie.size = 0
                · have hl0 : len = 0 := by
                    rcases Nat.eq_zero_or_pos len with h8 | h8
                    · exact h8
                    · have := Nat.mul_pos h8 h1; omega
                  subst hl0
                  have h3' : Instr.fill (fun i => some (i * ie.size, ie.size)) #[] ps'.toList = some r' := h3
                  have hn' : (newRow e r').run P W = .ok ⟨W.heap.size, 0, none⟩ W' := by simpa using hn
                  simp only [Instr.buildSlice, Sem.run_bind, run_underlying hu, Result.andThen_ok, sizeOf, typeInfo, run_program, hie, Sem.run_pure]
                  have e9 : Array.map (fun _ : Nat => (default : Value)) (Array.range 0) = #[] := by
                    apply Array.eq_empty_of_size_eq_zero
                    simp
                  simp [e9, h3', hn']
                · have h3' := h3
                  rw [← hzr h0] at h3'
                  have hn' : (newRow e r').run P W = .ok ⟨W.heap.size, 0, none⟩ W' := by simpa using hn
                  simp only [Instr.buildSlice, Sem.run_bind, run_underlying hu, Result.andThen_ok, sizeOf, typeInfo, run_program, hie, Sem.run_pure]
                  simp only [if_neg hgt, if_neg h0, Sem.run_bind, Sem.run_pure, Result.andThen_ok, run_zero hz0, h3', hn']
              · refine .slice (upd_same _ _ _) (Nat.le_refl _) (Nat.le_refl _) ?_
                have : r'.size = len * sz := by have := hr'.1; simp at this; omega
                simp [this]
  · cases h

/-! ### Texts and bytes -/
def bytesL : List UInt8 → List Value
  | [] => []
  | b :: r => .int .u8 b.toNat :: bytesL r

theorem bytesL_eq (s : ByteArray) : bytesL s.data.toList = byteCells s := by
  unfold byteCells
  induction s.data.toList with
  | nil => rfl
  | cons b r ih => simp [bytesL, ih]

def strL : List Value → Option (List UInt8)
  | [] => some []
  | .int .u8 n :: r => match strL r with
    | some l => some (UInt8.ofNat n.toNat :: l)
    | none => none
  | _ => none

theorem strL_spec {c : List Value} {l : List UInt8} (h : strL c = some l) : ∃ ns : List Int, c = ns.map (Value.int .u8) ∧ l = ns.map fun n => UInt8.ofNat n.toNat := by
  induction c generalizing l with
  | nil => simp only [strL, Option.some.injEq] at h; exact ⟨[], rfl, h.symm⟩
  | cons v r ih =>
    unfold strL at h
    split at h
    · rename_i e; cases e
    · rename_i n r' e
      cases e
      split at h
      · rename_i l' hl
        cases h
        obtain ⟨ns, h1, h2⟩ := ih hl
        exact ⟨n :: ns, by rw [h1]; rfl, by rw [h2]; rfl⟩
      · cases h
    · cases h

theorem VL.nums {ns : List Int} {ys : List Value} {k : IntKind} (h : VL μ (ns.map (Value.int k)) ys) : ys = ns.map (Value.int k) := by
  induction ns generalizing ys with
  | nil => exact h.inv_nil
  | cons n r ih =>
    obtain ⟨y, ys', rfl, h1, h2⟩ := h.inv_cons
    cases h1
    rw [ih h2]
    rfl

/-- Bytes to a text. -/
def atext (P : Program) (G : Nat → Option AObj) (src dst : Nat) (x : Value) : Option Value := match x with
  | .slice (some ⟨k, off, none⟩) n _ => match P.underlying src, P.underlying dst with
    | some (.slice e), some .string => match P.underlying e with
      | some (.int .u8) => match (cellsAt G k).bind fun c => subl c off n with
        | none => none
        | some vs => (strL vs).map fun l => .string ⟨l.toArray⟩
      | _ => none
    | _, _ => none
  | _ => none

theorem ok_text {src dst : Nat} {x x' v : Value} (h : atext P G src dst x = some v) (hx : VR μ x x') (hw : HR P w0 μ G W) : ∃ v', (convert src dst x').run P W = .ok v' W ∧ VR μ v v' := by
  unfold atext at h
  split at h
  · rename_i k off n c
    split at h
    · rename_i e hs hd
      split at h
      · rename_i he
        split at h
        · cases h
        · rename_i vs hv
          cases hc : cellsAt G k with
          | none => simp [hc] at hv
          | some cs =>
            simp only [hc, Option.bind_some] at hv
            cases hl : strL vs with
            | none => simp [hl] at h
            | some l =>
              simp only [hl, Option.map_some, Option.some.injEq] at h
              subst h
              cases hx with
              | slice hm h1 h2 h3 =>
                rename_i loc c'
                obtain ⟨ys, h4, h5⟩ := hw.cells hc hm (subl_get hv)
                obtain ⟨ns, rfl, rfl⟩ := strL_spec hl
                have h6 := h4.nums
                subst h6
                have hlen : ns.length = n := by have := (subl_spec hv).1; simpa using this
                refine ⟨_, run_convert_bytes_arg W src e hs he loc.b (loc.p + off) n c' ns hlen (fun i hi => h5 i _ ?_) dst hd, ?_⟩
                · have hi' : i < ns.length := by omega
                  simp [List.getD_eq_getElem?_getD, hi']
                · have : strOfNums ns = ⟨(ns.map fun n => UInt8.ofNat n.toNat).toArray⟩ := by
                    unfold strOfNums
                    rfl
                  rw [this]
                  exact .string _
      · cases h
    · cases h
  · cases h

/-- A text to bytes. -/
def abytes (P : Program) (src dst : Nat) (x : Value) : Option ARes := match x with
  | .string s => match P.underlying src, P.underlying dst with
    | some .string, some (.slice e) => match P.underlying e with
      | some (.int .u8) => match szOf P e with
        | some 1 => some (.alloc (bytesL s.data.toList) (e, false) (some (s.data.toList.length, s.data.toList.length)))
        | _ => none
      | _ => none
    | _, _ => none
  | _ => none

theorem ok_bytes {src dst : Nat} {x x' : Value} {r : ARes} (h : abytes P src dst x = some r) (hx : VR μ x x') (hw : HR P w0 μ G W) :
    AOk P w0 μ G W ((do pure (.value (← convert src dst x')) : Sem Next).run P W) r := by
  unfold abytes at h
  split at h
  · rename_i s
    split at h
    · rename_i e hs hd
      split at h
      · rename_i he
        split at h
        · rename_i hsz
          cases h
          cases hx
          intro k hk
          have hrun := run_bytes_of_string (P := P) W src dst e s hs hd he
          have hge : s.size ≤ grownCap W s.size 0 e := grownCap_ge W s.size 0 e
          have hlen : s.data.toList.length = s.size := Array.length_toList
          have hbr : bytesRow s (grownCap W s.size 0 e) = (byteCells s ++ List.replicate (grownCap W s.size 0 e - s.size) (Value.int .u8 0)).toArray := by
            unfold bytesRow byteCells
            apply Array.ext'
            simp
          rw [hbr] at hrun
          have hH := (hw.drew (W.drawn + 1)).alloc (k := k) (c := bytesL s.data.toList) (c' := byteCells s ++ List.replicate (grownCap W s.size 0 e - s.size) (Value.int .u8 0)) (e := (e, false)) (sz := 1) (lim := grownCap W s.size 0 e) (fr := ((byteCells s ++ List.replicate (grownCap W s.size 0 e - s.size) (Value.int .u8 0)).toArray.size, (byteCells s ++ List.replicate (grownCap W s.size 0 e - s.size) (Value.int .u8 0)).toArray.size + 1)) hk
            (fun i x hx => by
              rw [bytesL_eq] at hx
              refine ⟨x, by rw [List.getElem?_append_left (List.getElem?_eq_some_iff.1 hx).1]; exact hx, ?_⟩
              obtain ⟨b, _, rfl⟩ := List.mem_map.1 (List.mem_of_getElem? hx)
              exact .int _ _)
            (fun i hi => by simp only [List.size_toArray]; omega) (by simp [byteCells_length]; omega) (by rw [bytesL_eq, byteCells_length]; exact hge) hsz (fun h9 => by cases h9)
          refine ⟨.slice (some ⟨W.heap.size, 0, none⟩) s.size (grownCap W s.size 0 e), _, _, ?_, ?_, hH⟩
          · simp only [Sem.run_bind, hrun, Result.andThen_ok, Sem.run_pure]
            rfl
          · rw [hlen]
            refine .slice (l := ⟨W.heap.size, 0, 1, grownCap W s.size 0 e⟩) (upd_same _ _ _) (Nat.le_refl _) hge ?_
            simp
        · cases h
      · cases h
    · cases h
  · cases h

/-! ### Appends -/
/-- What is appended: how many, its cells. -/
def asrc (P : Program) (G : Nat → Option AObj) (tx sz : Nat) (x : Value) : Option (Nat × List Value) := match x with
  | .string s => match P.underlying tx with
    | some .string => match sz with
      | 1 => some (s.data.toList.length, bytesL s.data.toList)
      | _ => none
    | _ => none
  | .slice none 0 _ => match P.underlying tx with
    | some (.slice _) => some (0, [])
    | _ => none
  | .slice (some ⟨k, off, none⟩) n _ => match P.underlying tx with
    | some (.slice _) => match (cellsAt G k).bind fun c => subl c off (n * sz) with
      | none => none
      | some vs => match vs.all (·.oneCell') with
        | true => some (n, vs)
        | false => none
    | _ => none
  | .slice (some ⟨_, _, some 0⟩) 0 0 => match P.underlying tx with
    | some (.slice _) => some (0, [])
    | _ => none
  | _ => none

theorem ok_src {tx sz n : Nat} {x x' : Value} {vs : List Value} (h : asrc P G tx sz x = some (n, vs)) (hx : VR μ x x') (hw : HR P w0 μ G W) : ∃ vs', VL μ vs vs' ∧ Src P sz tx x' n vs' W := by
  unfold asrc at h
  split at h
  · rename_i s
    split at h
    · rename_i hk
      split at h
      · cases h
        cases hx
        refine ⟨byteCells s, ?_, ?_⟩
        · rw [bytesL_eq]
          refine ⟨rfl, fun i x y h1 h2 => ?_⟩
          rw [h1] at h2; cases h2
          obtain ⟨b, _, rfl⟩ := List.mem_map.1 (List.mem_of_getElem? h1)
          exact .int _ _
        · have := Src.ofString (P := P) W hk s
          have hlen : s.data.toList.length = s.size := Array.length_toList
          rw [hlen]
          exact this
      · cases h
    · cases h
  · split at h
    · rename_i hk
      cases h
      cases hx
      exact ⟨[], .nil, Src.ofNil W hk _⟩
    · cases h
  · rename_i k off m c
    split at h
    · rename_i e' hk
      split at h
      · cases h
      · rename_i cs hv
        split at h
        · rename_i h1
          cases h
          cases hc : cellsAt G k with
          | none => simp [hc] at hv
          | some c0 =>
            simp only [hc, Option.bind_some] at hv
            cases hx with
            | slice hm _ _ _ =>
              obtain ⟨ys, h4, h5⟩ := hw.cells hc hm (subl_get hv)
              refine ⟨ys, h4, Src.ofSlice W hk _ _ _ ys (by rw [← h4.1]; exact (subl_spec hv).1) (fun j u hj => by rw [Addr.add_lit]; exact h5 j u hj) (ones_rel h4 h1)⟩
        · cases h
    · cases h
  · split at h
    · rename_i hk
      cases h
      cases hx with
      | sliceE hm _ => exact ⟨[], .nil, Src.ofSlice W hk _ 0 _ [] (by simp) (fun j u hj => by simp at hj) (fun u hu => by cases hu)⟩
    · cases h
  · cases h

def aappend (P : Program) (G : Nat → Option AObj) (t tx : Nat) (s x : Value) : Option ARes := match P.underlying t with
  | some (.slice e) => match P.info? e, zeroC P e with
    | some ie, some zs => match Nat.blt 0 ie.size && Nat.beq zs.length ie.size with
      | false => none
      | true => match asrc P G tx ie.size x with
        | none => none
        | some (0, _) => match s with
          | .slice none n c => match Nat.ble n c with
            | true => some (.val s)
            | false => none
          | .slice (some ⟨_, _, none⟩) _ _ => some (.val s)
          | .slice (some ⟨_, _, some 0⟩) 0 0 => some (.val s)
          | _ => none
        | some (m + 1, vs) => match s with
          | .slice none 0 0 => match Nat.ble (m + 1) 9223372036854775807 && Nat.ble ((m + 1) * ie.bytes) 140737488355328 with
            | true => some (.grow none vs e (m + 1))
            | false => none
          | .slice (some ⟨k, off, none⟩) n _ => match Nat.ble (n + (m + 1)) 9223372036854775807 && Nat.ble ((n + (m + 1)) * ie.bytes) 140737488355328 with
            | false => none
            | true => match G k with
              | some (.row c e0) => match Nat.beq e0.1 e with
                | false => none
                | true => match subl c off (n * ie.size) with
                  | none => none
                  | some olds => some (.grow (some k) (olds ++ vs) e (n + (m + 1)))
              | _ => none
          | .slice (some ⟨k, _, some 0⟩) 0 0 => match Nat.ble (m + 1) 9223372036854775807 && Nat.ble ((m + 1) * ie.bytes) 140737488355328 with
            | false => none
            | true => match G k with
              | some (.row _ e0) => match Nat.beq e0.1 e with
                | true => some (.grow (some k) vs e (m + 1))
                | false => none
              | _ => none
          | _ => none
    | _, _ => none
  | _ => none

theorem HR.kill (h : HR P w0 μ G W) (k : Nat) : HR P w0 μ (upd G k .dead) W := h.less fun j o hj hne => by
  by_cases e : j = k
  · subst e; rw [upd_same] at hj; cases hj; exact absurd rfl hne
  · rwa [upd_ne e] at hj

theorem HR.killG (h : HR P w0 μ G W) (k : Option Nat) : HR P w0 μ (killG G k) W := by
  cases k with
  | none => exact h
  | some k => exact h.kill k

theorem zeroCells_size (z : Array Value) (n : Nat) : (Builtin.zeroCells z n).size = n * z.size := by simp [Builtin.zeroCells]

/-- The arm that makes a new row. -/
theorem grow_new {t tx ty e n m : Nat} {ie : TypeInfo} {zs : List Value} {base : Option Addr} {c' : Nat} {x' : Value} {olds olds' vs vs' : List Value} {jk : Option Nat} (hu : P.underlying t = some (.slice e)) (hie : P.info? e = some ie) (hz : zeroC P e = some zs) (hzs : zs.length = ie.size)
    (hold : (Builtin.firstCells ie.size n (.slice base n c')).run P W.drew = .ok olds'.toArray W.drew) (holds : olds'.length = n * ie.size) (hov : VL μ olds olds') (hs : Src P ie.size tx x' m vs' W) (hvv : VL μ vs vs') (hg : c' < n + m) (h63 : n + m ≤ 9223372036854775807) (hby : (n + m) * ie.bytes ≤ 140737488355328)
    (hw : HR P w0 μ G W) {k : Nat} (hk : μ k = none) : ∃ v' W' l, (Builtin.append_ #[t, tx] ty #[.slice base n c', x']).run P W = .ok v' W' ∧ VR (upd μ k l) (.slice (some ⟨k, 0, none⟩) (n + m) (n + m)) v' ∧ HR P w0 (upd μ k l) (upd (X.killG G jk) k (.row (olds ++ vs) (e, false))) W' := by
  obtain ⟨z, hz0, rfl, _⟩ := zeroC_spec hz
  have hzz : ie.zero = some z := by rw [hie] at hz0; simpa using hz0
  have hrun := run_append_grow_src (P := P) W t tx ty e ie z hu hie hzz base n c' olds' hold x' m vs' hs hg (by omega) (growslice_fits hg hby)
  have hge := grownCap_ge W (n + m) c' e
  have harr : (olds' ++ vs').toArray ++ Builtin.zeroCells z.cells (grownCap W (n + m) c' e - (n + m)) = ((olds' ++ vs') ++ (Builtin.zeroCells z.cells (grownCap W (n + m) c' e - (n + m))).toList).toArray := by
    apply Array.ext'
    simp
  rw [harr] at hrun
  have hzc : z.cells.size = ie.size := by rw [← hzs]; simp
  have hvl : vs'.length = m * ie.size := hs.newsLen
  have hll : (olds' ++ vs').length = (n + m) * ie.size := by rw [List.length_append, holds, hvl, Nat.add_mul]
  have hlen : ((olds' ++ vs') ++ (Builtin.zeroCells z.cells (grownCap W (n + m) c' e - (n + m))).toList).length = grownCap W (n + m) c' e * ie.size := by
    rw [List.length_append, hll, Array.length_toList, zeroCells_size, hzc, ← Nat.add_mul]
    congr 1
    omega
  have hvl2 := hov.append hvv
  have hH := ((hw.killG jk).drew (W.drawn + 1)).alloc (k := k) (c := olds ++ vs) (c' := (olds' ++ vs') ++ (Builtin.zeroCells z.cells (grownCap W (n + m) c' e - (n + m))).toList) (e := (e, false)) (sz := ie.size) (lim := grownCap W (n + m) c' e * ie.size) (fr := (0, 0)) hk
    (fun i x hx => by
      obtain ⟨y, hy, hr⟩ := hvl2.get hx
      exact ⟨y, by rw [List.getElem?_append_left (List.getElem?_eq_some_iff.1 hy).1]; exact hy, hr⟩)
    (fun i _ => by simp) (by rw [hlen]; exact Nat.le_refl _) (by rw [hvl2.1, hll]; exact Nat.mul_le_mul_right _ hge) (by simp [hie]) (fun h9 => by cases h9)
  refine ⟨.slice (some ⟨W.heap.size, 0, none⟩) (n + m) (grownCap W (n + m) c' e), _, _, hrun, ?_, hH⟩
  refine .slice (l := ⟨W.heap.size, 0, ie.size, grownCap W (n + m) c' e * ie.size⟩) (upd_same _ _ _) (Nat.le_refl _) hge ?_
  simp

/-- The arm with room. -/
theorem grow_room {t tx ty e n m k0 off : Nat} {e0 : Nat × Bool} (he0 : e0.1 = e) {ie : TypeInfo} {l : Loc} {c' q : Nat} {x' : Value} {c olds vs vs' : List Value} (hu : P.underlying t = some (.slice e)) (hie : P.info? e = some ie)
    (hg : G k0 = some (.row c e0)) (hmu : μ k0 = some l) (hlim : q + c' * l.sz ≤ l.lim) (holds : olds.length = n * ie.size) (hold : ∀ (i : Nat) (x : Value), olds[i]? = some x → c[off + i]? = some x) (hq : olds ≠ [] → q = l.p + off)
    (hs : Src P ie.size tx x' m vs' W) (hvv : VL μ vs vs') (hroom : n + m ≤ c')
    (hw : HR P w0 μ G W) {k : Nat} (hk : μ k = none) : ∃ v' W' l, (Builtin.append_ #[t, tx] ty #[.slice (some ⟨(μ k0).get (by rw [hmu]; rfl) |>.b, q, none⟩) n c', x']).run P W = .ok v' W' ∧ VR (upd μ k l) (.slice (some ⟨k, 0, none⟩) (n + m) (n + m)) v' ∧ HR P w0 (upd μ k l) (upd (X.killG G (some k0)) k (.row (olds ++ vs) (e, false))) W' := by
  have hlb : ((μ k0).get (by rw [hmu]; rfl)) = l := by simp [hmu]
  rw [hlb]
  have hsz : l.sz = ie.size := by
    have := hw.elem (k := k0) (e := e) (by simp [elemAt, hg, he0]) hmu
    simp [szOf, hie] at this
    exact this.symm
  have hvl : vs'.length = m * ie.size := hs.newsLen
  have hmul : n * ie.size + m * ie.size ≤ c' * ie.size := by rw [← Nat.add_mul]; exact Nat.mul_le_mul_right _ hroom
  rw [hsz] at hlim
  have hrun := run_append_room_src (P := P) W t tx ty e ie hu hie l.b q n c' x' m vs' hs hroom (fun j hj => (hw.room hg hmu (by omega)).1) (fun j hj => (hw.room hg hmu (by omega)).2)
  have hne : k ≠ k0 := fun e1 => by rw [e1, hmu] at hk; cases hk
  have hH := hw.move (k := k0) (k2 := k) (l := l) (c := c) (c2 := olds ++ vs) (vs := vs') (e := e0) (e2 := (e, false)) (o := q + n * ie.size) (p2 := q) he0.symm (fun h9 => by cases h9) hg hmu (by omega) (by rw [List.length_append, holds, hvv.1, hvl]; omega) (.inr ⟨hne, hk⟩) (fun C hC C2 hs2 hC2 i x hx => by
    rw [hC2]
    by_cases hi : i < olds.length
    · rw [List.getElem?_append_left hi] at hx
      rw [if_neg (by omega)]
      have h1 := hC _ x (hold i x hx)
      rw [hq (fun e1 => by rw [e1] at hi; simp at hi), Nat.add_assoc]
      exact h1
    · rw [List.getElem?_append_right (by omega)] at hx
      have hlt := (List.getElem?_eq_some_iff.1 hx).1
      rw [if_pos (by rw [← hvv.1]; omega)]
      obtain ⟨y, hy, hr⟩ := hvv.get hx
      exact ⟨y, by rw [← hy]; congr 1; omega, hr⟩)
  refine ⟨.slice (some ⟨l.b, q, none⟩) (n + m) c', _, ⟨l.b, q, l.sz, l.lim⟩, hrun, ?_, hH⟩
  have := VR.slice (μ := upd μ k ⟨l.b, q, l.sz, l.lim⟩) (k := k) (o := 0) (l := ⟨l.b, q, l.sz, l.lim⟩) (n := n + m) (c := n + m) (c' := c') (upd_same _ _ _) (Nat.le_refl _) hroom (by simp only [hsz, Nat.add_zero]; exact hlim)
  simpa using this

theorem run_append_zero {t tx ty e n : Nat} {ie : TypeInfo} {base : Option Addr} {c' : Nat} {x' : Value} {vs' : List Value} (hu : P.underlying t = some (.slice e)) (hie : P.info? e = some ie) (hs : Src P ie.size tx x' 0 vs' W) (hroom : n ≤ c') :
    (Builtin.append_ #[t, tx] ty #[.slice base n c', x']).run P W = .ok (.slice base n c') W := by
  have h0 : vs' = [] := List.eq_nil_of_length_eq_zero (by have := hs.newsLen; simpa using this)
  subst h0
  have hl := hs.len W
  have hc := hs.cells
  cases base <;> rcases hs.kind with ⟨e', hk⟩ | hk <;> simp [Builtin.append_, run_underlying hu, run_underlying hk, sizeOf, typeInfo, hie, hl, hc, hroom, storeCells]

theorem ok_append {t tx ty : Nat} {s x s' x' : Value} {r : ARes} (h : aappend P G t tx s x = some r) (hs : VR μ s s') (hx : VR μ x x') (hw : HR P w0 μ G W) :
    AOk P w0 μ G W ((do pure (.value (← Builtin.append_ #[t, tx] ty #[s', x'])) : Sem Next).run P W) r := by
  unfold aappend at h
  split at h
  · rename_i e hu
    split at h
    · rename_i ie zs hie hz
      split at h
      · cases h
      · rename_i hb
        simp only [Bool.and_eq_true] at hb
        have hzs := Nat.eq_of_beq_eq_true hb.2
        have hpos : 0 < ie.size := Nat.le_of_ble_eq_true hb.1
        split at h
        · cases h
        · -- nothing is appended
          rename_i vs hsrc
          obtain ⟨vs', _, hS⟩ := ok_src hsrc hx hw
          split at h
          · rename_i n c
            split at h
            · rename_i hle
              cases h
              cases hs
              refine ⟨_, W, ?_, .sliceNone n c, hw⟩
              simp only [Sem.run_bind, run_append_zero (ty := ty) (n := n) (base := none) hu hie hS (Nat.le_of_ble_eq_true hle), Result.andThen_ok, Sem.run_pure]
            · cases h
          · rename_i k off n c
            cases h
            cases hs with
            | slice hm h1 h2 h3 =>
              rename_i l c'
              refine ⟨_, W, ?_, .slice hm h1 h2 h3, hw⟩
              simp only [Sem.run_bind, run_append_zero (ty := ty) (n := n) hu hie hS (show n ≤ c' by omega), Result.andThen_ok, Sem.run_pure]
          · rename_i k off
            cases h
            cases hs with
            | sliceE hm h1 =>
              rename_i l p c'
              refine ⟨_, W, ?_, .sliceE hm h1, hw⟩
              simp only [Sem.run_bind, run_append_zero (ty := ty) (n := 0) hu hie hS (Nat.zero_le _), Result.andThen_ok, Sem.run_pure]
          · cases h
        · rename_i m vs hsrc
          obtain ⟨vs', hvv, hS⟩ := ok_src hsrc hx hw
          split at h
          · -- onto nil
            split at h
            · rename_i hlim
              cases h
              simp only [Bool.and_eq_true] at hlim
              have l1 := Nat.le_of_ble_eq_true hlim.1
              have l2 := Nat.le_of_ble_eq_true hlim.2
              cases hs
              intro k hk
              obtain ⟨v', W', l, h1, h2, h3⟩ := grow_new (ty := ty) (n := 0) (jk := none) (base := none) (c' := 0) (olds := []) (olds' := []) hu hie hz hzs (by simp [Builtin.firstCells]) (by simp) .nil hS hvv (by omega) (by omega) (by simpa using l2) hw hk
              refine ⟨v', W', l, ?_, by simpa using h2, by simpa using h3⟩
              simp only [Sem.run_bind, h1, Result.andThen_ok, Sem.run_pure]
            · cases h
          · -- onto a row
            rename_i k0 off n c
            split at h
            · cases h
            · rename_i hlim
              simp only [Bool.and_eq_true] at hlim
              have l1 := Nat.le_of_ble_eq_true hlim.1
              have l2 := Nat.le_of_ble_eq_true hlim.2
              split at h
              · rename_i c0 e0 hg
                split at h
                · cases h
                · rename_i he
                  have he := Nat.eq_of_beq_eq_true he
                  split at h
                  · cases h
                  · rename_i olds hol
                    cases h
                    cases hs with
                    | slice hm h1 h2 h3 =>
                      rename_i l c'
                      intro k hk
                      obtain ⟨olds', hov, hoc⟩ := hw.cells (k := k0) (c := c0) (by simp [cellsAt, hg]) hm (subl_get hol)
                      have holn : olds.length = n * ie.size := (subl_spec hol).1
                      rcases Nat.lt_or_ge c' (n + (m + 1)) with hlt | hge
                      · obtain ⟨v', W', l', q1, q2, q3⟩ := grow_new (ty := ty) (n := n) (jk := some k0) (base := some ⟨l.b, l.p + off, none⟩) (c' := c') (olds := olds) (olds' := olds') hu hie hz hzs
                          (run_firstCells_some W.drew ie.size n _ n c' olds' (by rw [← hov.1]; exact holn) (fun j u hj => by rw [Addr.add_lit]; simpa using hoc j u hj)) (by rw [← hov.1]; exact holn) hov hS hvv hlt l1 l2 hw hk
                        refine ⟨v', W', l', ?_, q2, q3⟩
                        simp only [Sem.run_bind, q1, Result.andThen_ok, Sem.run_pure]
                      · obtain ⟨v', W', l', q1, q2, q3⟩ := grow_room he (ty := ty) (n := n) (off := off) (q := l.p + off) (c' := c') hu hie hg hm (by simpa using h3) holn (subl_get hol) (fun _ => rfl) hS hvv hge hw hk
                        refine ⟨v', W', l', ?_, q2, q3⟩
                        have hlb : ((μ k0).get (by rw [hm]; rfl)) = l := by simp [hm]
                        rw [hlb] at q1
                        simp only [Sem.run_bind, q1, Result.andThen_ok, Sem.run_pure]
              · cases h
          · -- onto what is empty, of a row
            rename_i k0 off
            split at h
            · cases h
            · rename_i hlim
              simp only [Bool.and_eq_true] at hlim
              have l1 := Nat.le_of_ble_eq_true hlim.1
              have l2 := Nat.le_of_ble_eq_true hlim.2
              split at h
              · rename_i c0 e0 hg
                split at h
                · rename_i he
                  have he := Nat.eq_of_beq_eq_true he
                  cases h
                  cases hs with
                  | sliceE hm h1 =>
                    rename_i l p c'
                    intro k hk
                    rcases Nat.lt_or_ge c' (0 + (m + 1)) with hlt | hge
                    · obtain ⟨v', W', l', q1, q2, q3⟩ := grow_new (ty := ty) (n := 0) (jk := some k0) (base := some ⟨l.b, p, none⟩) (c' := c') (olds := []) (olds' := []) hu hie hz hzs
                        (run_firstCells_some W.drew ie.size 0 _ 0 c' [] (by simp) (fun j u hj => by simp at hj)) (by simp) .nil hS hvv hlt (by omega) (by simpa using l2) hw hk
                      refine ⟨v', W', l', ?_, by simpa using q2, by simpa using q3⟩
                      simp only [Sem.run_bind, q1, Result.andThen_ok, Sem.run_pure]
                    · obtain ⟨v', W', l', q1, q2, q3⟩ := grow_room he (ty := ty) (n := 0) (off := off) (q := p) (c' := c') (olds := []) hu hie hg hm h1 (by simp) (fun i x hx => by simp at hx) (fun h9 => absurd rfl h9) hS hvv hge hw hk
                      refine ⟨v', W', l', ?_, by simpa using q2, by simpa using q3⟩
                      have hlb : ((μ k0).get (by rw [hm]; rfl)) = l := by simp [hm]
                      rw [hlb] at q1
                      simp only [Sem.run_bind, q1, Result.andThen_ok, Sem.run_pure]
                · cases h
              · cases h
          · cases h
    · cases h
  · cases h
end
end Go.Proofs.Ytdcojinnjpihaaa.X
