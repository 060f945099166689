/- The walker's words on strings and slices: one lemma for each operation. No condition. -/
import Derived.Test.YtdcojinnjpihaaaXWorld
import Derived.Deep.AppendSrc
namespace Go.Proofs.Ytdcojinnjpihaaa.X
open Go Go.RowKit

/-- Byte number i of a text. -/
def bt (s : ByteArray) (i : Int) : Int := ((s.data.toList.getD i.toNat 0).toNat : Int)

/-- What must hold for the code to go on. -/
def asrt {α : Type} (c : Prop) [Decidable c] (x : Option α) : Option α := if c then x else none
theorem asrt_some {α : Type} {c : Prop} [Decidable c] {x : Option α} {r : α} (h : asrt c x = some r) : c ∧ x = some r := by
  unfold asrt at h
  split at h
  · rename_i hc; exact ⟨hc, h⟩
  · cases h
theorem asrt_pos {α : Type} {c : Prop} [Decidable c] {x : Option α} (h : c) : asrt c x = x := if_pos h
theorem bind_some' {α β : Type} {x : Option α} {f : α → Option β} {r : β} (h : x.bind f = some r) : ∃ y, x = some y ∧ f y = some r := by
  cases x with
  | none => cases h
  | some y => exact ⟨y, rfl, h⟩
theorem ite_pos' {α : Type} {c : Prop} [Decidable c] {x y : Option α} {r : α} (h : (if c then x else y) = some r) (hc : c) : x = some r := by rwa [if_pos hc] at h
theorem ite_neg' {α : Type} {c : Prop} [Decidable c] {x y : Option α} {r : α} (h : (if c then x else y) = some r) (hc : ¬ c) : y = some r := by rwa [if_neg hc] at h

theorem str_eq_t {x y : ByteArray} (h : x = y) : (x.toList == y.toList) = true := by rw [h]; simp
theorem str_eq_f {x y : ByteArray} (h : ¬ x = y) : (x.toList == y.toList) = false := by
  rw [beq_eq_false_iff_ne]
  intro e
  rw [ByteArray.toList_eq, ByteArray.toList_eq] at e
  exact h (ByteArray.ext (Array.ext' e))
theorem str_ne_t {x y : ByteArray} (h : ¬ x = y) : (!(x.toList == y.toList)) = true := by rw [str_eq_f h]; rfl
theorem str_ne_f {x y : ByteArray} (h : x = y) : (!(x.toList == y.toList)) = false := by rw [str_eq_t h]; rfl
theorem ineq_t {x y : Int} (h : ¬ x = y) : (x != y) = true := bne_iff_ne.mpr h
theorem ineq_f {x y : Int} (h : x = y) : (x != y) = false := bne_eq_false_iff_eq.mpr h
theorem ieq_t {x y : Int} (h : x = y) : (x == y) = true := beq_iff_eq.mpr h
theorem ieq_f {x y : Int} (h : ¬ x = y) : (x == y) = false := beq_eq_false_iff_ne.mpr h
theorem beq_t {x y : Bool} (h : x = y) : (x == y) = true := beq_iff_eq.mpr h
theorem beq_f {x y : Bool} (h : ¬ x = y) : (x == y) = false := beq_eq_false_iff_ne.mpr h
theorem bne_t {x y : Bool} (h : ¬ x = y) : (x != y) = true := bne_iff_ne.mpr h
theorem bne_f {x y : Bool} (h : x = y) : (x != y) = false := bne_eq_false_iff_eq.mpr h
theorem not_t {b : Bool} (h : b = false) : (!b) = true := by rw [h]; rfl
theorem not_f {b : Bool} (h : b = true) : (!b) = false := by rw [h]; rfl
theorem bool_f {b : Bool} (h : ¬ b = true) : b = false := Bool.eq_false_iff.mpr h

section
variable {P : Program} {n : Nat} {l : List (Nat × Value)} {a : Act} {ops : Array Oper} {o : Oper} {rest : List Oper} {Q : Exit → Act → World → Prop} {w0 W : World} {bs : List (Nat × Obj)} {os : List OwnA}

/-- A byte of a text. -/
theorem stepsi (ha : Has n l a) (d t : Nat) (x i : Operand) (s : ByteArray) (k : IntKind) (j : Int) (ho : o.op = .index t x i) (hx : ev l x = .string s) (hi : ev l i = .int k j) (ht : P.underlying t = some .string)
    (h0 : 0 ≤ j) (h1 : j < s.size) (hok : okB n l ops o d = true) (h : ∀ a', Has n ((d, .int .u8 (bt s j)) :: l) a' → wpList P ops Q rest a' W) : wpList P ops Q (o :: rest) a W := by
  refine stepv (W' := W) ha d (.int .u8 (bt s j)) hok ?_ h
  unfold execOp
  simp only [ho, hx, hi, Sem.run_bind, run_index_string W t s k j ht, dif_pos (show 0 ≤ j ∧ j < (s.size : Int) from ⟨h0, h1⟩), Result.andThen_ok, Sem.run_pure]
  have h2 : j.toNat < s.size := by omega
  have : bt s j = ((s[j.toNat]'h2).toNat : Int) := by
    unfold bt
    have h3 : j.toNat < s.data.toList.length := by rw [Array.length_toList]; exact h2
    rw [List.getD_eq_getElem?_getD, List.getElem?_eq_getElem h3]
    rfl
  rw [this]

/-- A piece of a text. -/
theorem stepss (ha : Has n l a) (d t : Nat) (x lo hi : Operand) (s : ByteArray) (k k' : IntKind) (i j : Int) (ho : o.op = .slice t x (some lo) (some hi) none) (hx : ev l x = .string s) (hl : ev l lo = .int k i) (hh : ev l hi = .int k' j)
    (ht : P.underlying t = some .string) (h0 : 0 ≤ i) (h1 : i ≤ j) (h2 : j ≤ s.size) (hok : okB n l ops o d = true) (h : ∀ a', Has n ((d, .string (s.extract i.toNat j.toNat)) :: l) a' → wpList P ops Q rest a' W) : wpList P ops Q (o :: rest) a W := by
  refine stepv (W' := W) ha d _ hok ?_ h
  unfold execOp
  simp only [ho, hx, hl, hh, Option.map_some, Option.map_none, Sem.run_bind, run_sliceAt_string W t _ _ _ _ ht, run_slice_string W t s k k' i j ht h0 h1 h2, Result.andThen_ok, Sem.run_pure]

theorem stepssh (ha : Has n l a) (d t : Nat) (x hi : Operand) (s : ByteArray) (k' : IntKind) (j : Int) (ho : o.op = .slice t x none (some hi) none) (hx : ev l x = .string s) (hh : ev l hi = .int k' j)
    (ht : P.underlying t = some .string) (h0 : 0 ≤ j) (h2 : j ≤ s.size) (hok : okB n l ops o d = true) (h : ∀ a', Has n ((d, .string (s.extract 0 j.toNat)) :: l) a' → wpList P ops Q rest a' W) : wpList P ops Q (o :: rest) a W := by
  refine stepv (W' := W) ha d _ hok ?_ h
  unfold execOp
  simp only [ho, hx, hh, Option.map_some, Option.map_none, Sem.run_bind, run_sliceAt_string W t _ _ _ _ ht, run_slice_string_h W t s ht k' j h0 h2, Result.andThen_ok, Sem.run_pure]

theorem stepssl (ha : Has n l a) (d t : Nat) (x lo : Operand) (s : ByteArray) (k : IntKind) (i : Int) (ho : o.op = .slice t x (some lo) none none) (hx : ev l x = .string s) (hl : ev l lo = .int k i)
    (ht : P.underlying t = some .string) (h0 : 0 ≤ i) (h2 : i ≤ s.size) (hok : okB n l ops o d = true) (h : ∀ a', Has n ((d, .string (s.extract i.toNat s.size)) :: l) a' → wpList P ops Q rest a' W) : wpList P ops Q (o :: rest) a W := by
  refine stepv (W' := W) ha d _ hok ?_ h
  unfold execOp
  simp only [ho, hx, hl, Option.map_some, Option.map_none, Sem.run_bind, run_sliceAt_string W t _ _ _ _ ht, run_slice_string_l W t s ht k i h0 h2, Result.andThen_ok, Sem.run_pure]

/-- Two texts, one behind the other. -/
theorem stepsa (ha : Has n l a) (d t t' : Nat) (x y : Operand) (s u : ByteArray) (ho : o.op = .binOp .add t x y t') (hx : ev l x = .string s) (hy : ev l y = .string u) (hs : s.size + u.size ≤ 9223372036854775807)
    (hok : okB n l ops o d = true) (h : ∀ a', Has n ((d, .string (s ++ u)) :: l) a' → wpList P ops Q rest a' W) : wpList P ops Q (o :: rest) a W := by
  refine stepv (W' := W) ha d _ hok ?_ h
  have h1 : ¬ (((s.size + u.size : Nat) : Int) > IntKind.i64.max) := by rw [IntKind.max_i64]; omega
  unfold execOp
  simp only [ho, hx, hy, Sem.run_bind, eqGuard, binOp, Op.stringOp, if_neg h1]
  rfl

/-! ### Slices -/
def encs {α : Type} (enc : α → List Value) (xs : List α) : List Value := xs.flatMap enc
def rdL {α : Type} (d : α) (xs : List α) (i : Int) : α := xs.getD i.toNat d

theorem encs_nil {α : Type} (enc : α → List Value) : encs enc [] = [] := rfl
theorem encs_append {α : Type} (enc : α → List Value) (xs ys : List α) : encs enc (xs ++ ys) = encs enc xs ++ encs enc ys := by simp [encs]
theorem encs_one {α : Type} (enc : α → List Value) (x : α) : encs enc [x] = enc x := by simp [encs]
theorem encs_length {α : Type} {enc : α → List Value} {sz : Nat} (hsz : ∀ x, (enc x).length = sz) (xs : List α) : (encs enc xs).length = xs.length * sz := by
  induction xs with
  | nil => simp [encs]
  | cons x xs ih =>
    have : encs enc (x :: xs) = enc x ++ encs enc xs := rfl
    rw [this, List.length_append, hsz, ih, List.length_cons, Nat.add_mul]
    omega
theorem encs_split {α : Type} {enc : α → List Value} (d : α) (xs : List α) (j : Nat) (hj : j < xs.length) : encs enc xs = encs enc (xs.take j) ++ (enc (xs.getD j d) ++ encs enc (xs.drop (j + 1))) := by
  have h1 : xs = xs.take j ++ (xs.getD j d :: xs.drop (j + 1)) := by
    rw [List.getD_eq_getElem?_getD, List.getElem?_eq_getElem hj, Option.getD_some, ← List.drop_eq_getElem_cons hj, List.take_append_drop]
  have h2 := congrArg (encs enc) h1
  rw [encs_append] at h2
  exact h2
theorem encs_get {α : Type} {enc : α → List Value} {sz : Nat} (hsz : ∀ x, (enc x).length = sz) (d : α) (xs : List α) (j m : Nat) (hj : j < xs.length) (hm : m < sz) : (encs enc xs)[j * sz + m]? = (enc (xs.getD j d))[m]? := by
  have hl : (encs enc (xs.take j)).length = j * sz := by rw [encs_length hsz, List.length_take]; congr 1; omega
  rw [encs_split d xs j hj, List.getElem?_append_right (by omega), hl, Nat.add_sub_cancel_left, List.getElem?_append_left (by rw [hsz]; exact hm)]

/-- A text's bytes as numbers. -/
def bytesI (s : ByteArray) : List Int := s.data.toList.map fun b => (b.toNat : Int)
theorem bytesI_length (s : ByteArray) : (bytesI s).length = s.size := by unfold bytesI; rw [List.length_map]; rfl
/-- The address of an element, with what stands there. -/
theorem stepie {α : Type} (enc : α → List Value) (dfl : α) (ha : Has n l a) (d : Nat) {sz : Nat} (hsz : ∀ x, (enc x).length = sz) {v : Value} {xs : List α} (hr : Rd sz W v xs.length (encs enc xs)) (t e : Nat) (x i : Operand) (k : IntKind) (j : Int)
    (ho : o.op = .indexAddr t x i) (hx : ev l x = v) (hi : ev l i = .int k j)
    (ht : P.underlying t = some (.slice e)) (hs : (P.info? e).map (·.size) = some sz) (h0 : 0 ≤ j) (h1 : j < xs.length) (hok : okB n l ops o d = true)
    (h : ∀ b off a', CA W b off (enc (rdL dfl xs j)).toArray → Has n ((d, .pointer (some ⟨b, off, none⟩)) :: l) a' → wpList P ops Q rest a' W) : wpList P ops Q (o :: rest) a W := by
  refine stepia ha d hr t e x i k j ho hx hi ht hs h0 h1 hok fun b off a' hc ha' => h b off a' (fun m u hu => ?_) ha'
  have hm : m < sz := by
    have := (Array.getElem?_eq_some_iff.1 hu).1
    rw [List.size_toArray, hsz] at this
    exact this
  refine hc m u hm ?_
  rw [encs_get hsz dfl xs j.toNat m (by omega) hm]
  simpa [rdL] using hu

/-- A slice written out. -/
theorem stepbs (ha : Has n l a) (HW : Wd w0 W bs os) (d e sz len : Nat) (C : Array Value) (cs : List Value) (hm : len ≤ maxLen) (hC : C.size = len * sz) (hcs : C.toList = cs) (hok : okB n l ops o d = true)
    (hx : (execOp (ev l) o).run P W = .ok (.value (.slice (some ⟨W.heap.size, 0, none⟩) len len)) (W.alloc (.cells C e)))
    (h : ∀ b a' W', Wd w0 W' bs (⟨e, sz, .slice (some ⟨b, 0, none⟩) len len, len, cs⟩ :: os) → Has n ((d, .slice (some ⟨b, 0, none⟩) len len) :: l) a' → wpList P ops Q rest a' W') : wpList P ops Q (o :: rest) a W := by
  refine stepv ha d _ hok hx fun a' ha' => h _ a' _ (HW.newo C e sz len len cs (Nat.le_refl _) hm hC ?_) ha'
  rw [← hC, ← Array.length_toList, List.take_length, hcs]

theorem infoParts {e : Nat} {z : Value} {sz bytes : Nat} (h : (P.info? e).map (fun i => (i.zero, i.size, i.bytes)) = some (some z, sz, bytes)) : ∃ i, P.info? e = some i ∧ i.zero = some z ∧ i.size = sz ∧ i.bytes = bytes := by
  cases hi : P.info? e with
  | none => simp [hi] at h
  | some i =>
    simp only [hi, Option.map_some, Option.some.injEq, Prod.mk.injEq] at h
    exact ⟨i, rfl, h.1, h.2.1, h.2.2⟩

/-- Cells that are put into a block. -/
theorem setCells_block (b : Nat) : ∀ (vs : List Value) (o : Nat) (W : World) (C : Array Value) (e : Nat) (fr : Nat × Nat), W.heap[b]? = some (.cells C e fr) → o + vs.length ≤ C.size →
    ∃ C2 : Array Value, (W.setCells b o vs).heap[b]? = some (.cells C2 e fr) ∧ C2.size = C.size ∧ (∀ i, C2[i]? = if o ≤ i ∧ i < o + vs.length then vs[i - o]? else C[i]?) ∧
      (∀ k, k ≠ b → (W.setCells b o vs).heap[k]? = W.heap[k]?) ∧ (W.setCells b o vs).heap.size = W.heap.size ∧ (W.setCells b o vs).os = W.os ∧ (W.setCells b o vs).tape = W.tape ∧ (W.setCells b o vs).output = W.output := by
  intro vs
  induction vs with
  | nil => intro o W C e fr hb _; exact ⟨C, hb, rfl, fun i => by rw [if_neg (by simp only [List.length_nil]; omega)], fun _ _ => rfl, rfl, rfl, rfl, rfl⟩
  | cons v r ih =>
    intro o W C e fr hb hl
    simp only [List.length_cons] at hl
    have hb' : (W.setCell ⟨b, o, none⟩ v).heap[b]? = some (.cells (C.setIfInBounds o v) e fr) := by
      simp [World.setCell, Array.getElem?_modify, hb]
    obtain ⟨C2, h1, h2, h3, h4, h5, h6, h7, h8⟩ := ih (o + 1) (W.setCell ⟨b, o, none⟩ v) (C.setIfInBounds o v) e fr hb' (by simp; omega)
    refine ⟨C2, h1, by simpa using h2, fun i => ?_, fun k hk => ?_, by rw [World.setCells, h5]; simp [World.setCell], by rw [World.setCells, h6]; rfl, by rw [World.setCells, h7]; rfl, by rw [World.setCells, h8]; rfl⟩
    · rw [h3 i]
      simp only [List.length_cons]
      by_cases e1 : i = o
      · subst e1
        rw [if_neg (by omega), if_pos (by omega)]
        simp [Array.getElem?_setIfInBounds]; omega
      · by_cases e2 : o + 1 ≤ i ∧ i < o + 1 + r.length
        · rw [if_pos e2, if_pos (by omega)]
          have : i - o = (i - (o + 1)) + 1 := by omega
          rw [this, List.getElem?_cons_succ]
        · rw [if_neg e2, if_neg (by omega), Array.getElem?_setIfInBounds, if_neg (fun h => e1 h.symm)]
    · rw [World.setCells, h4 k hk]
      simp only [World.setCell, Array.getElem?_modify]
      rw [if_neg (fun h => hk h.symm)]

/-- An append to a row of one's own. -/
theorem run_append_G {W : World} (base t tx ty e : Nat) {i : TypeInfo} {z : Value} {sz bytes : Nat} (ht : P.underlying t = some (.slice e)) (hi : P.info? e = some i) (hz0 : i.zero = some z) (hz1 : i.size = sz) (hz2 : i.bytes = bytes) (hz : z.cells.size = sz)
    {v : Value} {m : Nat} {cs : List Value} (hown : ownG W base e sz v m cs) {x : Value} {m2 : Nat} {cs2 : List Value} (hs : Src P sz tx x m2 cs2 W) (h63 : m + m2 ≤ maxLen) (hby : (m + m2) * bytes ≤ 140737488355328) (hbase : base ≤ W.heap.size) :
    ∃ v' W', (Builtin.append_ #[t, tx] ty #[v, x]).run P W = .ok v' W' ∧ ownG W' base e sz v' (m + m2) (cs ++ cs2) ∧ W.grownBy W' v.ownBlock ∧ (v'.ownBlock = v.ownBlock ∨ v'.ownBlock = some W.heap.size) := by
  subst hz1
  have hsmall : ((m + m2 : Nat) : Int) ≤ 9223372036854775807 := by simp only [maxLen] at h63; omega
  have hlen : (cs ++ cs2).length = (m + m2) * i.size := by rw [List.length_append, hown.1, hs.newsLen, Nat.add_mul]
  have grow : ∀ (b : Option Addr) (cap : Nat), m ≤ cap → (Builtin.firstCells i.size m (.slice b m cap)).run P W.drew = .ok cs.toArray W.drew → cap < m + m2 →
      ∃ v' W', (Builtin.append_ #[t, tx] ty #[.slice b m cap, x]).run P W = .ok v' W' ∧ ownG W' base e i.size v' (m + m2) (cs ++ cs2) ∧ W.grownBy W' (Value.slice b m cap).ownBlock ∧ (v'.ownBlock = (Value.slice b m cap).ownBlock ∨ v'.ownBlock = some W.heap.size) := by
    intro b cap hmc hold hg
    have hr := run_append_grow_src (P := P) W t tx ty e i z ht hi hz0 b m cap cs hold x m2 cs2 hs hg hsmall (by rw [hz2]; exact growslice_fits (by omega) (by rw [Nat.add_mul] at hby ⊢; omega))
    have hge := grownCap_ge W (m + m2) cap e
    have hcm2 : grownCap W (m + m2) cap e ≤ maxLen := grownCap_le_maxLen W (m + m2) cap e h63
    refine ⟨_, _, hr, ⟨hlen, .inr ⟨W.heap.size, _, _, (0, 0), rfl, hbase, heap_alloc_new W.drew _, fun i _ hx => by simp at hx, hge, hcm2, ?_, ?_⟩⟩, ⟨rfl, rfl, rfl, by simp, fun k hk _ => (World.grownBy_alloc W.drew _ none).block k hk (by simp)⟩, .inr rfl⟩
    · simp only [Array.size_append, List.size_toArray, size_zeroCells, hz, hlen]
      rw [← Nat.add_mul]
      congr 1
      omega
    · simp only [Array.toList_append]
      rw [← hlen]
      exact List.take_left
  rcases hown.2 with ⟨rfl, rfl⟩ | ⟨g, cap, cur, fz, rfl, hbg, hg, hfz, hnc, hcm, hcs, htake⟩
  · have h0 : cs = [] := List.eq_nil_of_length_eq_zero (by rw [hown.1]; simp)
    subst h0
    by_cases h2 : m2 = 0
    · subst h2
      have h2 : cs2 = [] := List.eq_nil_of_length_eq_zero (by rw [hs.newsLen]; simp)
      subst h2
      refine ⟨.slice none 0 0, W, ?_, by simpa using hown, ⟨rfl, rfl, rfl, Nat.le_refl _, fun _ _ _ => rfl⟩, .inl rfl⟩
      rcases hs.kind with ⟨e', hk⟩ | hk <;> simp [Builtin.append_, run_underlying ht, run_underlying hk, sizeOf, typeInfo, hi, hs.len, hs.cells]
    · exact grow none 0 (Nat.le_refl _) (by simp [Builtin.firstCells]) (by omega)
  · by_cases hroom : m + m2 ≤ cap
    · have hfit : m * i.size + cs2.length ≤ cur.size := by rw [hs.newsLen, hcs, ← Nat.add_mul]; exact Nat.mul_le_mul_right _ hroom
      have hr := run_append_room_src (P := P) W t tx ty e i ht hi g 0 m cap x m2 cs2 hs hroom (fun j hj => by
        have : 0 + m * i.size + j < cur.size := by omega
        simp only [World.cell?, hg]
        rw [Array.getElem?_eq_getElem this]; rfl) (fun j hj => by
        have := hfz (0 + m * i.size + j) (by omega)
        simp only [World.frozen?, hg, Bool.and_eq_false_iff, decide_eq_false_iff_not]
        omega)
      simp only [Nat.zero_add] at hr
      obtain ⟨C2, q1, q2, q3, q4, q5, q6, q7, q8⟩ := setCells_block g cs2 (m * i.size) W cur e fz hg hfit
      refine ⟨_, _, hr, ⟨hlen, .inr ⟨g, cap, C2, fz, rfl, hbg, q1, by rw [q2]; exact hfz, hroom, hcm, by rw [q2, hcs], ?_⟩⟩, ⟨q6, q7, q8, by rw [q5]; exact Nat.le_refl _, fun k _ hk => q4 k (fun ee => hk (by simp [Value.ownBlock, ee]))⟩, .inl rfl⟩
      apply List.ext_getElem?
      intro k
      rw [List.getElem?_take]
      have hcl : cs.length = m * i.size := hown.1
      by_cases hk : k < (m + m2) * i.size
      · rw [if_pos hk, Array.getElem?_toList, q3]
        by_cases hk2 : k < m * i.size
        · rw [if_neg (by omega), List.getElem?_append_left (by omega), ← htake, List.getElem?_take, if_pos hk2, Array.getElem?_toList]
        · rw [if_pos ⟨by omega, by rw [hs.newsLen, ← Nat.add_mul]; exact hk⟩, List.getElem?_append_right (by omega), hcl]
      · rw [if_neg hk, List.getElem?_eq_none (by rw [hlen]; omega)]
    · refine grow (some ⟨g, 0, none⟩) cap hnc (run_firstCells_some W.drew i.size m _ m cap cs hown.1 fun j u hu => ?_) (by omega)
      rw [Addr.add_lit, Nat.zero_add]
      show W.cell? ⟨g, j, none⟩ = some u
      rw [cell_of_row W g j cur e fz hg]
      rw [← htake, List.getElem?_take] at hu
      split at hu
      · simpa using hu
      · cases hu

/-- An append to a row of the call's own, whatever is appended. -/
theorem stepaps (ha : Has n l a) (HW : Wd w0 W bs os) (d i : Nat) (t tx e : Nat) (x y : Operand) (z : Value) (sz bytes : Nat) (v : Value) (m : Nat) (cs : List Value) (v2 : Value) (m2 : Nat) (cs2 : List Value)
    (hi : os[i]? = some ⟨e, sz, v, m, cs⟩) (ho : o.op = .call { callee := .builtin .append, args := #[x, y], argTypes := #[t, tx] }) (hx : ev l x = v) (hy : ev l y = v2) (hs : Src P sz tx v2 m2 cs2 W)
    (ht : P.underlying t = some (.slice e)) (hinfo : (P.info? e).map (fun i => (i.zero, i.size, i.bytes)) = some (some z, sz, bytes)) (hz : z.cells.size = sz)
    (h63 : m + m2 ≤ maxLen) (hby : (m + m2) * bytes ≤ 140737488355328) (hok : okB n l ops o d = true)
    (h : ∀ A c a' W', Wd w0 W' bs (os.set i ⟨e, sz, .slice A (m + m2) c, m + m2, cs ++ cs2⟩) → Has n ((d, .slice A (m + m2) c) :: l) a' → wpList P ops Q rest a' W') : wpList P ops Q (o :: rest) a W := by
  obtain ⟨ie, hie, hz0, hz1, hz2⟩ := infoParts hinfo
  obtain ⟨v', W', hrun, ho', hg, hat⟩ := run_append_G (P := P) w0.heap.size t tx o.type e ht hie hz0 hz1 hz2 hz (HW.own i _ hi) hs h63 hby HW.size
  obtain ⟨A, c, rfl⟩ := (Rd.of_own ho').shape
  refine stepv (W' := W') ha d (.slice A (m + m2) c) hok ?_ fun a' ha' => h A c a' W' (HW.turno hi ho' hg ?_) ha'
  · unfold execOp
    simp only [ho, resolve, invoke, builtin, Sem.run_bind, Sem.run_pure, Result.andThen_ok, List.map_toArray, List.map_cons, List.map_nil, hx, hy, hrun]
  · rcases hat with e | e
    · exact .inl e
    · exact .inr (fun k hk => by rw [e] at hk; simp at hk; omega)

theorem srcRd {sz tx e' n : Nat} {v : Value} {cs : List Value} {W : World} (hr : Rd sz W v n cs) (ht : P.underlying tx = some (.slice e')) (h1 : oneCells cs = true) : Src P sz tx v n cs W := by
  obtain ⟨hl, hr⟩ := hr
  rcases hr with ⟨rfl, rfl⟩ | ⟨b, off, cap, rfl, _, hcell⟩
  · have : cs = [] := List.eq_nil_of_length_eq_zero (by simpa using hl)
    subst this
    exact Src.ofNil W ht 0
  · exact Src.ofSlice W ht ⟨b, off, none⟩ n cap cs hl (fun j u hu => by rw [Addr.add_lit]; exact hcell j u hu) (fun u hu => List.all_eq_true.mp h1 u hu)

/-- An append of what is read elsewhere to a row of the call's own. -/
theorem stepap (ha : Has n l a) (HW : Wd w0 W bs os) (d i : Nat) (t e : Nat) (x y : Operand) (z : Value) (sz bytes : Nat) (v : Value) (m : Nat) (cs : List Value) (v2 : Value) (m2 : Nat) (cs2 : List Value)
    (hi : os[i]? = some ⟨e, sz, v, m, cs⟩) (ho : o.op = .call { callee := .builtin .append, args := #[x, y], argTypes := #[t, t] }) (hx : ev l x = v) (hy : ev l y = v2) (hr : Rd sz W v2 m2 cs2) (h1 : oneCells cs2 = true)
    (ht : P.underlying t = some (.slice e)) (hinfo : (P.info? e).map (fun i => (i.zero, i.size, i.bytes)) = some (some z, sz, bytes)) (hz : z.cells.size = sz) (hsz : 0 < sz)
    (h63 : m + m2 ≤ maxLen) (hby : (m + m2) * bytes ≤ 140737488355328) (hok : okB n l ops o d = true)
    (h : ∀ A c a' W', Wd w0 W' bs (os.set i ⟨e, sz, .slice A (m + m2) c, m + m2, cs ++ cs2⟩) → Has n ((d, .slice A (m + m2) c) :: l) a' → wpList P ops Q rest a' W') : wpList P ops Q (o :: rest) a W :=
  stepaps ha HW d i t t e x y z sz bytes v m cs v2 m2 cs2 hi ho hx hy (srcRd hr ht h1) ht hinfo hz h63 hby hok h

theorem byteCells_append (s u : ByteArray) : byteCells (s ++ u) = byteCells s ++ byteCells u := by
  unfold byteCells
  rw [ByteArray.data_append, Array.toList_append, List.map_append]

/-- An append of a text's bytes to a row of the call's own. -/
theorem stepapt (ha : Has n l a) (HW : Wd w0 W bs os) (d i : Nat) (t tx e : Nat) (x y : Operand) (v : Value) (s0 s : ByteArray)
    (hi : os[i]? = some ⟨e, 1, v, s0.size, byteCells s0⟩) (ho : o.op = .call { callee := .builtin .append, args := #[x, y], argTypes := #[t, tx] }) (hx : ev l x = v) (hy : ev l y = .string s)
    (ht : P.underlying t = some (.slice e)) (htx : P.underlying tx = some .string) (hinfo : (P.info? e).map (fun i => (i.zero, i.size, i.bytes)) = some (some (.int .u8 0), 1, 1))
    (hby : s0.size + s.size ≤ 140737488355328) (hok : okB n l ops o d = true)
    (h : ∀ A c a' W', Wd w0 W' bs (os.set i ⟨e, 1, .slice A (s0 ++ s).size c, (s0 ++ s).size, byteCells (s0 ++ s)⟩) → Has n ((d, .slice A (s0 ++ s).size c) :: l) a' → wpList P ops Q rest a' W') : wpList P ops Q (o :: rest) a W := by
  refine stepaps ha HW d i t tx e x y (.int .u8 0) 1 1 v s0.size _ (.string s) s.size _ hi ho hx hy (Src.ofString W htx s) ht hinfo rfl (by unfold maxLen; omega) (by omega) hok fun A c a' W' hW ha' => h A c a' W' ?_ ?_
  · rw [ByteArray.size_append, byteCells_append]; exact hW
  · rw [ByteArray.size_append]; exact ha'

/-- The same, of lists. -/
theorem stepape {α : Type} (enc : α → List Value) (ha : Has n l a) (HW : Wd w0 W bs os) (d i : Nat) (t e : Nat) (x y : Operand) (z : Value) (sz bytes : Nat) (v : Value) (xs : List α) (v2 : Value) (ys : List α)
    (hi : os[i]? = some ⟨e, sz, v, xs.length, encs enc xs⟩) (ho : o.op = .call { callee := .builtin .append, args := #[x, y], argTypes := #[t, t] }) (hx : ev l x = v) (hy : ev l y = v2) (hr : Rd sz W v2 ys.length (encs enc ys)) (h1 : ∀ x, oneCells (enc x) = true)
    (ht : P.underlying t = some (.slice e)) (hinfo : (P.info? e).map (fun i => (i.zero, i.size, i.bytes)) = some (some z, sz, bytes)) (hz : z.cells.size = sz) (hsz : 0 < sz)
    (h63 : xs.length + ys.length ≤ maxLen) (hby : (xs.length + ys.length) * bytes ≤ 140737488355328) (hok : okB n l ops o d = true)
    (h : ∀ A c a' W', Wd w0 W' bs (os.set i ⟨e, sz, .slice A (xs ++ ys).length c, (xs ++ ys).length, encs enc (xs ++ ys)⟩) → Has n ((d, .slice A (xs ++ ys).length c) :: l) a' → wpList P ops Q rest a' W') : wpList P ops Q (o :: rest) a W := by
  refine stepap ha HW d i t e x y z sz bytes v xs.length (encs enc xs) v2 ys.length (encs enc ys) hi ho hx hy hr ?_ ht hinfo hz hsz h63 hby hok ?_
  · unfold oneCells encs
    rw [List.all_eq_true]
    intro u hu
    obtain ⟨y, _, hy⟩ := List.mem_flatMap.mp hu
    exact List.all_eq_true.mp (h1 y) u hy
  · intro A c a' W' hW ha'
    refine h A c a' W' ?_ ?_
    · rw [List.length_append, encs_append]; exact hW
    · rw [List.length_append]; exact ha'

/-- 'make' of elements of one cell. -/
theorem stepmk {α : Type} (enc : α → List Value) (dfl : α) (ha : Has n l a) (HW : Wd w0 W bs os) (d t e : Nat) (x y : Operand) (k k' : IntKind) (j : Int) (zv : Value) (bytes : Nat) (ho : o.op = .makeSlice t x y) (hx : ev l x = .int k j) (hy : ev l y = .int k' j)
    (ht : P.underlying t = some (.slice e)) (hinfo : (P.info? e).map (fun i => (i.zero, i.size, i.bytes)) = some (some zv, 1, bytes)) (hz : zv.cells = #[zv]) (hd : enc dfl = [zv]) (h0 : 0 ≤ j) (hb : (bytes : Int) * j ≤ 281474976710656) (h63 : j ≤ 9223372036854775807) (hok : okB n l ops o d = true)
    (h : ∀ b a' W', Wd w0 W' bs (⟨e, 1, .slice (some ⟨b, 0, none⟩) (List.replicate j.toNat dfl).length j.toNat, (List.replicate j.toNat dfl).length, encs enc (List.replicate j.toNat dfl)⟩ :: os) → Has n ((d, .slice (some ⟨b, 0, none⟩) (List.replicate j.toNat dfl).length j.toNat) :: l) a' → wpList P ops Q rest a' W') :
    wpList P ops Q (o :: rest) a W := by
  obtain ⟨ie, hie, hz0, hz1, hz2⟩ := infoParts hinfo
  have hrun := run_make (P := P) W t e ie zv ht hie hz0 k k' j j h0 (Int.le_refl _) (by rw [hz2]; exact hb) h63
  have hlen : (List.replicate j.toNat dfl).length = j.toNat := List.length_replicate
  refine stepv (W' := W.alloc (.cells (madeCells zv.cells (j.toNat * ie.size)) e)) ha d (.slice (some ⟨W.heap.size, 0, none⟩) j.toNat j.toNat) hok ?_ fun a' ha' => h W.heap.size a' _ ?_ (by rw [hlen]; exact ha')
  · unfold execOp
    simp only [ho, hx, hy, Sem.run_bind, hrun, Result.andThen_ok, Sem.run_pure]
  · rw [hlen]
    have hcs : (madeCells zv.cells (j.toNat * ie.size)).toList.take (j.toNat * 1) = encs enc (List.replicate j.toNat dfl) := by
      rw [hz1, hz, Nat.mul_one]
      unfold madeCells encs
      apply List.ext_getElem?
      intro i
      rw [List.flatMap_replicate, hd, List.flatten_replicate_singleton]
      by_cases hi : i < j.toNat
      · simp [hi, Nat.mod_one]
      · simp [hi]
    exact HW.newo _ e 1 j.toNat j.toNat _ (Nat.le_refl _) (by unfold maxLen; omega) (by rw [size_madeCells, hz1]) hcs

theorem run_storeCells_G (P : Program) (g o t : Nat) (fz : Nat × Nat) : ∀ (vs : List Value) (i : Nat) (cur : Array Value) (w : World), w.heap[g]? = some (.cells cur t fz) → (∀ i, i < cur.size → ¬ (fz.1 ≤ i ∧ i < fz.2)) → o + i + vs.length ≤ cur.size → (∀ v ∈ vs, v.oneCell' = true) →
    (storeCells ⟨g, o, none⟩ vs i).run P w = .ok () (w.setRow g (cur.toList.take (o + i) ++ vs ++ cur.toList.drop (o + i + vs.length)).toArray)
  | [], i, cur, w, hg, _, _, _ => by
    simp only [storeCells, List.append_nil, List.length_nil, Nat.add_zero, List.take_append_drop, Array.toArray_toList]
    rw [setRow_self w g cur t fz hg]
    rfl
  | v :: rest, i, cur, w, hg, hfz, hl, h1 => by
    have hi : o + i < cur.size := by simp at hl; omega
    have hadd : (⟨g, o, none⟩ : Addr).add i = ⟨g, o + i, none⟩ := by unfold Addr.add; split <;> simp_all
    have hcell : w.cell? ⟨g, o + i, none⟩ = some cur[o + i] := by simp [World.cell?, hg, hi]
    have hfro : w.frozen? ⟨g, o + i, none⟩ = false := by
      have := hfz (o + i) hi
      simp only [World.frozen?, hg, Bool.and_eq_false_iff, decide_eq_false_iff_not]
      omega
    have hst : (store ((⟨g, o, none⟩ : Addr).add i) v).run P w = .ok () (w.setRow g (cur.setIfInBounds (o + i) v)) := by
      rw [hadd, run_store P w _ v _ (h1 v (by simp)), hcell]
      simp [hfro, setCell_eq_setRow w g (o + i) cur t fz v hg]
    have ih := run_storeCells_G P g o t fz rest (i + 1) (cur.setIfInBounds (o + i) v) (w.setRow g (cur.setIfInBounds (o + i) v)) (setRow_heap w g cur _ t _ hg) (by simpa using hfz) (by simp at hl ⊢; omega) (fun x hx => h1 x (by simp [hx]))
    simp only [storeCells, Sem.run_bind, hst, Result.andThen_ok, ih, setRow_setRow]
    congr 3
    have e := list_seg_step cur.toList (o + i) v rest (by simp at hl ⊢; omega)
    simpa [Array.toList_setIfInBounds, Nat.add_assoc] using e

theorem run_storeVar_G {b : Nat} {C : Array Value} {T : Nat} {fz : Nat × Nat} (hb : W.heap[b]? = some (.cells C T fz)) (hfz : ∀ i, i < C.size → ¬ (fz.1 ≤ i ∧ i < fz.2)) (t m : Nat) (v : Value) (hs : (P.info? t).map (·.size) = some v.cells.size) (hm : m + v.cells.size ≤ C.size) (h1 : oneCells v.cells.toList = true) :
    (storeVar t ⟨b, m, none⟩ v).run P W = .ok () (W.setRow b (putAt C m v.cells.toList)) := by
  cases hi : P.info? t with
  | none => simp [hi] at hs
  | some i =>
    have hs' : i.size = v.cells.size := by simpa [hi] using hs
    have := run_storeCells_G P b m T fz v.cells.toList 0 C W hb hfz (by simpa using hm) (by intro u hu; exact List.all_eq_true.mp h1 u hu)
    simp only [Nat.add_zero] at this
    simp [storeVar, sizeOf, typeInfo, hi, hs', this, putAt]

/-- The address of an element of a row of the call's own. -/
theorem stepio {α : Type} (enc : α → List Value) (ha : Has n l a) (HW : Wd w0 W bs os) (d q : Nat) {sz e : Nat} {v : Value} {xs : List α} (hq : os[q]? = some ⟨e, sz, v, xs.length, encs enc xs⟩) (t : Nat) (x i : Operand) (k : IntKind) (j : Int)
    (ho : o.op = .indexAddr t x i) (hx : ev l x = v) (hi : ev l i = .int k j)
    (ht : P.underlying t = some (.slice e)) (hs : (P.info? e).map (·.size) = some sz) (h0 : 0 ≤ j) (h1 : j < xs.length) (hok : okB n l ops o d = true)
    (h : ∀ b a', v.ownBlock = some b → Has n ((d, .pointer (some ⟨b, j.toNat * sz, none⟩)) :: l) a' → wpList P ops Q rest a' W) : wpList P ops Q (o :: rest) a W := by
  have hown := HW.own q _ hq
  rcases hown.2 with ⟨_, hn⟩ | ⟨g, cap, cur, fz, hv, _, _, _⟩
  · simp only at hn; omega
  · cases hie : P.info? e with
    | none => simp [hie] at hs
    | some ie =>
      have hsz : ie.size = sz := by simpa [hie] using hs
      simp only at hv
      refine stepv (W' := W) ha d (.pointer (some ⟨g, j.toNat * sz, none⟩)) hok ?_ fun a' ha' => h g a' (by rw [hv]; rfl) ha'
      have hcond : 0 ≤ j ∧ j < (xs.length : Int) := ⟨h0, h1⟩
      unfold execOp
      simp only [ho, hx, hi, hv, Instr.indexAt, asIntOf, Sem.run_bind, Sem.run_pure, Result.andThen_ok, run_underlying ht, if_pos hcond, sizeOf, typeInfo, run_program, hie, hsz, Addr.add_lit, Nat.zero_add]

/-- A store into an element of a row of the call's own. -/
theorem stepos {α : Type} (enc : α → List Value) (dfl : α) (ha : Has n l a) (HW : Wd w0 W bs os) (q : Nat) {sz e : Nat} (hsz : ∀ x, (enc x).length = sz) {v : Value} {xs : List α} (hq : os[q]? = some ⟨e, sz, v, xs.length, encs enc xs⟩) {b : Nat} (hb : v.ownBlock = some b)
    (j : Int) (h0 : 0 ≤ j) (h1 : j < xs.length) (t m : Nat) (x y : Operand) (u : Value) (x' : α) (ho : o.op = .store t x y) (hp : ev l x = .pointer (some ⟨b, j.toNat * sz + m, none⟩)) (hv : ev l y = u)
    (hs : (P.info? t).map (·.size) = some u.cells.size) (hm : Nat.ble (m + u.cells.size) sz = true) (hone : oneCells u.cells.toList = true)
    (hx' : (enc (rdL dfl xs j)).take m ++ u.cells.toList ++ (enc (rdL dfl xs j)).drop (m + u.cells.size) = enc x') (hok : okS l ops o = true) (v' : Value) (hv' : v' = v)
    (h : ∀ a' W', Wd w0 W' bs (os.set q ⟨e, sz, v', (xs.set j.toNat x').length, encs enc (xs.set j.toNat x')⟩) → Has n l a' → wpList P ops Q rest a' W') : wpList P ops Q (o :: rest) a W := by
  subst hv'
  have hown := HW.own q _ hq
  have hm' := Nat.le_of_ble_eq_true hm
  rcases hown.2 with ⟨hv0, hn⟩ | ⟨g, cap, cur, fz, hv0, hg0, hg, hfz, hc, hcm, hcs, htake⟩
  · simp only at hn; omega
  · simp only at hv0 hcs htake hc hg
    have hgb : g = b := by rw [hv0] at hb; simpa [Value.ownBlock] using hb
    subst hgb
    have hj : j.toNat < xs.length := by omega
    have hfit : j.toNat * sz + sz ≤ xs.length * sz := by
      have := Nat.mul_le_mul_right sz (Nat.succ_le_of_lt hj)
      rw [Nat.succ_mul] at this
      exact this
    have hcap : xs.length * sz ≤ cap * sz := Nat.mul_le_mul_right _ hc
    have hst := run_storeVar_G (P := P) hg hfz t (j.toNat * sz + m) u hs (by omega) hone
    refine steps (W' := W.setRow g (putAt cur (j.toNat * sz + m) u.cells.toList)) ha hok ?_ fun a' ha' => h a' _ (HW.turno hq ?_ ?_ (.inl rfl)) ha'
    · unfold execOp
      simp only [ho, hp, hv, Instr.storeAt, Instr.sureAddr, Sem.run_bind, Sem.run_pure, Result.andThen_ok, hst]
    · have hsize : (putAt cur (j.toNat * sz + m) u.cells.toList).size = cap * sz := by
        unfold putAt
        simp only [List.size_toArray, List.length_append, List.length_take, List.length_drop, Array.length_toList]
        have : u.cells.toList.length = u.cells.size := Array.length_toList
        omega
      refine ⟨by rw [encs_length hsz], .inr ⟨g, cap, _, fz, by rw [hv0, List.length_set], hg0, setRow_heap W g cur _ e fz hg, by rw [hsize, ← hcs]; exact hfz, by rw [List.length_set]; exact hc, hcm, hsize, ?_⟩⟩
      rw [List.length_set]
      unfold putAt
      have hul : u.cells.toList.length = u.cells.size := Array.length_toList
      have hA : (encs enc (xs.take j.toNat)).length = j.toNat * sz := by rw [encs_length hsz, List.length_take]; congr 1; omega
      have hold : cur.toList.take (xs.length * sz) = encs enc (xs.take j.toNat) ++ (enc (xs.getD j.toNat dfl) ++ encs enc (xs.drop (j.toNat + 1))) := by rw [htake]; exact encs_split dfl xs j.toNat hj
      have hnew : encs enc (xs.set j.toNat x') = encs enc (xs.take j.toNat) ++ (enc x' ++ encs enc (xs.drop (j.toNat + 1))) := by
        have h1 : xs.set j.toNat x' = xs.take j.toNat ++ (x' :: xs.drop (j.toNat + 1)) := List.set_eq_take_append_cons_drop .. |>.trans (if_pos hj)
        rw [h1, encs_append]
        rfl
      rw [hnew, ← hx']
      have hcurl : cur.toList.length = cap * sz := by rw [Array.length_toList, hcs]
      have hel : (enc (xs.getD j.toNat dfl)).length = sz := hsz _
      have hcur : cur.toList = (encs enc (xs.take j.toNat) ++ (enc (xs.getD j.toNat dfl) ++ encs enc (xs.drop (j.toNat + 1)))) ++ cur.toList.drop (xs.length * sz) := by rw [← hold, List.take_append_drop]
      have hB : (encs enc (xs.drop (j.toNat + 1))).length = xs.length * sz - j.toNat * sz - sz := by
        have := congrArg List.length hold
        simp only [List.length_append, hA, hel, List.length_take, hcurl] at this
        omega
      have e1 : cur.toList.take (j.toNat * sz + m) = encs enc (xs.take j.toNat) ++ (enc (xs.getD j.toNat dfl)).take m := by
        rw [hcur, List.append_assoc, List.append_assoc, List.take_append, hA, List.take_of_length_le (by omega), Nat.add_sub_cancel_left, List.take_append, hel, show m - sz = 0 by omega]
        simp
      have e2 : cur.toList.drop (j.toNat * sz + m + u.cells.toList.length) = (enc (xs.getD j.toNat dfl)).drop (m + u.cells.size) ++ (encs enc (xs.drop (j.toNat + 1)) ++ cur.toList.drop (xs.length * sz)) := by
        rw [hul]
        conv => lhs; rw [hcur]
        rw [List.append_assoc, List.append_assoc, List.drop_append, hA, List.drop_of_length_le (by omega), List.nil_append, List.drop_append, hel, show j.toNat * sz + m + u.cells.size - j.toNat * sz = m + u.cells.size by omega, show m + u.cells.size - sz = 0 by omega]
        simp
      rw [e1, e2]
      have hlen : (encs enc (xs.take j.toNat) ++ List.take m (enc (xs.getD j.toNat dfl)) ++ u.cells.toList ++ ((enc (xs.getD j.toNat dfl)).drop (m + u.cells.size) ++ encs enc (xs.drop (j.toNat + 1)))).length = xs.length * sz := by
        simp only [List.length_append, hA, List.length_take, List.length_drop, hel, hB, hul]
        omega
      rw [show encs enc (xs.take j.toNat) ++ List.take m (enc (xs.getD j.toNat dfl)) ++ u.cells.toList ++ ((enc (xs.getD j.toNat dfl)).drop (m + u.cells.size) ++ (encs enc (xs.drop (j.toNat + 1)) ++ cur.toList.drop (xs.length * sz)))
          = (encs enc (xs.take j.toNat) ++ List.take m (enc (xs.getD j.toNat dfl)) ++ u.cells.toList ++ ((enc (xs.getD j.toNat dfl)).drop (m + u.cells.size) ++ encs enc (xs.drop (j.toNat + 1)))) ++ cur.toList.drop (xs.length * sz) by simp only [List.append_assoc], ← hlen, List.take_left]
      simp only [List.append_assoc]
      rfl
    · have := grown_setRow W g (putAt cur (j.toNat * sz + m) u.cells.toList)
      rw [hv0]
      exact this

def encIK (k : IntKind) (x : Int) : List Value := [.int k x]
def encS (x : ByteArray) : List Value := [.string x]
def encB (x : Bool) : List Value := [.bool x]

/-- A text out of bytes. -/
theorem stepbt (ha : Has n l a) (d t1 t2 e : Nat) (x : Operand) {v : Value} {xs : List Int} (hr : Rd 1 W v xs.length (encs (encIK .u8) xs)) (ho : o.op = .convert t1 t2 x) (hx : ev l x = v)
    (hs : P.underlying t1 = some (.slice e)) (he : P.underlying e = some (.int .u8)) (hd : P.underlying t2 = some .string) (hok : okB n l ops o d = true)
    (h : ∀ a', Has n ((d, .string (strOfNums xs)) :: l) a' → wpList P ops Q rest a' W) : wpList P ops Q (o :: rest) a W := by
  have hrun : (convert t1 t2 v).run P W = .ok (.string (strOfNums xs)) W := by
    rcases hr.2 with ⟨rfl, h0⟩ | ⟨b, off, cap, rfl, _, hcell⟩
    · have : xs = [] := List.eq_nil_of_length_eq_zero h0
      subst this
      exact run_convert_bytes_nil W t1 e hs he 0 0 t2 hd
    · refine run_convert_bytes_arg W t1 e hs he b off xs.length cap xs rfl (fun i hi => hcell i _ ?_) t2 hd
      have := encs_get (enc := encIK .u8) (sz := 1) (fun _ => rfl) (0 : Int) xs i 0 hi (by omega)
      rw [Nat.mul_one, Nat.add_zero] at this
      rw [this]
      rfl
  refine stepv (W' := W) ha d _ hok ?_ h
  unfold execOp
  simp only [ho, hx, Sem.run_bind, hrun, Result.andThen_ok, Sem.run_pure]
end
end Go.Proofs.Ytdcojinnjpihaaa.X
