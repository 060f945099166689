/- A text's bytes in a block of their own: made, changed, read. No condition. -/
import Derived.Test.YtdcojinnjpihaaaDoorXTail
import Derived.Test.YtdcojinnjpihaaaDoorXAbs
import Derived.Laws.IdiomStrings
namespace Go.Proofs.YtdcojinnjpihaaaDoor.X
open Go Go.RowKit
set_option linter.unusedVariables false
set_option linter.unusedSimpArgs false

def sbObj (e : Nat) (L : List Int) (z : List Value) : Obj := .cells (encs (encIK .u8) L ++ z).toArray e (L.length + z.length, L.length + z.length + 1)

theorem encs_u8 (L : List Int) : encs (encIK .u8) L = L.map (Value.int .u8) := by
  induction L with
  | nil => rfl
  | cons x l ih => rw [List.map_cons, ← ih]; rfl

section
variable {P : Program} {n : Nat} {l : List (Nat × Value)} {a : Act} {ops : Array Oper} {o : Oper} {rest : List Oper} {Q : Exit → Act → World → Prop} {w0 W : World} {bs : List (Nat × Obj)} {os : List OwnA}

/-- The bytes of a text, in a new block. -/
theorem stepsb (ha : Has n l a) (HW : Wd w0 W bs os) (d t1 t2 e : Nat) (x : Operand) (s : ByteArray) (ho : o.op = .convert t1 t2 x) (hx : ev l x = .string s)
    (h1 : P.underlying t1 = some .string) (h2 : P.underlying t2 = some (.slice e)) (h3 : P.underlying e = some (.int .u8)) (hok : okB n l ops o d = true)
    (h : ∀ b N c z a' W', N = s.size → N ≤ c → Wd w0 W' ((b, sbObj e (bytesI s) z) :: bs) os → Has n ((d, .slice (some ⟨b, 0, none⟩) N c) :: l) a' → wpList P ops Q rest a' W') : wpList P ops Q (o :: rest) a W := by
  have hrun := run_bytes_of_string (P := P) W t1 t2 e s h1 h2 h3
  have hge : s.size ≤ grownCap W s.size 0 e := grownCap_ge W s.size 0 e
  refine stepv (W' := W.drew.alloc (.cells (bytesRow s (grownCap W s.size 0 e)) e ((bytesRow s (grownCap W s.size 0 e)).size, (bytesRow s (grownCap W s.size 0 e)).size + 1))) ha d (.slice (some ⟨W.heap.size, 0, none⟩) s.size (grownCap W s.size 0 e)) hok ?_ fun a' ha' => ?_
  · unfold execOp
    simp only [ho, hx, Sem.run_bind, hrun, Result.andThen_ok, Sem.run_pure]
  · refine h W.heap.size s.size (grownCap W s.size 0 e) (List.replicate (grownCap W s.size 0 e - s.size) (.int .u8 0)) a' _ rfl hge ?_ ha'
    have hb : bytesRow s (grownCap W s.size 0 e) = (encs (encIK .u8) (bytesI s) ++ List.replicate (grownCap W s.size 0 e - s.size) (Value.int .u8 0)).toArray := by
      apply Array.ext'
      unfold bytesRow bytesI
      rw [encs_u8]
      simp [Function.comp_def]
    have hsz : (bytesRow s (grownCap W s.size 0 e)).size = (bytesI s).length + (List.replicate (grownCap W s.size 0 e - s.size) (Value.int .u8 0)).length := by
      rw [hb]; simp [encs_u8]
    have hW := (HW.drew (W.drawn + 1)).alloc (sbObj e (bytesI s) (List.replicate (grownCap W s.size 0 e - s.size) (.int .u8 0)))
    have ho : sbObj e (bytesI s) (List.replicate (grownCap W s.size 0 e - s.size) (.int .u8 0)) = .cells (bytesRow s (grownCap W s.size 0 e)) e ((bytesRow s (grownCap W s.size 0 e)).size, (bytesRow s (grownCap W s.size 0 e)).size + 1) := by
      unfold sbObj
      rw [hsz, hb]
    rw [ho] at hW ⊢
    exact hW

/-- What is read there. -/
theorem sbRead (HW : Wd w0 W bs os) {i b e N c : Nat} {L : List Int} {z : List Value} (hi : bs[i]? = some (b, sbObj e L z)) (hl : L.length = N) (hc : N ≤ c) : Rd 1 W (.slice (some ⟨b, 0, none⟩) N c) L.length (encs (encIK .u8) L) := by
  have hb := (HW.blk i _ hi).2
  refine ⟨by rw [encs_u8]; simp, .inr ⟨b, 0, c, by rw [hl], by omega, fun j u hu => ?_⟩⟩
  unfold sbObj at hb
  simp only [World.cell?, hb, Nat.zero_add]
  have hj : j < (encs (encIK .u8) L).length := (List.getElem?_eq_some_iff.1 hu).1
  simp only [List.getElem?_toArray]
  rw [List.getElem?_append_left hj]
  exact hu

/-- A byte is put there. -/
theorem stepsbs (ha : Has n l a) (HW : Wd w0 W bs os) (i : Nat) {b e N : Nat} {L : List Int} {z : List Value} (hi : bs[i]? = some (b, sbObj e L z)) (hl : L.length = N) (t : Nat) (x y : Operand) (j v : Int) (ho : o.op = .store t x y)
    (hp : ev l x = .pointer (some ⟨b, 0 + j.toNat * 1, none⟩)) (hv : ev l y = .int .u8 v) (hs : (P.info? t).map (·.size) = some 1) (h0 : 0 ≤ j) (h1 : j < (N : Int)) (hok : okS l ops o = true)
    (h : ∀ a' W', Wd w0 W' (bs.set i (b, sbObj e (L.set j.toNat v) z)) os → Has n l a' → wpList P ops Q rest a' W') : wpList P ops Q (o :: rest) a W := by
  have hb := (HW.blk i _ hi).2
  have hb' := hb
  unfold sbObj at hb
  have hj : j.toNat < L.length := by omega
  have hsz : (encs (encIK .u8) L ++ z).toArray.size = L.length + z.length := by simp [encs_u8]
  obtain ⟨C2, q1, q2, q3, q4, q5, q6, q7, q8⟩ := setCells_block b [Value.int .u8 v] j.toNat W _ e _ hb (by rw [hsz]; simp; omega)
  have hC2 : C2 = (encs (encIK .u8) (L.set j.toNat v) ++ z).toArray := by
    apply Array.ext_getElem?
    intro k
    rw [q3]
    simp only [List.getElem?_toArray, encs_u8, List.map_set]
    by_cases hk : j.toNat ≤ k ∧ k < j.toNat + [Value.int .u8 v].length
    · rw [if_pos hk]
      have hk' : k = j.toNat := by simp at hk; omega
      subst hk'
      rw [List.getElem?_append_left (by simp; omega), List.getElem?_set_self (by simp; omega)]
      simp
    · rw [if_neg hk]
      have hk' : j.toNat ≠ k := by simp at hk; omega
      by_cases hkl : k < L.length
      · rw [List.getElem?_append_left (by simp; omega), List.getElem?_append_left (by simp; omega), List.getElem?_set_ne hk']
      · rw [List.getElem?_append_right (by simp; omega), List.getElem?_append_right (by simp; omega)]
        simp
  refine steps (W' := W.setCells b j.toNat [Value.int .u8 v]) ha hok ?_ fun a' ha' => h a' _ (HW.turnb hi ?_ ?_) ha'
  · cases hit : P.info? t with
    | none => simp [hit] at hs
    | some it =>
      have hs' : it.size = 1 := by simpa [hit] using hs
      have hcell : ∀ q, q < [Value.int .u8 v].length → (W.cell? ⟨b, j.toNat + 0 + q, none⟩).isSome = true := fun q hq => by
        simp only [List.length_singleton] at hq
        have : j.toNat + 0 + q < (encs (encIK .u8) L ++ z).toArray.size := by rw [hsz]; omega
        simp only [World.cell?, hb]
        rw [Array.getElem?_eq_getElem this]; rfl
      have hfr : ∀ q, q < [Value.int .u8 v].length → W.frozen? ⟨b, j.toNat + 0 + q, none⟩ = false := fun q hq => by
        simp only [List.length_singleton] at hq
        simp only [World.frozen?, hb, Bool.and_eq_false_iff, decide_eq_false_iff_not]
        omega
      have hst := run_storeCells_cells (P := P) b j.toNat [Value.int .u8 v] 0 W hcell hfr (fun u hu => by simp at hu; subst hu; rfl)
      unfold execOp
      simp only [ho, hp, hv, Nat.zero_add, Nat.mul_one, Instr.storeAt, Instr.sureAddr, Sem.run_bind, Sem.run_pure, Result.andThen_ok, storeVar, sizeOf, typeInfo, run_program, hit]
      simp [hs', Value.cells, hst]
  · rw [q1, hC2]
    unfold sbObj
    simp
  · refine ⟨q6, q7, q8, by rw [q5]; exact Nat.le_refl _, fun k hk hne => q4 k (fun e => hne (by rw [e]))⟩

/-- The bytes of a text, as a row of one's own. -/
theorem stepsbo (ha : Has n l a) (HW : Wd w0 W bs os) (d t1 t2 e : Nat) (x : Operand) (s : ByteArray) (ho : o.op = .convert t1 t2 x) (hx : ev l x = .string s)
    (h1 : P.underlying t1 = some .string) (h2 : P.underlying t2 = some (.slice e)) (h3 : P.underlying e = some (.int .u8)) (hs : s.size ≤ 140737488355328) (hok : okB n l ops o d = true)
    (h : ∀ A c a' W', Wd w0 W' bs (⟨e, 1, .slice A s.size c, s.size, byteCells s⟩ :: os) → Has n ((d, .slice A s.size c) :: l) a' → wpList P ops Q rest a' W') : wpList P ops Q (o :: rest) a W := by
  have hrun := run_bytes_of_string (P := P) W t1 t2 e s h1 h2 h3
  have hge : s.size ≤ grownCap W s.size 0 e := grownCap_ge W s.size 0 e
  have hcm : grownCap W s.size 0 e ≤ maxLen := grownCap_le_maxLen W s.size 0 e (by unfold maxLen; omega)
  have hb : bytesRow s (grownCap W s.size 0 e) = (byteCells s ++ List.replicate (grownCap W s.size 0 e - s.size) (Value.int .u8 0)).toArray := by
    apply Array.ext'
    unfold bytesRow byteCells
    simp [Function.comp_def]
  have hsz : (bytesRow s (grownCap W s.size 0 e)).size = grownCap W s.size 0 e := by
    rw [hb]; simp [byteCells_length]; omega
  refine stepv (W' := W.drew.alloc (.cells (bytesRow s (grownCap W s.size 0 e)) e ((bytesRow s (grownCap W s.size 0 e)).size, (bytesRow s (grownCap W s.size 0 e)).size + 1))) ha d (.slice (some ⟨W.heap.size, 0, none⟩) s.size (grownCap W s.size 0 e)) hok ?_ fun a' ha' => ?_
  · unfold execOp
    simp only [ho, hx, Sem.run_bind, hrun, Result.andThen_ok, Sem.run_pure]
  · refine h _ _ a' _ ((HW.drew (W.drawn + 1)).newoF _ e 1 s.size _ (byteCells s) _ (fun i hi hx => by simp only at hx; omega) hge hcm (by rw [hsz, Nat.mul_one]) ?_) ha'
    rw [hb, Nat.mul_one, List.toList_toArray, ← byteCells_length s]
    exact List.take_left

theorem Rd.str {W : World} {v : Value} {s : ByteArray} (hr : Rd 1 W v s.size (byteCells s)) : Rd 1 W v (bytesI s).length (encs (encIK .u8) (bytesI s)) := by
  have : encs (encIK .u8) (bytesI s) = byteCells s := by
    unfold bytesI byteCells
    rw [encs_u8, List.map_map]
    rfl
  rw [this, bytesI_length]
  exact hr

theorem strOfNums_bytesI (s : ByteArray) : strOfNums (bytesI s) = s := by
  apply ByteArray.ext
  apply Array.ext'
  rw [strOfNums_data]
  unfold bytesI
  rw [List.map_map]
  conv => rhs; rw [← List.map_id s.data.toList]
  refine List.map_congr_left fun b _ => ?_
  simp

/-- A text out of a row of bytes. -/
theorem stepbts (ha : Has n l a) (d t1 t2 e : Nat) (x : Operand) {v : Value} {s : ByteArray} (hr : Rd 1 W v s.size (byteCells s)) (ho : o.op = .convert t1 t2 x) (hx : ev l x = v)
    (hs : P.underlying t1 = some (.slice e)) (he : P.underlying e = some (.int .u8)) (hd : P.underlying t2 = some .string) (hok : okB n l ops o d = true)
    (h : ∀ a', Has n ((d, .string s) :: l) a' → wpList P ops Q rest a' W) : wpList P ops Q (o :: rest) a W := by
  refine stepbt ha d t1 t2 e x hr.str ho hx hs he hd hok ?_
  rw [strOfNums_bytesI]
  exact h
end
end Go.Proofs.YtdcojinnjpihaaaDoor.X
