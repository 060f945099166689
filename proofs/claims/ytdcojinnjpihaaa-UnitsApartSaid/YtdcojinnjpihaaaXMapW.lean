/- Maps in a told world: what is found by a key, whatever is in them. No condition. -/
import Derived.Test.YtdcojinnjpihaaaXSeg
import Derived.MapKept
namespace Go.Proofs.Ytdcojinnjpihaaa.X
open Go Go.RowKit
set_option linter.unusedVariables false
set_option linter.unusedSimpArgs false

section
variable {κ : Type} [DecidableEq κ] {P : Program} {W : World} {kt : Nat} {enc : κ → Value}

/-- Entries told by keys and values. -/
def EntE (enc : κ → Value) (es : List MapEntry) (m : List (κ × Value)) : Prop := es.map (fun e => (e.key, e.val)) = m.map fun p => (enc p.1, p.2)

def findE {α : Type} (k : κ) : List (κ × α) → Nat → Option (Nat × α)
  | [], _ => none
  | p :: r, i => if k = p.1 then some (i, p.2) else findE k r (i + 1)

theorem findAsking_run (heq : ∀ (a b : κ) (W : World), (Op.equal kt (enc a) (enc b)).run P W = .ok (decide (a = b)) W) (k : κ) : ∀ (m : List (κ × Value)) (es : List MapEntry) (i : Nat), EntE enc es m → (Instr.findAsking kt (enc k) es i).run P W = .ok (findE k m i) W
  | [], es, i, h => by
    have : es = [] := by unfold EntE at h; simpa using h
    subst this
    simp [Instr.findAsking, findE]
  | p :: r, [], i, h => by unfold EntE at h; simp at h
  | p :: r, e :: es, i, h => by
    unfold EntE at h
    simp only [List.map_cons, List.cons.injEq, Prod.mk.injEq] at h
    obtain ⟨⟨h1, h2⟩, h3⟩ := h
    simp only [Instr.findAsking, Sem.run_bind, h1, heq, Result.andThen_ok, findE]
    by_cases hk : k = p.1
    · simp [hk, h2]
    · simp only [hk, decide_false, if_false]
      exact findAsking_run heq k r es (i + 1) h3

theorem findKey_run {kd : TypeDesc} (hu : P.underlying kt = some kd) (hkd : match kd with | .struct _ => True | _ => False) (heq : ∀ (a b : κ) (W : World), (Op.equal kt (enc a) (enc b)).run P W = .ok (decide (a = b)) W) (k : κ) (m : List (κ × Value)) (es : List MapEntry) (h : EntE enc es m) :
    (Instr.findKey kt (enc k) es).run P W = .ok (findE k m 0) W := by
  unfold Instr.findKey
  rw [Sem.run_bind, run_underlying hu]
  simp only [Result.andThen_ok]
  cases es with
  | nil =>
    have : m = [] := by unfold EntE at h; simpa using h.symm
    subst this
    simp [Instr.findNow, findE]
  | cons e es =>
    have : Instr.findNow kd (enc k) (e :: es) 0 = none := by
      cases kd <;> first | exact hkd.elim | simp [Instr.findNow, Instr.sameNow]
    rw [this]
    exact findAsking_run heq k m (e :: es) 0 h

/-- What a map's value is: no map (nothing in it), or a told block's entries. -/
def MapAt (W : World) (enc : κ → Value) (x : Value) (m : List (κ × Value)) : Prop :=
  (x = .map none ∧ m = []) ∨ ∃ b es cl, x = .map (some b) ∧ W.heap[b]? = some (.map es cl) ∧ EntE enc es.toList m

theorem lookup_run {t et : Nat} {kd : TypeDesc} {x : Value} {m : List (κ × Value)} {z : Value} (ht : P.underlying t = some (.map kt et)) (hu : P.underlying kt = some kd) (hkd : match kd with | .struct _ => True | _ => False)
    (heq : ∀ (a b : κ) (W : World), (Op.equal kt (enc a) (enc b)).run P W = .ok (decide (a = b)) W) (k : κ) (hck : ∀ em : Bool, (Instr.checkKey em 10000 kt (enc k)).run P W = .ok () W) (hz : (zeroValue et).run P W = .ok z W) (hx : MapAt W enc x m) :
    (Instr.lookup t x (enc k) false).run P W = .ok (((findE k m 0).map (·.2)).getD z) W := by
  rcases hx with ⟨rfl, rfl⟩ | ⟨b, es, cl, rfl, hb, he⟩
  · have h1 := findKey_run (P := P) (W := W) hu hkd heq k [] [] rfl
    have h2 := hck true
    simp [Instr.lookup, run_underlying ht, h1, h2, hz, findE]
  · have h1 := findKey_run (P := P) (W := W) hu hkd heq k m es.toList he
    have hg := Go.MapKept.run_getObj_map (P := P) hb
    have h2 := hck es.isEmpty
    cases hf : findE k m 0 with
    | none =>
      rw [hf] at h1
      simp [Instr.lookup, run_underlying ht, hg, h1, h2, hz]
    | some q =>
      rw [hf] at h1
      obtain ⟨j, v⟩ := q
      simp [Instr.lookup, run_underlying ht, hg, h1, h2]

theorem steplk {n : Nat} {l : List (Nat × Value)} {a : Act} {ops : Array Oper} {o : Oper} {rest : List Oper} {Q : Exit → Act → World → Prop} (ha : Has n l a) (d t et : Nat) {kd : TypeDesc} (X K : Operand) {x : Value} {m : List (κ × Value)} {z : Value} (k : κ) (ho : o.op = .lookup t X K false) (hX : ev l X = x) (hK : ev l K = enc k)
    (ht : P.underlying t = some (.map kt et)) (hu : P.underlying kt = some kd) (hkd : match kd with | .struct _ => True | _ => False) (heq : ∀ (a b : κ) (W : World), (Op.equal kt (enc a) (enc b)).run P W = .ok (decide (a = b)) W) (hck : ∀ em : Bool, (Instr.checkKey em 10000 kt (enc k)).run P W = .ok () W)
    (hz : (zeroValue et).run P W = .ok z W) (hx : MapAt W enc x m) (hok : okB n l ops o d = true) (h : ∀ a', Has n ((d, ((findE k m 0).map (·.2)).getD z) :: l) a' → wpList P ops Q rest a' W) : wpList P ops Q (o :: rest) a W := by
  refine stepv (W' := W) ha d _ hok ?_ h
  unfold execOp
  simp only [ho, hX, hK, Sem.run_bind, lookup_run ht hu hkd heq k hck hz hx, Result.andThen_ok, Sem.run_pure]

def putE {α : Type} (k : κ) (v : α) (m : List (κ × α)) : List (κ × α) := match findE k m 0 with
  | some (i, _) => m.set i (k, v)
  | none => m ++ [(k, v)]

theorem findE_get {α : Type} (k : κ) : ∀ (m : List (κ × α)) (i j : Nat) (v : α), findE k m i = some (j, v) → i ≤ j ∧ m[j - i]? = some (k, v)
  | [], i, j, v, h => by cases h
  | p :: r, i, j, v, h => by
    unfold findE at h
    split at h
    · rename_i hk
      simp only [Option.some.injEq, Prod.mk.injEq] at h
      obtain ⟨rfl, rfl⟩ := h
      refine ⟨Nat.le_refl _, ?_⟩
      rw [Nat.sub_self, hk]
      rfl
    · obtain ⟨h1, h2⟩ := findE_get k r (i + 1) j v h
      refine ⟨by omega, ?_⟩
      rw [show j - i = (j - (i + 1)) + 1 by omega]
      exact h2

theorem update_run {t et b : Nat} {kd : TypeDesc} {es : Array MapEntry} {cl : Nat} {m : List (κ × Value)} (ht : P.underlying t = some (.map kt et)) (hu : P.underlying kt = some kd) (hkd : match kd with | .struct _ => True | _ => False)
    (heq : ∀ (a b : κ) (W : World), (Op.equal kt (enc a) (enc b)).run P W = .ok (decide (a = b)) W) (k : κ) (v : Value) (hck : (Instr.checkKey false 10000 kt (enc k)).run P W = .ok () W) (hsb : Instr.sameBits 10000 (enc k) (enc k) = true) (hb : W.heap[b]? = some (.map es cl)) (he : EntE enc es.toList m) :
    ∃ es' cl', (Instr.mapUpdate t (.map (some b)) (enc k) v).run P W = .ok () { W with heap := W.heap.setIfInBounds b (.map es' cl') } ∧ EntE enc es'.toList (putE k v m) := by
  have h1 := findKey_run (P := P) (W := W) hu hkd heq k m es.toList he
  have hget := Go.MapKept.run_getObj_map (P := P) hb
  have hset := fun o => Go.MapKept.run_setObj_map (P := P) o hb
  unfold putE
  cases hf : findE k m 0 with
  | none =>
    rw [hf] at h1
    refine ⟨es.push { key := enc k, val := v, born := cl }, cl + 1, ?_, ?_⟩
    · simp [Instr.mapUpdate, run_underlying ht, hget, hck, h1, hset, Result.andThen]
    · unfold EntE at he ⊢
      simp [he]
  | some q =>
    rw [hf] at h1
    obtain ⟨i, u⟩ := q
    obtain ⟨_, g⟩ := findE_get k m 0 i u hf
    rw [Nat.sub_zero] at g
    have hkey : ∃ e, es[i]? = some e ∧ e.key = enc k := by
      have h2 := congrArg (fun l => l[i]?) he
      simp only [List.getElem?_map, g, Option.map_some, Array.getElem?_toList] at h2
      cases hi : es[i]? with
      | none => simp [hi] at h2
      | some e =>
        simp only [hi, Option.map_some, Option.some.injEq, Prod.mk.injEq] at h2
        exact ⟨e, rfl, h2.1⟩
    obtain ⟨e, hi, hke⟩ := hkey
    refine ⟨es.modify i fun e => { e with key := enc k, val := v }, cl, ?_, ?_⟩
    · simp [Instr.mapUpdate, run_underlying ht, hget, hck, h1, hset, Result.andThen, Instr.keyThatStays, hi, hke, hsb]
    · unfold EntE at he ⊢
      apply List.ext_getElem?
      intro j
      have h2 := congrArg (fun l => l[j]?) he
      simp only [List.getElem?_map, Array.getElem?_toList, Array.getElem?_modify, List.getElem?_set] at h2 ⊢
      by_cases hij : i = j
      · subst hij
        have hl : i < m.length := (List.getElem?_eq_some_iff.1 g).1
        simp [hi, hl]
      · simp [hij, h2]

def delE {α : Type} (k : κ) (m : List (κ × α)) : List (κ × α) := match findE k m 0 with
  | some (i, _) => m.eraseIdx i
  | none => m

theorem eraseIdx_map {α β : Type} (f : α → β) : ∀ (l : List α) (i : Nat), (l.eraseIdx i).map f = (l.map f).eraseIdx i
  | [], _ => by simp
  | x :: r, 0 => by simp
  | x :: r, i + 1 => by simp [eraseIdx_map f r i]

theorem delete_run {t kt2 ty et b : Nat} {kd : TypeDesc} {es : Array MapEntry} {cl : Nat} {m : List (κ × Value)} (ht : P.underlying t = some (.map kt et)) (hu : P.underlying kt = some kd) (hkd : match kd with | .struct _ => True | _ => False)
    (heq : ∀ (a b : κ) (W : World), (Op.equal kt (enc a) (enc b)).run P W = .ok (decide (a = b)) W) (k : κ) (hck : ∀ em : Bool, (Instr.checkKey em 10000 kt (enc k)).run P W = .ok () W) (hb : W.heap[b]? = some (.map es cl)) (he : EntE enc es.toList m) :
    ∃ es' cl', (Builtin.delete_ #[t, kt2] ty #[.map (some b), enc k]).run P W = .ok (.tuple #[]) { W with heap := W.heap.setIfInBounds b (.map es' cl') } ∧ EntE enc es'.toList (delE k m) := by
  have h1 := findKey_run (P := P) (W := W) hu hkd heq k m es.toList he
  have hget := Go.MapKept.run_getObj_map (P := P) hb
  have hset := fun o => Go.MapKept.run_setObj_map (P := P) o hb
  have h2 := hck es.isEmpty
  unfold delE
  cases hf : findE k m 0 with
  | none =>
    rw [hf] at h1
    have hself : W.heap.setIfInBounds b (.map es cl) = W.heap := by
      apply Array.ext_getElem?
      intro j
      rw [Array.getElem?_setIfInBounds]
      split
      · rename_i hj
        subst hj
        rw [hb]
        simp [wlt hb]
      · rfl
    refine ⟨es, cl, ?_, he⟩
    simp [Builtin.delete_, run_underlying ht, hget, h2, h1, hset, Result.andThen, hself]
  | some q =>
    rw [hf] at h1
    obtain ⟨i, u⟩ := q
    refine ⟨es.eraseIdxIfInBounds i, cl, ?_, ?_⟩
    · simp [Builtin.delete_, run_underlying ht, hget, h2, h1, hset, Result.andThen]
    · unfold EntE at he ⊢
      rw [eraseIdx_map, ← he, ← eraseIdx_map]
      congr 1
      unfold Array.eraseIdxIfInBounds
      split
      · simp
      · rename_i hlt
        rw [List.eraseIdx_of_length_le (by rw [Array.length_toList]; omega)]

end
theorem delete_nil {κ : Type} {P : Program} {W : World} {kt : Nat} {enc : κ → Value} {t kt2 ty et : Nat} (ht : P.underlying t = some (.map kt et)) (k : κ) (hck : (Instr.checkKey true 10000 kt (enc k)).run P W = .ok () W) :
    (Builtin.delete_ #[t, kt2] ty #[.map none, enc k]).run P W = .ok (.tuple #[]) W := by
  simp [Builtin.delete_, run_underlying ht, hck, Result.andThen]

section
variable {κ : Type} [DecidableEq κ] {P : Program} {W : World} {kt : Nat} {enc : κ → Value}
theorem Wd.putMap {w0 : World} {bs : List (Nat × Obj)} {os : List OwnA} (HW : Wd w0 W bs os) {i b : Nat} {o : Obj} (hi : bs[i]? = some (b, o)) (o' : Obj) : Wd w0 { W with heap := W.heap.setIfInBounds b o' } (bs.set i (b, o')) os := by
  have hb := (HW.blk i _ hi).2
  refine HW.turnb hi ?_ ⟨rfl, rfl, rfl, by simp, fun k _ hk => ?_⟩
  · show (W.heap.setIfInBounds b o')[b]? = some o'
    rw [Array.getElem?_setIfInBounds, if_pos rfl, if_pos (wlt hb)]
  · show (W.heap.setIfInBounds b o')[k]? = W.heap[k]?
    rw [Array.getElem?_setIfInBounds, if_neg (fun e => hk (by rw [e]))]

theorem stepmu {n : Nat} {l : List (Nat × Value)} {a : Act} {ops : Array Oper} {o : Oper} {rest : List Oper} {Q : Exit → Act → World → Prop} {w0 : World} {bs : List (Nat × Obj)} {os : List OwnA} (ha : Has n l a) (HW : Wd w0 W bs os) (i : Nat) {b : Nat} {es : Array MapEntry} {cl : Nat} (hi : bs[i]? = some (b, .map es cl))
    (t et : Nat) {kd : TypeDesc} (X K V : Operand) {m : List (κ × Value)} (k : κ) (v : Value) (ho : o.op = .mapUpdate t X K V) (hX : ev l X = .map (some b)) (hK : ev l K = enc k) (hV : ev l V = v)
    (ht : P.underlying t = some (.map kt et)) (hu : P.underlying kt = some kd) (hkd : match kd with | .struct _ => True | _ => False) (heq : ∀ (a b : κ) (W : World), (Op.equal kt (enc a) (enc b)).run P W = .ok (decide (a = b)) W)
    (hck : (Instr.checkKey false 10000 kt (enc k)).run P W = .ok () W) (hsb : Instr.sameBits 10000 (enc k) (enc k) = true) (he : EntE enc es.toList m) (hok : okS l ops o = true)
    (h : ∀ es' cl' a' W', EntE enc es'.toList (putE k v m) → Wd w0 W' (bs.set i (b, .map es' cl')) os → Has n l a' → wpList P ops Q rest a' W') : wpList P ops Q (o :: rest) a W := by
  obtain ⟨es', cl', hr, he'⟩ := update_run (P := P) ht hu hkd heq k v hck hsb (HW.blk i _ hi).2 he
  refine steps (W' := _) ha hok ?_ fun a' ha' => h es' cl' a' _ he' (HW.putMap hi _) ha'
  unfold execOp
  simp only [ho, hX, hK, hV, Sem.run_bind, hr, Result.andThen_ok, Sem.run_pure]

theorem stepde {n : Nat} {l : List (Nat × Value)} {a : Act} {ops : Array Oper} {o : Oper} {rest : List Oper} {Q : Exit → Act → World → Prop} {w0 : World} {bs : List (Nat × Obj)} {os : List OwnA} (ha : Has n l a) (HW : Wd w0 W bs os) (d i : Nat) {b : Nat} {es : Array MapEntry} {cl : Nat} (hi : bs[i]? = some (b, .map es cl))
    (t kt2 et : Nat) {kd : TypeDesc} (X K : Operand) {m : List (κ × Value)} (k : κ) (ho : o.op = .call { callee := .builtin .delete, args := #[X, K], argTypes := #[t, kt2] }) (hX : ev l X = .map (some b)) (hK : ev l K = enc k)
    (ht : P.underlying t = some (.map kt et)) (hu : P.underlying kt = some kd) (hkd : match kd with | .struct _ => True | _ => False) (heq : ∀ (a b : κ) (W : World), (Op.equal kt (enc a) (enc b)).run P W = .ok (decide (a = b)) W)
    (hck : ∀ em : Bool, (Instr.checkKey em 10000 kt (enc k)).run P W = .ok () W) (he : EntE enc es.toList m) (hok : okB n l ops o d = true)
    (h : ∀ es' cl' a' W', EntE enc es'.toList (delE k m) → Wd w0 W' (bs.set i (b, .map es' cl')) os → Has n ((d, .tuple #[]) :: l) a' → wpList P ops Q rest a' W') : wpList P ops Q (o :: rest) a W := by
  obtain ⟨es', cl', hr, he'⟩ := delete_run (P := P) (ty := o.type) (kt2 := kt2) ht hu hkd heq k hck (HW.blk i _ hi).2 he
  refine stepv (W' := _) ha d _ hok ?_ fun a' ha' => h es' cl' a' _ he' (HW.putMap hi _) ha'
  unfold execOp
  simp only [ho, resolve, invoke, builtin, Sem.run_bind, Sem.run_pure, Result.andThen_ok, List.map_toArray, List.map_cons, List.map_nil, hX, hK, hr]
end
end Go.Proofs.Ytdcojinnjpihaaa.X
