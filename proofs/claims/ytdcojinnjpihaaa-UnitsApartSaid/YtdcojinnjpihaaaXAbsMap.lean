/- Maps, in the plain run. No condition. -/
import Derived.Test.YtdcojinnjpihaaaXAbsOp3
import Derived.MapKept
namespace Go.Proofs.Ytdcojinnjpihaaa.X
open Go Go.RowKit

theorem quiet_bind {α β : Type} {P : Program} (m : Sem α) (f : α → Sem β) : quiet P (m >>= f) = (quiet P m).bind fun a => quiet P (f a) := by
  induction m with
  | pure a => rfl
  | program k ih => exact ih P
  | _ => rfl

/-- The entries of a map. -/
def amap (G : Nat → Option AObj) : Value → Option (List MapEntry)
  | .map none => some []
  | .map (some k) => match G k with
    | some (.map es _) => some es
    | _ => none
  | _ => none

def packL (ok : Bool) (v : Value) (b : Bool) : Value := match ok with
  | true => .tuple #[v, .bool b]
  | false => v

/-- Where a key stands: its place and value. -/
def afind (P : Program) (em : Bool) (kt : Nat) (k : Value) (es : List MapEntry) : Option (Option (Nat × Value)) := match flat2 k with
  | false => none
  | true => match quiet P (Instr.checkKey em 10000 kt k) with
    | none => none
    | some _ => quiet P (Instr.findKey kt k es)

def alookup (P : Program) (G : Nat → Option AObj) (t : Nat) (x k : Value) (ok : Bool) : Option Value := match P.underlying t with
  | some (.map kt et) => match amap G x with
    | none => none
    | some es => match afind P es.isEmpty kt k es with
      | none => none
      | some (some (_, v)) => some (packL ok v true)
      | some none => match quiet P (zeroValue et) with
        | none => none
        | some z => match flat2 z with
          | true => some (packL ok z false)
          | false => none
  | _ => none

def aupdate (P : Program) (G : Nat → Option AObj) (t : Nat) (m k v : Value) : Option ARes := match P.underlying t with
  | some (.map kt _) => match m with
    | .map (some r) => match G r with
      | some (.map es cl) => match afind P false kt k es with
        | none => none
        | some none => some (.mapPut r (es ++ [{ key := k, val := v, born := cl }]) (cl + 1) false)
        | some (some (i, _)) => match es[i]? with
          | none => none
          | some e => match Instr.sameBits 10000 e.key k with
            | false => none
            | true => some (.mapPut r (es.set i { e with key := k, val := v }) cl false)
      | _ => none
    | _ => none
  | _ => none

def adelete (P : Program) (G : Nat → Option AObj) (t : Nat) (m k : Value) : Option ARes := match P.underlying t with
  | some (.map kt _) => match m with
    | .map (some r) => match G r with
      | some (.map es cl) => match afind P es.isEmpty kt k es with
        | none => none
        | some none => some (.mapPut r es cl true)
        | some (some (i, _)) => some (.mapPut r (es.eraseIdx i) cl true)
      | _ => none
    | .map none => match flat2 k with
      | false => none
      | true => match quiet P (Instr.checkKey true 10000 kt k) with
        | none => none
        | some _ => some (.val (.tuple #[]))
    | _ => none
  | _ => none

section
variable {P : Program} {w0 W : World} {μ : Nat → Option Loc} {G : Nat → Option AObj}

theorem findNow_alike {d : TypeDesc} {k : Value} : ∀ {es es' : List MapEntry}, ER μ es es' → ∀ i : Nat,
    (Instr.findNow d k es i = none ∧ Instr.findNow d k es' i = none) ∨ (Instr.findNow d k es i = some none ∧ Instr.findNow d k es' i = some none) ∨
    ∃ j e e', Instr.findNow d k es i = some (some (i + j, e.val)) ∧ Instr.findNow d k es' i = some (some (i + j, e'.val)) ∧ VR μ e.val e'.val ∧ es[j]? = some e ∧ es'[j]? = some e' := by
  intro es
  induction es with
  | nil => intro es' h i; rw [h.inv_nil]; exact .inr (.inl ⟨rfl, rfl⟩)
  | cons x r ih =>
    intro es' h i
    obtain ⟨y, ys, rfl, h1, h2, h3, h4⟩ := h.inv_cons
    simp only [Instr.findNow, h1]
    cases hs : Instr.sameNow d k x.key with
    | none => exact .inl ⟨rfl, rfl⟩
    | some b => cases b with
      | true => exact .inr (.inr ⟨0, x, y, rfl, rfl, h3, rfl, rfl⟩)
      | false =>
        rcases ih h4 (i + 1) with h5 | h5 | ⟨j, e, e', g1, g2, g3, g4, g5⟩
        · exact .inl h5
        · exact .inr (.inl h5)
        · exact .inr (.inr ⟨j + 1, e, e', by simp only [g1]; congr 3; omega, by simp only [g2]; congr 3; omega, g3, by simpa using g4, by simpa using g5⟩)

theorem findAsking_alike {kt : Nat} {k : Value} : ∀ {es es' : List MapEntry}, ER μ es es' → ∀ (i : Nat) (r : Option (Nat × Value)), quiet P (Instr.findAsking kt k es i) = some r →
    (r = none ∧ quiet P (Instr.findAsking kt k es' i) = some none) ∨
    ∃ j e e', r = some (i + j, e.val) ∧ quiet P (Instr.findAsking kt k es' i) = some (some (i + j, e'.val)) ∧ VR μ e.val e'.val ∧ es[j]? = some e ∧ es'[j]? = some e' := by
  intro es
  induction es with
  | nil =>
    intro es' h i r hr
    rw [h.inv_nil]
    simp only [Instr.findAsking, quiet, Pure.pure] at hr
    have : r = none := by
      have := Option.some.inj hr
      exact this.symm
    exact .inl ⟨this, rfl⟩
  | cons x t ih =>
    intro es' h i r hr
    obtain ⟨y, ys, rfl, h1, h2, h3, h4⟩ := h.inv_cons
    simp only [Instr.findAsking, quiet_bind, h1] at hr ⊢
    cases hq : quiet P (Op.equal kt k x.key) with
    | none => rw [hq] at hr; cases hr
    | some b =>
      rw [hq] at hr
      simp only [Option.bind_some] at hr ⊢
      cases b with
      | true =>
        simp only [if_true] at hr ⊢
        have : r = some (i, x.val) := (Option.some.inj hr).symm
        exact .inr ⟨0, x, y, this, rfl, h3, rfl, rfl⟩
      | false =>
        simp only [Bool.false_eq_true, if_false] at hr ⊢
        rcases ih h4 (i + 1) r hr with h5 | ⟨j, e, e', g1, g2, g3, g4, g5⟩
        · exact .inl h5
        · exact .inr ⟨j + 1, e, e', by rw [g1]; congr 2; omega, by rw [g2]; congr 3; omega, g3, by simpa using g4, by simpa using g5⟩

theorem findKey_alike {kt : Nat} {k : Value} {es es' : List MapEntry} (h : ER μ es es') {r : Option (Nat × Value)} (hr : quiet P (Instr.findKey kt k es) = some r) :
    (r = none ∧ quiet P (Instr.findKey kt k es') = some none) ∨
    ∃ j e e', r = some (j, e.val) ∧ quiet P (Instr.findKey kt k es') = some (some (j, e'.val)) ∧ VR μ e.val e'.val ∧ es[j]? = some e ∧ es'[j]? = some e' := by
  simp only [Instr.findKey, quiet_bind] at hr ⊢
  cases hq : quiet P (underlying kt) with
  | none => rw [hq] at hr; cases hr
  | some d =>
    rw [hq] at hr
    simp only [Option.bind_some] at hr ⊢
    rcases findNow_alike (d := d) (k := k) h 0 with ⟨h1, h2⟩ | ⟨h1, h2⟩ | ⟨j, e, e', h1, h2, h3, h4, h5⟩
    · rw [h1] at hr
      rw [h2]
      rcases findAsking_alike h 0 r hr with h6 | ⟨j, e, e', g1, g2, g3, g4, g5⟩
      · exact .inl h6
      · exact .inr ⟨j, e, e', by simpa using g1, by simpa using g2, g3, g4, g5⟩
    · rw [h1] at hr
      rw [h2]
      exact .inl ⟨(Option.some.inj hr).symm, rfl⟩
    · rw [h1] at hr
      rw [h2]
      refine .inr ⟨j, e, e', ?_, ?_, h3, h4, h5⟩
      · have := (Option.some.inj hr).symm
        simpa using this
      · simp only [Nat.zero_add]; rfl

theorem ER.isEmpty {es : List MapEntry} {es' : Array MapEntry} (h : ER μ es es'.toList) : es'.isEmpty = es.isEmpty := by
  have : es.length = es'.size := h.1
  cases es with
  | nil => rw [Array.eq_empty_of_size_eq_zero this.symm]; rfl
  | cons x r =>
    have h2 : es'.size ≠ 0 := by rw [← this]; simp
    simp only [Array.isEmpty, List.isEmpty_cons, decide_eq_false_iff_not]
    exact h2

theorem afind_ok {em : Bool} {kt : Nat} {k k' : Value} {es : List MapEntry} {es' : Array MapEntry} {r : Option (Nat × Value)} (h : afind P em kt k es = some r) (hk : VR μ k k') (he : ER μ es es'.toList) :
    k' = k ∧ (∀ W, (Instr.checkKey em 10000 kt k).run P W = .ok () W) ∧
    ((r = none ∧ ∀ W, (Instr.findKey kt k es'.toList).run P W = .ok none W) ∨
      ∃ j e e', r = some (j, e.val) ∧ (∀ W, (Instr.findKey kt k es'.toList).run P W = .ok (some (j, e'.val)) W) ∧ VR μ e.val e'.val ∧ es[j]? = some e ∧ es'.toList[j]? = some e') := by
  unfold afind at h
  split at h
  · cases h
  · rename_i hf
    split at h
    · cases h
    · rename_i u hc
      refine ⟨flat2_eq hf hk, fun W => quiet_run hc W, ?_⟩
      rcases findKey_alike he h with ⟨h1, h2⟩ | ⟨j, e, e', h1, h2, h3, h4, h5⟩
      · exact .inl ⟨h1, fun W => quiet_run h2 W⟩
      · exact .inr ⟨j, e, e', h1, fun W => quiet_run h2 W, h3, h4, h5⟩

theorem packL_ok {v v' : Value} (h : VR μ v v') (ok b : Bool) : VR μ (packL ok v b) (packL ok v' b) := by
  cases ok with
  | false => exact h
  | true =>
    refine .tuple rfl fun i x y hx hy => ?_
    match i with
    | 0 => simp at hx hy; subst hx; subst hy; exact h
    | 1 => simp at hx hy; subst hx; subst hy; exact .bool b
    | i + 2 => simp at hx

theorem HR.map_at (h : HR P w0 μ G W) {k : Nat} {es : List MapEntry} {cl : Nat} (hk : G k = some (.map es cl)) {y : Value} (hy : VR μ (.map (some k)) y) :
    ∃ l es', μ k = some l ∧ y = .map (some l.b) ∧ W.heap[l.b]? = some (.map es' cl) ∧ ER μ es es'.toList := by
  obtain ⟨l, es', h1, h2, h3, h4⟩ := h.mp k es cl hk
  cases hy with
  | map hm => rw [hm] at h1; cases h1; exact ⟨_, es', hm, rfl, h3, h4⟩

theorem alookup_ok {t : Nat} {x k x' k' v : Value} {ok : Bool} (h : alookup P G t x k ok = some v) (hx : VR μ x x') (hk : VR μ k k') (hw : HR P w0 μ G W) :
    ∃ v', (Instr.lookup t x' k' ok).run P W = .ok v' W ∧ VR μ v v' := by
  unfold alookup at h
  split at h
  · rename_i kt et hu
    split at h
    · cases h
    · rename_i es hes
      -- the entries on both sides
      have hent : ∃ es' : Array MapEntry, ER μ es es'.toList ∧ ((x' = .map none ∧ es' = #[]) ∨ ∃ b cl, x' = .map (some b) ∧ W.heap[b]? = some (.map es' cl)) := by
        unfold amap at hes
        split at hes
        · cases hes
          refine ⟨#[], .nil, .inl ⟨?_, rfl⟩⟩
          cases hx; rfl
        · split at hes
          · rename_i j es0 cl hg
            cases hes
            obtain ⟨l, es', h1, h2, h3, h4⟩ := hw.map_at hg hx
            exact ⟨es', h4, .inr ⟨l.b, cl, h2, h3⟩⟩
          · cases hes
        · cases hes
      obtain ⟨es', he, hx'⟩ := hent
      have hget : ∀ r v', (Instr.findKey kt k es'.toList).run P W = .ok r W → (∀ z, r = none → (zeroValue et).run P W = .ok z W → v' = packL ok z false) → (r = none → ∃ z, (zeroValue et).run P W = .ok z W) → (∀ i u, r = some (i, u) → v' = packL ok u true) →
          (Instr.checkKey es.isEmpty 10000 kt k).run P W = .ok () W → (Instr.lookup t x' k ok).run P W = .ok v' W := by
        intro r v' h1 h2 h2' h3 h4
        have hem := he.isEmpty
        rw [← hem] at h4
        rcases hx' with ⟨rfl, rfl⟩ | ⟨b, cl, rfl, hb⟩
        · cases r with
          | none =>
            obtain ⟨z, hz⟩ := h2' rfl
            rw [h2 z rfl hz]
            cases ok <;> simp_all [Instr.lookup, run_underlying hu, Result.andThen, packL]
          | some q =>
            obtain ⟨i, u⟩ := q
            rw [h3 i u rfl]
            cases ok <;> simp_all [Instr.lookup, run_underlying hu, Result.andThen, packL]
        · have hg := Go.MapKept.run_getObj_map (P := P) hb
          cases r with
          | none =>
            obtain ⟨z, hz⟩ := h2' rfl
            rw [h2 z rfl hz]
            cases ok <;> simp [Instr.lookup, run_underlying hu, hg, h4, h1, hz, Result.andThen, packL]
          | some q =>
            obtain ⟨i, u⟩ := q
            rw [h3 i u rfl]
            cases ok <;> simp [Instr.lookup, run_underlying hu, hg, h4, h1, Result.andThen, packL]
      split at h
      · cases h
      · rename_i j v0 hf
        cases h
        obtain ⟨rfl, h1, h2⟩ := afind_ok hf hk he
        rcases h2 with ⟨h3, _⟩ | ⟨j', e, e', h3, h4, h5, _, _⟩
        · cases h3
        · cases h3
          exact ⟨packL ok e'.val true, hget _ _ (h4 W) (fun z hz => by cases hz) (fun hz => by cases hz) (fun i u hu => by cases hu; rfl) (h1 W), packL_ok h5 _ _⟩
      · rename_i hf
        obtain ⟨rfl, h1, h2⟩ := afind_ok hf hk he
        rcases h2 with ⟨_, h4⟩ | ⟨j', e, e', h3, _⟩
        · split at h
          · cases h
          · rename_i z hz
            split at h
            · rename_i hzf
              cases h
              have hzr := quiet_run hz W
              exact ⟨packL ok z false, hget _ _ (h4 W) (fun z' _ hz' => by rw [hzr] at hz'; cases hz'; rfl) (fun _ => ⟨z, hzr⟩) (fun i u hu => by cases hu) (h1 W), packL_ok (flat2_rel hzf) _ _⟩
            · cases h
        · cases h3
  · cases h

theorem ER.set {es : List MapEntry} {es' : Array MapEntry} (h : ER μ es es'.toList) {i : Nat} {e : MapEntry} (he : es[i]? = some e) (k : Value) {v v' : Value} (hv : VR μ v v') :
    ER μ (es.set i { e with key := k, val := v }) (es'.modify i fun e => { e with key := k, val := v' }).toList := by
  have hl : es.length = es'.size := h.1
  refine ⟨by simp [h.1], fun j x y hx hy => ?_⟩
  rw [Array.getElem?_toList, Array.getElem?_modify] at hy
  rw [List.getElem?_set] at hx
  by_cases hij : i = j
  · subst hij
    rw [if_pos rfl] at hx hy
    have hi : i < es.length := (List.getElem?_eq_some_iff.1 he).1
    rw [if_pos hi] at hx
    cases hx
    cases hy' : es'[i]? with
    | none => rw [hy'] at hy; cases hy
    | some e' =>
      rw [hy'] at hy
      cases hy
      obtain ⟨_, h2, _⟩ := h.2 i e e' he (by rw [Array.getElem?_toList]; exact hy')
      exact ⟨rfl, h2, hv⟩
  · rw [if_neg hij] at hx hy
    exact h.2 j x y hx (by rw [Array.getElem?_toList]; exact hy)

theorem ER.push {es : List MapEntry} {es' : Array MapEntry} (h : ER μ es es'.toList) (k : Value) (n : Nat) {v v' : Value} (hv : VR μ v v') :
    ER μ (es ++ [{ key := k, val := v, born := n }]) (es'.push { key := k, val := v', born := n }).toList := by
  have hl : es.length = es'.size := h.1
  refine ⟨by simp [h.1], fun j x y hx hy => ?_⟩
  rw [Array.toList_push] at hy
  rw [List.getElem?_append] at hx hy
  by_cases hj : j < es.length
  · rw [if_pos hj] at hx
    rw [if_pos (by simpa [← hl] using hj)] at hy
    exact h.2 j x y hx hy
  · rw [if_neg hj] at hx
    rw [if_neg (by simpa [← hl] using hj)] at hy
    have e1 : es'.toList.length = es.length := by simp [hl]
    rw [e1] at hy
    cases hd : j - es.length with
    | zero => rw [hd] at hx hy; simp at hx hy; subst hx; subst hy; exact ⟨rfl, rfl, hv⟩
    | succ q => rw [hd] at hx; simp at hx

theorem ER.erase {es : List MapEntry} {es' : Array MapEntry} (h : ER μ es es'.toList) (i : Nat) : ER μ (es.eraseIdx i) (es'.eraseIdxIfInBounds i).toList := by
  have e1 : (es'.eraseIdxIfInBounds i).toList = es'.toList.eraseIdx i := by
    unfold Array.eraseIdxIfInBounds
    split
    · simp
    · rename_i hb
      rw [List.eraseIdx_of_length_le (by simpa using hb)]
  rw [e1]
  refine ⟨by simp only [List.length_eraseIdx, h.1], fun j x y hx hy => ?_⟩
  rw [List.getElem?_eraseIdx] at hx hy
  by_cases hj : j < i
  · rw [if_pos hj] at hx hy; exact h.2 j x y hx hy
  · rw [if_neg hj] at hx hy; exact h.2 (j + 1) x y hx hy

theorem aupdate_ok {t : Nat} {m k v m' k' v' : Value} {r : ARes} (h : aupdate P G t m k v = some r) (hm : VR μ m m') (hk : VR μ k k') (hv : VR μ v v') (hw : HR P w0 μ G W) :
    AOk P w0 μ G W ((do Instr.mapUpdate t m' k' v'; pure .skip : Sem Next).run P W) r := by
  unfold aupdate at h
  split at h
  · rename_i kt et hu
    split at h
    · split at h
      · rename_i b es cl hg
        obtain ⟨l, es', h1, rfl, h3, h4⟩ := hw.map_at hg hm
        have hget := Go.MapKept.run_getObj_map (P := P) h3
        have hset := fun o => Go.MapKept.run_setObj_map (P := P) o h3
        split at h
        · cases h
        · rename_i hf
          cases h
          obtain ⟨rfl, g1, g2⟩ := afind_ok hf hk h4
          rcases g2 with ⟨_, g4⟩ | ⟨j', e, e', g3, _⟩
          · refine ⟨_, ?_, hw.putMap hg h1 (h4.push k' cl hv)⟩
            simp [Instr.mapUpdate, run_underlying hu, hget, g1 W, g4 W, hset, Result.andThen]
          · cases g3
        · rename_i i u hf
          obtain ⟨rfl, g1, g2⟩ := afind_ok hf hk h4
          rcases g2 with ⟨g3, _⟩ | ⟨j', e, e', g3, g4, g5, g6, g7⟩
          · cases g3
          · cases g3
            rw [g6] at h
            simp only at h
            split at h
            · cases h
            · rename_i hs
              cases h
              have hke : e'.key = e.key := (h4.2 i e e' g6 g7).1
              have g7' : es'[i]? = some e' := by rw [← Array.getElem?_toList]; exact g7
              refine ⟨_, ?_, hw.putMap hg h1 (h4.set g6 k' hv)⟩
              simp [Instr.mapUpdate, run_underlying hu, hget, g1 W, g4 W, hset, Result.andThen, Instr.keyThatStays, g7', hke, hs]
      · cases h
    · cases h
  · cases h

theorem adelete_ok {t kt2 ty : Nat} {m k m' k' : Value} {r : ARes} (h : adelete P G t m k = some r) (hm : VR μ m m') (hk : VR μ k k') (hw : HR P w0 μ G W) :
    AOk P w0 μ G W ((do pure (.value (← Builtin.delete_ #[t, kt2] ty #[m', k'])) : Sem Next).run P W) r := by
  unfold adelete at h
  split at h
  · rename_i kt et hu
    split at h
    · split at h
      · rename_i b es cl hg
        obtain ⟨l, es', h1, rfl, h3, h4⟩ := hw.map_at hg hm
        have hget := Go.MapKept.run_getObj_map (P := P) h3
        have hset := fun o => Go.MapKept.run_setObj_map (P := P) o h3
        have hem := h4.isEmpty
        split at h
        · cases h
        · rename_i hf
          cases h
          obtain ⟨rfl, g1, g2⟩ := afind_ok hf hk h4
          rw [← hem] at g1
          rcases g2 with ⟨_, g4⟩ | ⟨j', e, e', g3, _⟩
          · refine ⟨_, ?_, hw.putMap hg h1 h4⟩
            simp [Builtin.delete_, run_underlying hu, hget, g1 W, g4 W, hset, Result.andThen]
          · cases g3
        · rename_i i u hf
          cases h
          obtain ⟨rfl, g1, g2⟩ := afind_ok hf hk h4
          rw [← hem] at g1
          rcases g2 with ⟨g3, _⟩ | ⟨j', e, e', g3, g4, g5, g6, g7⟩
          · cases g3
          · cases g3
            refine ⟨_, ?_, hw.putMap hg h1 (h4.erase i)⟩
            simp [Builtin.delete_, run_underlying hu, hget, g1 W, g4 W, hset, Result.andThen]
      · cases h
    · split at h
      · cases h
      · rename_i hf
        split at h
        · cases h
        · rename_i u hc
          cases h
          have e1 := flat2_eq hf hk
          subst e1
          have e2 : m' = .map none := by cases hm; rfl
          subst e2
          refine ⟨.tuple #[], W, ?_, flat_rel rfl, hw⟩
          simp [Builtin.delete_, run_underlying hu, quiet_run hc W, Result.andThen]
    · cases h
  · cases h
end

/-! ### More memory -/
theorem amap_mono {G G' : Nat → Option AObj} (hl : ∀ k o, G k = some o → G' k = some o) {x : Value} {es : List MapEntry} (h : amap G x = some es) : amap G' x = some es := by
  unfold amap at *
  split at h
  · exact h
  · split at h
    · rename_i hk; simp only [hl _ _ hk]; exact h
    · cases h
  · cases h

theorem alookup_mono {P : Program} {G G' : Nat → Option AObj} (hl : ∀ k o, G k = some o → G' k = some o) {t : Nat} {x k v : Value} {ok : Bool} (h : alookup P G t x k ok = some v) : alookup P G' t x k ok = some v := by
  unfold alookup at *
  split at h
  · cases hm : amap G x with
    | none => rw [hm] at h; cases h
    | some es => rw [hm] at h; rw [amap_mono hl hm]; exact h
  · cases h

theorem aupdate_mono {P : Program} {G G' : Nat → Option AObj} (hl : ∀ k o, G k = some o → G' k = some o) {t : Nat} {m k v : Value} {r : ARes} (h : aupdate P G t m k v = some r) : aupdate P G' t m k v = some r := by
  unfold aupdate at *
  split at h
  · split at h
    · split at h
      · rename_i hk; simp only [hl _ _ hk]; exact h
      · cases h
    · cases h
  · cases h

theorem adelete_mono {P : Program} {G G' : Nat → Option AObj} (hl : ∀ k o, G k = some o → G' k = some o) {t : Nat} {m k : Value} {r : ARes} (h : adelete P G t m k = some r) : adelete P G' t m k = some r := by
  unfold adelete at *
  split at h
  · split at h
    · split at h
      · rename_i hk; simp only [hl _ _ hk]; exact h
      · cases h
    · exact h
    · cases h
  · cases h
end Go.Proofs.Ytdcojinnjpihaaa.X
