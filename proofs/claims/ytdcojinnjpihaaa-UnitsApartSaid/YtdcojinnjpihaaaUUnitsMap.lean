/- What the calls of package units come to. No condition. -/
import Derived.Test.YtdcojinnjpihaaaF7
import Derived.Test.YtdcojinnjpihaaaF7
import Derived.Test.YtdcojinnjpihaaaF7
import Derived.Test.YtdcojinnjpihaaaUNames
import Derived.Test.YtdcojinnjpihaaaXUnits
namespace Go.Proofs.Ytdcojinnjpihaaa.F
open Go Go.RowKit Go.Proofs.Ytdcojinnjpihaaa.X
set_option linter.unusedVariables false
set_option linter.unusedSimpArgs false

section
variable {κ α : Type} [DecidableEq κ]
def aget (k : κ) : List (κ × α) → Option α
  | [] => none
  | p :: r => if k = p.1 then some p.2 else aget k r
theorem aget_cons (k : κ) (p : κ × α) (r : List (κ × α)) : aget k (p :: r) = if k = p.1 then some p.2 else aget k r := rfl
theorem findE_up (k : κ) : ∀ (l : List (κ × α)) (i : Nat), findE k l (i + 1) = (findE k l i).map fun q => (q.1 + 1, q.2)
  | [], i => rfl
  | p :: r, i => by
    unfold findE
    by_cases h : k = p.1
    · simp [h]
    · simp only [h, if_false]
      exact findE_up k r (i + 1)
theorem findE_aget (k : κ) : ∀ (l : List (κ × α)) (i : Nat), (findE k l i).map (·.2) = aget k l
  | [], i => rfl
  | p :: r, i => by
    unfold findE aget
    by_cases h : k = p.1
    · simp [h]
    · simp only [h, if_false]
      exact findE_aget k r (i + 1)
theorem putE_nil (k : κ) (x : α) : putE k x [] = [(k, x)] := rfl
theorem putE_cons (k : κ) (x : α) (p : κ × α) (r : List (κ × α)) : putE k x (p :: r) = if k = p.1 then (k, x) :: r else p :: putE k x r := by
  unfold putE
  show (match (if k = p.1 then some (0, p.2) else findE k r (0 + 1)) with | some (i, _) => (p :: r).set i (k, x) | none => (p :: r) ++ [(k, x)]) = _
  by_cases h : k = p.1
  · simp [h]
  · simp only [h, if_false, findE_up]
    cases findE k r 0 with
    | none => rfl
    | some q => rfl
theorem delE_cons (k : κ) (p : κ × α) (r : List (κ × α)) : delE k (p :: r) = if k = p.1 then r else p :: delE k r := by
  unfold delE
  show (match (if k = p.1 then some (0, p.2) else findE k r (0 + 1)) with | some (i, _) => (p :: r).eraseIdx i | none => p :: r) = _
  by_cases h : k = p.1
  · simp [h]
  · simp only [h, if_false, findE_up]
    cases findE k r 0 with
    | none => rfl
    | some q => rfl
theorem aget_put (k k' : κ) (x : α) : ∀ l : List (κ × α), aget k' (putE k x l) = if k' = k then some x else aget k' l
  | [] => by
    rw [putE_nil]
    rfl
  | p :: r => by
    rw [putE_cons]
    by_cases h : k = p.1
    · rw [if_pos h]
      unfold aget
      by_cases h2 : k' = k
      · simp [h2]
      · have : ¬ k' = p.1 := by rw [← h]; exact h2
        simp [h2, this]
    · rw [if_neg h]
      unfold aget
      by_cases h2 : k' = p.1
      · have : ¬ k' = k := by rw [h2]; exact fun e => h e.symm
        simp only [h2, if_true]
        rw [if_neg (by rw [← h2]; exact this)]
      · simp only [h2, if_false]
        exact aget_put k k' x r
theorem aget_none (k : κ) : ∀ l : List (κ × α), k ∉ l.map Prod.fst → aget k l = none
  | [], _ => rfl
  | p :: r, h => by
    simp only [List.map_cons, List.mem_cons, not_or] at h
    unfold aget
    rw [if_neg h.1]
    exact aget_none k r h.2
theorem aget_del (k k' : κ) : ∀ l : List (κ × α), (l.map Prod.fst).Nodup → aget k' (delE k l) = if k' = k then none else aget k' l
  | [], _ => by
    show aget k' ([] : List (κ × α)) = _
    simp [aget]
  | p :: r, hn => by
    rw [delE_cons]
    simp only [List.map_cons, List.nodup_cons] at hn
    by_cases h : k = p.1
    · rw [if_pos h, aget_cons]
      by_cases h2 : k' = k
      · rw [if_pos h2]
        rw [h2, h]
        exact aget_none _ _ hn.1
      · have : ¬ k' = p.1 := by rw [← h]; exact h2
        rw [if_neg h2, if_neg this]
    · rw [if_neg h, aget_cons, aget_cons]
      by_cases h2 : k' = p.1
      · have : ¬ k' = k := by rw [h2]; exact fun e => h e.symm
        rw [if_pos h2, if_neg this, if_pos h2]
      · rw [if_neg h2, if_neg h2]
        exact aget_del k k' r hn.2
theorem keys_put (k : κ) (x : α) : ∀ l : List (κ × α), ∀ j, j ∈ (putE k x l).map Prod.fst ↔ j = k ∨ j ∈ l.map Prod.fst
  | [], j => by rw [putE_nil]; simp
  | p :: r, j => by
    rw [putE_cons]
    by_cases h : k = p.1
    · rw [if_pos h]
      simp only [List.map_cons, List.mem_cons, ← h]
      constructor
      · rintro (h | h)
        · exact .inl h
        · exact .inr (.inr h)
      · rintro (h | h | h)
        · exact .inl h
        · exact .inl h
        · exact .inr h
    · rw [if_neg h]
      simp only [List.map_cons, List.mem_cons, keys_put k x r j]
      constructor
      · rintro (h | h | h)
        · exact .inr (.inl h)
        · exact .inl h
        · exact .inr (.inr h)
      · rintro (h | h | h)
        · exact .inr (.inl h)
        · exact .inl h
        · exact .inr (.inr h)
theorem nodup_put (k : κ) (x : α) : ∀ l : List (κ × α), (l.map Prod.fst).Nodup → ((putE k x l).map Prod.fst).Nodup
  | [], _ => by rw [putE_nil]; simp
  | p :: r, hn => by
    rw [putE_cons]
    simp only [List.map_cons, List.nodup_cons] at hn
    by_cases h : k = p.1
    · rw [if_pos h]
      simp only [List.map_cons, List.nodup_cons, h]
      exact hn
    · rw [if_neg h]
      simp only [List.map_cons, List.nodup_cons]
      refine ⟨fun hm => ?_, nodup_put k x r hn.2⟩
      rcases (keys_put k x r p.1).mp hm with h2 | h2
      · exact h h2.symm
      · exact hn.1 h2
theorem del_sub (k : κ) (l : List (κ × α)) : (delE k l).Sublist l := by
  unfold delE
  split
  · exact List.eraseIdx_sublist _ _
  · exact List.Sublist.refl _
theorem all_put {P : α → Prop} (k : κ) (x : α) (hx : P x) : ∀ l : List (κ × α), (∀ p ∈ l, P p.2) → ∀ p ∈ putE k x l, P p.2
  | [], _, p, hp => by rw [putE_nil] at hp; rw [List.mem_singleton.mp hp]; exact hx
  | q :: r, h, p, hp => by
    rw [putE_cons] at hp
    split at hp
    · rcases List.mem_cons.mp hp with rfl | hp
      · exact hx
      · exact h p (List.mem_cons_of_mem _ hp)
    · rcases List.mem_cons.mp hp with rfl | hp
      · exact h _ List.mem_cons_self
      · exact all_put k x hx r (fun p hp => h p (List.mem_cons_of_mem _ hp)) p hp
theorem aget_mem (k : κ) : ∀ (l : List (κ × α)) (x : α), aget k l = some x → (k, x) ∈ l
  | [], x, h => by cases h
  | p :: r, x, h => by
    unfold aget at h
    split at h
    · rename_i hk
      cases h
      rw [hk]
      exact List.mem_cons_self
    · exact List.mem_cons_of_mem _ (aget_mem k r x h)
end

/-- What a map of what waits is like. -/
structure UOk (m : UMap) : Prop where
  nodup : ∀ l, m = some l → (l.map Prod.fst).Nodup
  len : ∀ l, m = some l → ∀ p ∈ l, p.2.length ≤ 8

theorem uok_none : UOk none := ⟨(fun l h => nomatch h), (fun l h => nomatch h)⟩
theorem uok_nil : UOk (some []) := by
  refine ⟨fun l e => ?_, fun l e => ?_⟩
  · cases e; exact List.nodup_nil
  · cases e; intro p hp; cases hp
theorem uget_some (l : List (UKey × List Int)) (k : UKey) : uget (some l) k = (aget k l).getD [] := by
  show ((findE k l 0).map (·.2)).getD [] = _
  rw [findE_aget]
theorem UOk.get_len {m : UMap} (h : UOk m) (k : UKey) : (uget m k).length ≤ 8 := by
  cases m with
  | none => exact Nat.zero_le _
  | some l =>
    rw [uget_some]
    cases hg : aget k l with
    | none => exact Nat.zero_le _
    | some x => exact h.len l rfl _ (aget_mem k l x hg)
theorem UOk.put {m : UMap} (h : UOk m) (k : UKey) (x : List Int) (hx : x.length ≤ 8) : UOk (uput m k x) := by
  cases m with
  | none => exact uok_none
  | some l =>
    refine ⟨fun l' e => ?_, fun l' e => ?_⟩
    · cases e
      exact nodup_put k x l (h.nodup l rfl)
    · cases e
      exact all_put (P := fun x => x.length ≤ 8) k x hx l (h.len l rfl)
theorem UOk.del {m : UMap} (h : UOk m) (k : UKey) : UOk (udel m k) := by
  cases m with
  | none => exact uok_none
  | some l =>
    refine ⟨fun l' e => ?_, fun l' e => ?_⟩
    · cases e
      exact (h.nodup l rfl).sublist ((del_sub k l).map _)
    · cases e
      exact fun p hp => h.len l rfl p ((del_sub k l).subset hp)
theorem uget_put {m : UMap} (hm : m.isSome = true) (k k' : UKey) (x : List Int) : uget (uput m k x) k' = if k' = k then x else uget m k' := by
  cases m with
  | none => cases hm
  | some l =>
    show uget (some (putE k x l)) k' = _
    rw [uget_some, uget_some, aget_put]
    split <;> rfl
theorem uget_del {m : UMap} (h : UOk m) (k k' : UKey) : uget (udel m k) k' = if k' = k then [] else uget m k' := by
  cases m with
  | none =>
    show [] = _
    split <;> rfl
  | some l =>
    show uget (some (delE k l)) k' = _
    rw [uget_some, uget_some, aget_del k k' l (h.nodup l rfl)]
    split <;> rfl
theorem udel_none {m : UMap} (k : UKey) : (udel m k).isSome = m.isSome := by cases m <;> rfl
theorem uput_some {m : UMap} (k : UKey) (x : List Int) : (uput m k x).isSome = m.isSome := by cases m <;> rfl

/-- What waits behind one more thing. -/
def more8 (l : List Int) (why : Int) : List Int := (if l.length = 8 then l.drop 1 else l) ++ [why]
theorem more8_len {l : List Int} (h : l.length ≤ 8) (why : Int) : (more8 l why).length ≤ 8 := by
  unfold more8
  split
  · simp; omega
  · simp; omega

/-- May it wait? -/
def mayWait (lun : Int) (host : ByteArray) (why : Int) : Bool := decide (0 ≤ lun) && decide (lun < 8) && decide (1 ≤ why) && decide (why ≤ 4) && isName host
def fresh (l : List Int) (why : Int) : Bool := !decide (l.getLast? = some why)

theorem getLast_rdL (l : List Int) (h : 0 < l.length) : l.getLast? = some (rdL 0 l (IntKind.wrap .i64 ((l.length : Int) - 1))) ∨ 9223372036854775807 < l.length := by
  by_cases hb : l.length ≤ 9223372036854775807
  · left
    rw [wi (by omega) (by omega)]
    unfold rdL
    rw [show ((l.length : Int) - 1).toNat = l.length - 1 by omega, List.getLast?_eq_getElem?, List.getD_eq_getElem?_getD, List.getElem?_eq_getElem (by omega)]
    rfl
  · right; omega

theorem add_run (K : Nat) (hK : 66 ≤ K) (m : UMap) (hm : UOk m) (lun : Int) (host : ByteArray) (why : Int) :
    ∃ m', units_Units_Add.f K m lun host why = some (mayWait lun host why && fresh (uget m (lun, host)) why, m') ∧ UOk m' ∧
      ((mayWait lun host why && fresh (uget m (lun, host)) why) = false → m' = m) ∧
      ((mayWait lun host why && fresh (uget m (lun, host)) why) = true → m'.isSome = true ∧ ∀ k, uget m' k = if k = (lun, host) then more8 (uget m (lun, host)) why else uget m k) := by
  unfold units_Units_Add.f
  have hno : mayWait lun host why = false → ∃ m', (some (false, m) : Option (Bool × UMap)) = some (mayWait lun host why && fresh (uget m (lun, host)) why, m') ∧ UOk m' ∧
      ((mayWait lun host why && fresh (uget m (lun, host)) why) = false → m' = m) ∧
      ((mayWait lun host why && fresh (uget m (lun, host)) why) = true → m'.isSome = true ∧ ∀ k, uget m' k = if k = (lun, host) then more8 (uget m (lun, host)) why else uget m k) := by
    intro h
    rw [h]
    exact ⟨m, rfl, hm, (fun _ => rfl), (fun h => nomatch h)⟩
  by_cases h1 : lun < 0
  · rw [if_pos h1]
    refine hno ?_
    have : ¬ 0 ≤ lun := by omega
    simp [mayWait, this]
  rw [if_neg h1]
  by_cases h2 : lun ≥ 8
  · rw [if_pos h2]
    refine hno ?_
    have : ¬ lun < 8 := by omega
    simp [mayWait, this]
  rw [if_neg h2]
  by_cases h3 : why < 1
  · rw [if_pos h3]
    refine hno ?_
    have : ¬ 1 ≤ why := by omega
    simp [mayWait, this]
  rw [if_neg h3]
  by_cases h4 : why > 4
  · rw [if_pos h4]
    refine hno ?_
    have : ¬ why ≤ 4 := by omega
    simp [mayWait, this]
  rw [if_neg h4, name_run K host hK]
  simp only [Option.bind_some]
  have g1 : 0 ≤ lun := by omega
  have g2 : lun < 8 := by omega
  have g3 : 1 ≤ why := by omega
  have g4 : why ≤ 4 := by omega
  have hmw : mayWait lun host why = isName host := by simp [mayWait, g1, g2, g3, g4]
  cases hn : isName host with
  | false =>
    rw [if_neg (by simp)]
    exact hno (by rw [hmw, hn])
  | true =>
    rw [if_pos rfl, hmw, hn]
    simp only [Bool.true_and]
    have hl8 := hm.get_len (lun, host)
    -- the end
    have e2 : ∀ (x : List Int) (m0 : UMap), m0.isSome = true → UOk m0 → x.length ≤ 7 → units_Units_Add.j2 K lun host why x m0 = some (true, uput m0 (lun, host) (x ++ [why])) := by
      intro x m0 hs ho hx
      unfold units_Units_Add.j2 slices_Clone_23.f
      rw [asrt_pos (by omega)]
      simp only [Option.bind_some]
      rw [asrt_pos (by simp; omega), asrt_pos hs]
    have e1 : ∀ (x : List Int), x.length ≤ 7 → ∃ m', units_Units_Add.j1 K m lun host why x = some (true, m') ∧ UOk m' ∧ m'.isSome = true ∧ ∀ k, uget m' k = if k = (lun, host) then x ++ [why] else uget m k := by
      intro x hx
      unfold units_Units_Add.j1
      have hx8 : (x ++ [why]).length ≤ 8 := by simp; omega
      cases hmm : m with
      | none =>
        simp only [Option.isNone_none, if_true]
        rw [e2 x _ rfl uok_nil hx]
        refine ⟨_, rfl, UOk.put uok_nil _ _ hx8, rfl, fun k => ?_⟩
        rw [uget_put rfl]
        rfl
      | some l =>
        rw [if_neg (by simp), e2 x _ rfl (hmm ▸ hm) hx]
        refine ⟨_, rfl, UOk.put (hmm ▸ hm) _ _ hx8, rfl, fun k => ?_⟩
        rw [uget_put rfl]
    have e0 : ∃ m', units_Units_Add.j0 K m lun host why = some (true, m') ∧ UOk m' ∧ m'.isSome = true ∧ ∀ k, uget m' k = if k = (lun, host) then more8 (uget m (lun, host)) why else uget m k := by
      unfold units_Units_Add.j0
      by_cases h8 : (uget m (lun, host)).length = 8
      · rw [if_pos (by omega), asrt_pos (by omega)]
        obtain ⟨m', a1, a2, a3, a4⟩ := e1 ((uget m (lun, host)).drop (1 : Int).toNat) (by rw [List.length_drop]; show _ - 1 ≤ 7; omega)
        refine ⟨m', a1, a2, a3, fun k => ?_⟩
        rw [a4 k]
        unfold more8
        rw [if_pos h8]
        rfl
      · rw [if_neg (by omega)]
        obtain ⟨m', a1, a2, a3, a4⟩ := e1 (uget m (lun, host)) (by omega)
        refine ⟨m', a1, a2, a3, fun k => ?_⟩
        rw [a4 k]
        unfold more8
        rw [if_neg h8]
    by_cases hz : 0 < (uget m (lun, host)).length
    · have hlast := (getLast_rdL _ hz).resolve_right (by omega)
      rw [if_pos (by omega), asrt_pos (by rw [wi (by omega) (by omega)]; omega), asrt_pos (by rw [wi (by omega) (by omega)]; omega)]
      by_cases hw : rdL (0 : Int) (uget m (lun, host)) (IntKind.wrap .i64 (((uget m (lun, host)).length : Int) - 1)) = why
      · rw [if_pos hw]
        have hf : fresh (uget m (lun, host)) why = false := by unfold fresh; rw [hlast, hw]; simp
        rw [hf]
        exact ⟨m, rfl, hm, (fun _ => rfl), (fun h => nomatch h)⟩
      · rw [if_neg hw]
        have hf : fresh (uget m (lun, host)) why = true := by unfold fresh; rw [hlast]; simp [hw]
        rw [hf]
        obtain ⟨m', a1, a2, a3⟩ := e0
        exact ⟨m', a1, a2, (fun h => nomatch h), fun _ => a3⟩
    · rw [if_neg (by omega)]
      have hnil : uget m (lun, host) = [] := List.eq_nil_of_length_eq_zero (by omega)
      have hf : fresh (uget m (lun, host)) why = true := by unfold fresh; rw [hnil]; simp
      rw [hf]
      obtain ⟨m', a1, a2, a3⟩ := e0
      exact ⟨m', a1, a2, (fun h => nomatch h), fun _ => a3⟩

theorem wait_run (m : UMap) (lun : Int) (host : ByteArray) : units_Units_Wait.f m lun host = some (((uget m (lun, host)).length : Int), m) := rfl

theorem take_run (m : UMap) (hm : UOk m) (lun : Int) (host : ByteArray) :
    ∃ m', units_Units_Take.f m lun host = some ((uget m (lun, host)).headD 0, !(uget m (lun, host)).isEmpty, m') ∧ UOk m' ∧ ∀ k, uget m' k = if k = (lun, host) then (uget m (lun, host)).drop 1 else uget m k := by
  unfold units_Units_Take.f
  rw [wait_run]
  simp only [Option.bind_some]
  have hl8 := hm.get_len (lun, host)
  cases hu : uget m (lun, host) with
  | nil =>
    rw [if_pos (by simp)]
    refine ⟨m, rfl, hm, fun k => ?_⟩
    split
    · rename_i hk; rw [hk, hu]; rfl
    · rfl
  | cons x r =>
    rw [if_neg (by simp; omega)]
    by_cases h1 : r = []
    · subst h1
      rw [if_pos (by simp), asrt_pos (by simp)]
      refine ⟨_, rfl, hm.del _, fun k => ?_⟩
      rw [uget_del hm]
      rfl
    · have : 0 < r.length := List.length_pos_iff.mpr h1
      have hs : m.isSome = true := by
        cases m with
        | none => cases hu
        | some l => rfl
      rw [hu, List.length_cons] at hl8
      rw [if_neg (by rw [List.length_cons]; omega), asrt_pos (by rw [List.length_cons]; omega), asrt_pos hs, asrt_pos (by rw [List.length_cons]; omega)]
      refine ⟨_, rfl, hm.put _ _ (by show (List.drop 1 (x :: r)).length ≤ 8; rw [List.length_drop, List.length_cons]; omega), fun k => ?_⟩
      rw [uget_put hs]
      rfl

theorem forget_loop (K : Nat) (host : ByteArray) : ∀ (k : Nat) (i : Nat) (m : UMap), UOk m → i ≤ 8 → 8 < k + i → ∃ m', units_Units_Forget.l0 K host k (i : Int) m = some m' ∧ UOk m' ∧ ∀ q : UKey, uget m' q = if q.2 = host ∧ (i : Int) ≤ q.1 ∧ q.1 < 8 then [] else uget m q
  | 0, i, m, hm, h1, h2 => by omega
  | k + 1, i, m, hm, h1, h2 => by
    show ∃ m', units_Units_Forget.b0 K host (units_Units_Forget.l0 K host k) (i : Int) m = some m' ∧ _
    unfold units_Units_Forget.b0
    by_cases hi : i < 8
    · rw [if_pos (by omega), wi (by omega) (by omega), show (i : Int) + 1 = ((i + 1 : Nat) : Int) by omega]
      obtain ⟨m', a1, a2, a3⟩ := forget_loop K host k (i + 1) (udel m ((i : Int), host)) (hm.del _) (by omega) (by omega)
      refine ⟨m', a1, a2, fun q => ?_⟩
      rw [a3 q, uget_del hm]
      obtain ⟨ql, qh⟩ := q
      by_cases e1 : qh = host
      · subst e1
        by_cases e2 : ql = (i : Int)
        · subst e2
          rw [if_neg (by simp; omega), if_pos rfl, if_pos (by simp; omega)]
        · have : ¬ ((ql, qh) : UKey) = ((i : Int), qh) := by simp [e2]
          simp only [this, if_false, true_and]
          by_cases e3 : (((i + 1 : Nat) : Int) ≤ ql ∧ ql < 8)
          · rw [if_pos e3, if_pos (by omega)]
          · rw [if_neg e3, if_neg (by omega)]
      · have : ¬ ((ql, qh) : UKey) = ((i : Int), host) := by simp [e1]
        simp [e1]
    · rw [if_neg (by omega)]
      refine ⟨m, rfl, hm, fun q => ?_⟩
      rw [if_neg (by omega)]

theorem forget_run (K : Nat) (hK : 66 ≤ K) (m : UMap) (hm : UOk m) (host : ByteArray) : ∃ m', units_Units_Forget.f K m host = some m' ∧ UOk m' ∧ ∀ q : UKey, uget m' q = if q.2 = host ∧ 0 ≤ q.1 ∧ q.1 < 8 then [] else uget m q := by
  exact forget_loop K host K 0 m hm (by omega) (by omega)
end Go.Proofs.Ytdcojinnjpihaaa.F
