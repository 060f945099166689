/- The plain run of code and calls, and that the model's run comes to the same. No condition. -/
import Derived.Test.YtdcojinnjpihaaaXAbsDraw3
namespace Go.Proofs.Ytdcojinnjpihaaa.X
open Go Go.RowKit

section
variable {ds : List Deferred} {P : Program} {ng : Nat} {call : CallF} {w0 W : World} {μ : Nat → Option Loc} {E : Nat → Option AObj} {ops : Array Oper} {fr : List Value} {H : Heap} {a : Act}

theorem getD_replicate (n j : Nat) : (Array.replicate n false).getD j true = Nat.ble n j := by
  simp only [Array.getD_eq_getD_getElem?, Array.getElem?_replicate]
  by_cases h : j < n
  · rw [if_pos h]
    have : Nat.ble n j = false := by
      cases hb : Nat.ble n j with
      | false => rfl
      | true => have := Nat.le_of_ble_eq_true hb; omega
    rw [this]; rfl
  · rw [if_neg h, Nat.ble_eq_true_of_le (by omega)]; rfl

def CertOk (P : Program) (ng : Nat) (call : CallF) (ops : Array Oper) (fr : List Value) (H : Heap) (fr' : List Value) (H' : Heap) : Prop :=
  ∃ C S, DChk P ng call ops H.next (masks ops.toList) fr C ∧ C.frs[ops.size]? = some fr' ∧ C.hs[C.effs.length]? = some S ∧ C.hs[0]? = some ⟨H.next + ops.size, H.t⟩ ∧ H' = addA H.next (2 ^ ops.size - 1) C.recs 0 S

theorem runD_cert {fr' : List Value} {H' : Heap} (h : runD P ng call ops fr H = some (fr', H')) : CertOk P ng call ops fr H fr' H' := by
  unfold runD at h
  split at h
  · cases h
  · rename_i hb
    simp only [Bool.and_eq_true] at hb
    split at h
    · cases h
    · rename_i C hC
      split at h
      · cases h
      · rename_i he
        split at h
        · cases h
        · rename_i ha
          split at h
          · rename_i f S hf hS
            simp only [Option.some.injEq, Prod.mk.injEq] at h
            obtain ⟨rfl, rfl⟩ := h
            obtain ⟨S2, hI, hle⟩ := passD_ok (P := P) (ng := ng) (call := call) (ops := ops) (base := H.next) (ms := masks ops.toList) ops.toList 0 fr ⟨H.next + ops.size, H.t⟩ [] [] [⟨H.next + ops.size, H.t⟩] [] C (by simp) (Nat.zero_le _)
              ⟨rfl, rfl, rfl, rfl, fun l e he => by simp at he, fun j v hj => by simp at hj, fun l m e he => by simp at he, fun l e he => by simp at he, fun j hj => by omega⟩ hC
            obtain ⟨⟨x1, e1⟩, ⟨x2, e2⟩, ⟨x3, e3⟩, ⟨x4, e4⟩⟩ := hle
            refine ⟨C, S, ⟨hb.1.1, hb.1.2, hb.2, ?_, ha, by rw [e2]; rfl, hI.recs, hI.hs, hI.lt, hI.inc, hI.effr, hI.val⟩, hf, hS, by rw [e3]; rfl, rfl⟩
            rcases Bool.or_eq_true_iff.mp he with h1 | h1
            · exact .inl (List.isEmpty_iff.mp h1)
            · simp only [Bool.and_eq_true] at h1
              exact .inr ⟨h1.1, chkW_prop h1.2⟩
          · cases h

theorem testBit_full {n j : Nat} (h : j < n) : (2 ^ n - 1).testBit j = true := by
  rw [Nat.testBit_two_pow_sub_one]
  exact decide_eq_true h

set_option maxHeartbeats 1000000 in
theorem runD_okC (hN : NoNum P) (hmix : P.follows .mixedOrders = true) (hcall : ∀ f args H v H', call f args H = some (v, H') → CallOk P ng f args H v H') {Q : Exit → Act → World → Prop} {id : Nat} {fr' : List Value} {H' : Heap}
    (h : CertOk P ng call ops fr H fr' H') (hf : FR ds μ fr a) (hfree : Free μ H.next) (hg : Glob μ ng) (hw : HR P w0 μ (ov H E) W) (hQ : ∀ a' W', PostO ds P w0 μ E H.next fr' H' a' W' → Q .normal a' W') : (Code.region id ops true).wp P Q a W := by
  obtain ⟨C, Sf, hk, hfr, hSf, hS0, rfl⟩ := h
  have htm : a.tmps.size = fr.length := by have := hf.2.1; simpa using this.symm
  refine wp_region_any hmix ?_
  have key : ∀ (fuel : Nat) (listed : Array Bool) (a' : Act) (W' : World) (n : Nat) (S : Heap) (μ' : Nat → Option Loc) (G : Nat → Option AObj), ((List.range ops.size).filter fun i => !listed.getD i true).length = fuel → DInv ds P w0 μ E ops H.next fr C listed a' W' n S μ' G → wpAny P .any ops Q fuel listed a' W' := by
    intro fuel
    induction fuel with
    | zero =>
      intro listed a' W' n S μ' G hc hI
      have hnil := List.eq_nil_of_length_eq_zero hc
      have hall : ∀ j, j < ops.size → listed.getD j true = true := by
        intro j hj
        cases hb : listed.getD j true with
        | true => rfl
        | false =>
          have : j ∈ (List.range ops.size).filter fun i => !listed.getD i true := List.mem_filter.mpr ⟨List.mem_range.mpr hj, by rw [hb]; rfl⟩
          rw [hnil] at this
          cases this
      refine ⟨?_, hQ a' W' ?_⟩
      · unfold Region.ready
        refine List.filter_eq_nil_iff.mpr (fun k hk => ?_)
        rw [hall k (List.mem_range.mp hk)]
        simp
      · obtain ⟨f, r1, r2, r3⟩ := frs_slot hk.b hk.d hk.zero hk.val ops.size (Nat.le_refl _)
        rw [hfr] at r1; cases r1
        have hn : n = C.effs.length := by
          have h1 : ¬ n < C.effs.length := by
            intro hlt
            have h2 : C.effs[n]? = some C.effs[n] := List.getElem?_eq_some_iff.2 ⟨hlt, rfl⟩
            have := (hI.effs n _ h2).mp (hall _ (hk.lt n _ h2))
            omega
          have := hI.le
          omega
        subst hn
        have := hI.heap
        rw [hSf] at this; cases this
        refine ⟨μ', hI.ext, ⟨hI.defers, ?_⟩, ?_, ?_⟩
        · refine .of_get (by have h8 := hI.tmps; have h9 : a'.tmps.toList.length = a'.tmps.size := Array.length_toList; omega) fun s x hx => ?_
          have hs : s < a'.tmps.size := by rw [hI.tmps, ← r2]; exact (List.getElem?_eq_some_iff.1 hx).1
          refine ⟨a'.tmps[s], by rw [Array.getElem?_toList]; exact Array.getElem?_eq_some_iff.2 ⟨hs, rfl⟩, ?_⟩
          have h1 := hI.slot s _ (Array.getElem?_eq_some_iff.2 ⟨hs, rfl⟩)
          have h2 : slotD ops H.next C.recs fr (fun k => listed.getD k true) s = slotD ops H.next C.recs fr (fun k => Nat.blt k ops.size) s := by
            by_cases hk2 : ∃ k, wr ops k s = true
            · obtain ⟨k, hk3⟩ := hk2
              obtain ⟨_, _, _, hlt⟩ := wr_spec hk3
              rw [slotD_some hk.b (D := fun k => listed.getD k true) (hall k hlt) hk3, slotD_some hk.b (D := fun k => Nat.blt k ops.size) (k := k) (Nat.ble_eq_true_of_le hlt) hk3]
            · have hno : ∀ k, wr ops k s = false := fun k => by
                cases hb : wr ops k s with
                | false => rfl
                | true => exact absurd ⟨k, hb⟩ hk2
              rw [slotD_none fun k _ => hno k, slotD_none fun k _ => hno k]
          rw [h2, ← r3] at h1
          simp only [frget_eq, hx, Option.getD_some] at h1
          exact h1
        · intro k hk2
          rw [addA_next] at hk2
          exact hI.free k hk2
        · refine hI.hr.less fun k o hko hd => ?_
          unfold ov at hko
          split at hko
          · rename_i o2 h1
            cases hko
            rcases addA_get _ _ _ _ _ _ _ h1 with h2 | ⟨h0, j, c, e, sl, h2, h3, h4, h5⟩
            · exact hI.old k _ h2
            · rw [Nat.zero_add] at h4
              subst h4; subst h5
              have hj : j < ops.size := by rw [← hk.recs]; exact (List.getElem?_eq_some_iff.1 h2).1
              exact hI.own j c e sl h2 (hall j hj) h0
          · rename_i h1
            refine hI.els k o ?_ hko hd
            cases h2 : Sf.get k with
            | none => rfl
            | some o2 => rw [addA_old _ _ _ _ _ _ _ h2] at h1; cases h1
    | succ fuel ih =>
      intro listed a' W' n S μ' G hc hI
      have hmin : ∃ j, j < ops.size ∧ listed.getD j true = false ∧ ∀ k, k < j → listed.getD k true = true := by
        have hex : ∃ j, j < ops.size ∧ listed.getD j true = false := by
          cases hf2 : (List.range ops.size).filter fun i => !listed.getD i true with
          | nil => rw [hf2] at hc; cases hc
          | cons j r =>
            have : j ∈ (List.range ops.size).filter fun i => !listed.getD i true := by rw [hf2]; exact List.mem_cons_self
            obtain ⟨h1, h2⟩ := List.mem_filter.mp this
            exact ⟨j, List.mem_range.mp h1, by simpa using h2⟩
        obtain ⟨j, hj, hb⟩ := hex
        induction j using Nat.strongRecOn with
        | _ j ihj =>
          by_cases hall : ∀ k, k < j → listed.getD k true = true
          · exact ⟨j, hj, hb, hall⟩
          · simp only [Classical.not_forall] at hall
            obtain ⟨k, hk, hkb⟩ := hall
            exact ihj k hk (by omega) (by simpa using hkb)
      obtain ⟨jm, hjm, hjb, hlow⟩ := hmin
      refine ⟨fun hr => ?_, fun i hi => ?_⟩
      · exfalso
        obtain ⟨o, ho⟩ : ∃ o, ops[jm]? = some o := ⟨ops[jm]'hjm, Array.getElem?_eq_some_iff.2 ⟨hjm, rfl⟩⟩
        have := ready_of hI.size ho hk.b hjb hlow
        rw [hr] at this
        cases this
      · have hi' := hi
        unfold Region.ready at hi'
        obtain ⟨hir, hic⟩ := List.mem_filter.mp hi'
        have hilt := List.mem_range.mp hir
        obtain ⟨o, ho⟩ : ∃ o, ops[i]? = some o := ⟨ops[i], Array.getElem?_eq_some_iff.2 ⟨hilt, rfl⟩⟩
        simp only [ho, Option.map_some, Option.getD_some, Bool.and_eq_true] at hic
        obtain ⟨hib, hdeps⟩ := hic
        have hib' : listed.getD i true = false := by simpa using hib
        refine hI.step hN hcall hk hg ho hib' (fun m hm => listed_of_waits hdeps m hm) fun a2 W2 n2 S2 μ2 G2 hI2 => ih _ a2 W2 n2 S2 μ2 G2 ?_ hI2
        have hli : i < listed.size := by rw [hI.size]; exact hilt
        have hcount : ∀ (l : List Nat), l.Nodup → i ∈ l → (l.filter fun k => !(listed.setIfInBounds i true).getD k true).length + 1 = (l.filter fun k => !listed.getD k true).length := by
          intro l
          induction l with
          | nil => intro _ h; cases h
          | cons x r ihr =>
            intro hnd hmem
            have hx : ∀ k, (listed.setIfInBounds i true).getD k true = if i = k then true else listed.getD k true := fun k => getD_set hli
            obtain ⟨hxr, hnr⟩ := List.nodup_cons.mp hnd
            by_cases hxi : x = i
            · subst hxi
              have hsame : (r.filter fun k => !(listed.setIfInBounds x true).getD k true) = r.filter fun k => !listed.getD k true := by
                refine List.filter_congr fun k hk => ?_
                rw [hx k, if_neg]
                intro e; subst e; exact hxr hk
              have hxx : (listed.setIfInBounds x true).getD x true = true := by rw [hx x, if_pos rfl]
              rw [List.filter_cons, List.filter_cons, hxx, hib', hsame]
              simp
            · have hir2 : i ∈ r := by
                rcases List.mem_cons.mp hmem with e | e
                · exact absurd e.symm hxi
                · exact e
              have := ihr hnr hir2
              have hxx : (listed.setIfInBounds i true).getD x true = listed.getD x true := by rw [hx x, if_neg (fun e => hxi e.symm)]
              rw [List.filter_cons, List.filter_cons, hxx]
              split
              · simp only [List.length_cons]; omega
              · exact this
        have := hcount (List.range ops.size) List.nodup_range (List.mem_range.mpr hilt)
        omega
  have hD0 : ∀ j, j < ops.size → (Array.replicate ops.size false).getD j true = false := by
    intro j hj
    rw [getD_replicate]
    cases hb : Nat.ble ops.size j with
    | false => rfl
    | true => have := Nat.le_of_ble_eq_true hb; omega
  refine key ops.size _ a _ 0 ⟨H.next + ops.size, H.t⟩ μ (ov H E) ?_ ⟨.refl _ μ, by simp, ?_, ?_, Nat.zero_le _, hf.1, htm, ?_, hw.drew _, hS0, ?_, ?_, ?_, ?_, ?_, Nat.le_refl _⟩
  · have : (List.range ops.size).filter (fun i => !(Array.replicate ops.size false).getD i true) = List.range ops.size := by
      refine List.filter_eq_self.mpr fun i hi => ?_
      rw [hD0 i (List.mem_range.mp hi)]; rfl
    rw [this]; simp
  · intro j o hj hl
    have hl' : (Array.replicate ops.size false).getD j true = true := hl
    rw [hD0 j (Array.getElem?_eq_some_iff.1 hj).1] at hl'
    cases hl'
  · intro l e he
    rw [hD0 e (hk.lt l e he)]
    simp
  · intro s y hy
    rw [slotD_none]
    · have hs : s < fr.length := by rw [← htm]; exact (Array.getElem?_eq_some_iff.1 hy).1
      have h2 : fr[s]? = some fr[s] := List.getElem?_eq_some_iff.2 ⟨hs, rfl⟩
      obtain ⟨y', hy', hr⟩ := hf.2.get h2
      rw [Array.getElem?_toList, hy] at hy'
      cases hy'
      simp only [frget_eq, h2, Option.getD_some]
      exact hr
    · intro k hk2
      rw [getD_replicate] at hk2
      cases hw2 : wr ops k s with
      | false => rfl
      | true =>
        obtain ⟨_, _, _, hlt⟩ := wr_spec hw2
        have := Nat.le_of_ble_eq_true hk2
        omega
  · intro k o h1
    exact ov_get h1
  · intro i c e sl h1 h2
    rw [hD0 i (by rw [← hk.recs]; exact (List.getElem?_eq_some_iff.1 h1).1)] at h2
    cases h2
  · intro k o h1 h2 _
    have h3 : H.get k = none := h1
    simp only [ov, h3]
    exact h2
  · intro k h1
    exact hfree k (by simp only at h1; omega)
  · intro i _ _
    exact hfree _ (by omega)

theorem runD_ok (hN : NoNum P) (hmix : P.follows .mixedOrders = true) (hcall : ∀ f args H v H', call f args H = some (v, H') → CallOk P ng f args H v H') {Q : Exit → Act → World → Prop} {id : Nat} {fr' : List Value} {H' : Heap}
    (h : runD P ng call ops fr H = some (fr', H')) (hf : FR ds μ fr a) (hfree : Free μ H.next) (hg : Glob μ ng) (hw : HR P w0 μ (ov H E) W) (hQ : ∀ a' W', PostO ds P w0 μ E H.next fr' H' a' W' → Q .normal a' W') : (Code.region id ops true).wp P Q a W := runD_okC hN hmix hcall (runD_cert h) hf hfree hg hw hQ

theorem runD_domC (hcall : ∀ f args H v H', call f args H = some (v, H') → CallOk P ng f args H v H') {fr' : List Value} {H' : Heap} (h : CertOk P ng call ops fr H fr' H') : Dom H H' ∧ fr'.length = fr.length := by
  obtain ⟨C, Sf, hk, hfr, hSf, hS0, rfl⟩ := h
  obtain ⟨f, r1, r2, r3⟩ := frs_slot hk.b hk.d hk.zero hk.val ops.size (Nat.le_refl _)
  rw [hfr] at r1; cases r1
  refine ⟨?_, r2⟩
  have chain : ∀ n S, n ≤ C.effs.length → C.hs[n]? = some S → Dom H S := by
    intro n
    induction n with
    | zero =>
      intro S _ hS
      rw [hS0] at hS; cases hS
      exact ⟨fun k o h => ⟨o, h⟩, Nat.le_add_right _ _⟩
    | succ n ih =>
      intro S hn hS
      have hlt : n < C.effs.length := by omega
      have h2 : C.effs[n]? = some C.effs[n] := List.getElem?_eq_some_iff.2 ⟨hlt, rfl⟩
      obtain ⟨v, hv⟩ := hk.eff n _ h2
      obtain ⟨o, f, rec, q1, q2, q3, q4, q5⟩ := hk.val _ (hk.lt n _ h2)
      rw [hv] at q3; cases q3
      rcases q5 with ⟨h5, _⟩ | ⟨_, _, ⟨_, _, _, h5, _⟩ | ⟨_, _, _, _, h5, _⟩ | ⟨v', l, S0, S', res, h5, s1, s2, s3, s4, s5, s6⟩⟩
      · cases h5
      · cases h5
      · cases h5
      · have hl := hk.inc l n _ s1 h2
        subst hl
        rw [hS] at s3; cases s3
        have h6 := applyR_dom hcall s6
        have h7 := ih S0 (by omega) s2
        refine ⟨fun k o hko => ?_, ?_⟩
        · obtain ⟨o1, h8⟩ := h7.get k o hko
          exact h6.get k o1 (addA_old _ _ _ _ _ _ _ h8)
        · have := h6.next
          rw [addA_next] at this
          exact Nat.le_trans h7.next this
  have h1 := chain C.effs.length Sf (Nat.le_refl _) hSf
  exact ⟨fun k o h => by obtain ⟨o1, h2⟩ := h1.get k o h; exact ⟨o1, addA_old _ _ _ _ _ _ _ h2⟩, by rw [addA_next]; exact h1.next⟩
theorem runD_dom (hcall : ∀ f args H v H', call f args H = some (v, H') → CallOk P ng f args H v H') {fr' : List Value} {H' : Heap} (h : runD P ng call ops fr H = some (fr', H')) : Dom H H' ∧ fr'.length = fr.length := runD_domC hcall (runD_cert h)
end

/-! ### Code -/
inductive Ex where
  | normal
  | exit (id : Nat)
  | ret


def Ex.toExit : Ex → Exit
  | .normal => .normal
  | .exit id => .exit id
  | .ret => .ret

/-- One layer of code. -/
noncomputable def stepC (P : Program) (ng : Nat) (call : CallF) (go : Code → List Value → Heap → Option (Ex × List Value × Heap)) (c : Code) (fr : List Value) (H : Heap) : Option (Ex × List Value × Heap) := match c with
  | .skip => some (.normal, fr, H)
  | .region _ ops draw => match draw with
    | false => match runO P ng call ops ops.toList fr H with
      | some (fr', H') => some (.normal, fr', H')
      | none => none
    | true => match runD P ng call ops fr H with
      | some (fr', H') => some (.normal, fr', H')
      | none => none
  | .seq x y => match go x fr H with
    | some (.normal, fr', H') => go y fr' H'
    | r => r
  | .cond b x y => match opd1 ng b with
    | false => none
    | true => match aev fr b with
      | .bool true => go x fr H
      | .bool false => go y fr H
      | _ => none
  | .block id x => match go x fr H with
    | some (.exit id', fr', H') => match Nat.beq id' id with
      | true => some (.normal, fr', H')
      | false => some (.exit id', fr', H')
    | r => r
  | .loop x => match go x fr H with
    | some (.normal, fr', H') => go (.loop x) fr' H'
    | r => r
  | .exit id => some (.exit id, fr, H)
  | .ret => some (.ret, fr, H)
  | _ => none

noncomputable def ares (P : Program) (fr : List Value) (H : Heap) : List ResultVar → Option (List Value)
  | [] => some []
  | .tmp t :: r => match ares P fr H r with
    | some vs => some (frget fr t :: vs)
    | none => none
  | .cell a t :: r => match aload1 P H.get t (frget fr a) with
    | none => none
    | some v => match ares P fr H r with
      | some vs => some (v :: vs)
      | none => none

noncomputable def stepF (P : Program) (lib : Nat → Option (List Value → Heap → Option (Value × Heap))) (go : Code → List Value → Heap → Option (Ex × List Value × Heap)) (f : Nat) (args : List Value) (H : Heap) : Option (Value × Heap) := match lib f with
  | some g => g args H
  | none => match P.funcs[f]? with
    | none => none
    | some fn => match fn.body with
      | none => none
      | some c => match go c (args ++ List.replicate (fn.ntmps - args.length) undef) H with
        | some (.normal, fr, H') => match ares P fr H' fn.results.toList with
          | some vs => some (oneOf vs, H')
          | none => none
        | some (.ret, fr, H') => match ares P fr H' fn.results.toList with
          | some vs => some (oneOf vs, H')
          | none => none
        | _ => none

/-- Code, so many layers deep. -/
noncomputable def runC (P : Program) (ng : Nat) (lib : Nat → Option (List Value → Heap → Option (Value × Heap))) (n : Nat) : Code → List Value → Heap → Option (Ex × List Value × Heap) :=
  Nat.rec (motive := fun _ => Code → List Value → Heap → Option (Ex × List Value × Heap)) (fun _ _ _ => none) (fun _ go => stepC P ng (stepF P lib go) go) n

theorem runC_succ (P : Program) (ng : Nat) (lib) (n : Nat) : runC P ng lib (n + 1) = stepC P ng (stepF P lib (runC P ng lib n)) (runC P ng lib n) := rfl

/-- A call. -/
noncomputable def runF (P : Program) (ng : Nat) (lib : Nat → Option (List Value → Heap → Option (Value × Heap))) (n : Nat) : CallF := stepF P lib (runC P ng lib n)

/-- What is told of the functions that are not run. -/
def LibOk (P : Program) (ng : Nat) (lib : Nat → Option (List Value → Heap → Option (Value × Heap))) : Prop :=
  ∀ f g, lib f = some g → ∀ args H v H', g args H = some (v, H') → CallOk P ng f args H v H'

section
variable {ds : List Deferred} {P : Program} {ng : Nat} {lib : Nat → Option (List Value → Heap → Option (Value × Heap))}

/-- What stands behind code. -/
def PostC (ds : List Deferred) (P : Program) (w0 : World) (μ : Nat → Option Loc) (E : Nat → Option AObj) (n : Nat) (ex : Ex) (fr' : List Value) (H' : Heap) (e : Exit) (a : Act) (W : World) : Prop :=
  e = ex.toExit ∧ PostO ds P w0 μ E n fr' H' a W

/-- Code comes to the same. -/
structure CodeOk (P : Program) (ng : Nat) (c : Code) (fr : List Value) (H : Heap) (ex : Ex) (fr' : List Value) (H' : Heap) : Prop where
  dom : Dom H H'
  wp : ∀ (ds : List Deferred) (w0 : World) (μ : Nat → Option Loc) (E : Nat → Option AObj) (W : World) (a : Act), FR ds μ fr a → Free μ H.next → Glob μ ng → HR P w0 μ (ov H E) W → c.wp P (PostC ds P w0 μ E H.next ex fr' H') a W

theorem ares_ok {w0 W : World} {μ : Nat → Option Loc} {G : Nat → Option AObj} {H : Heap} (hG : LeG H.get G) {fr : List Value} {a : Act} (hf : FR ds μ fr a) (hw : HR P w0 μ G W) : ∀ (rs : List ResultVar) (vs : List Value), ares P fr H rs = some vs →
    ∃ vs', VL μ vs vs' ∧ (rs.mapM (fun x : ResultVar => match x with | .tmp t => (pure (a.tmps.getD t undef) : Sem Value) | .cell b t => do loadVar t (← asAddr (a.tmps.getD b undef)))).run P W = .ok vs' W := by
  have hget : ∀ t, VR μ (frget fr t) (a.tmps.getD t undef) := by
    intro t
    have := hf.ev (ng := 0) (fun g hg => by omega) (x := .tmp t) rfl
    exact this
  intro rs
  induction rs with
  | nil => intro vs h; simp only [ares, Option.some.injEq] at h; subst h; exact ⟨[], .nil, by simp⟩
  | cons r rs ih =>
    intro vs h
    cases r with
    | tmp t =>
      simp only [ares] at h
      split at h
      · rename_i vs1 h1
        cases h
        obtain ⟨vs', q1, q2⟩ := ih vs1 h1
        refine ⟨_, .cons (hget t) q1, ?_⟩
        simp only [List.mapM_cons, Sem.run_bind, Sem.run_pure, Result.andThen_ok, q2]
      · cases h
    | cell b t =>
      simp only [ares] at h
      split at h
      · cases h
      · rename_i v hv
        split at h
        · rename_i vs1 h1
          cases h
          obtain ⟨vs', q1, q2⟩ := ih vs1 h1
          obtain ⟨v', q3, q4⟩ := aload1_ok (aload1_mono hG hv) (hget b) hw
          refine ⟨_, .cons q4 q1, ?_⟩
          have hp : ∃ ad, a.tmps.getD b undef = .pointer (some ad) := by
            have := hget b
            unfold aload1 at hv
            split at hv
            · rename_i e; rw [e] at this; exact this.ptr_inv
            · cases hv
          obtain ⟨ad, hp⟩ := hp
          rw [hp] at q3
          simp only [Instr.loadAt, Instr.sureAddr, Sem.run_bind, Sem.run_pure, Result.andThen_ok] at q3
          have has : ∀ W : World, (asAddr (.pointer (some ad))).run P W = .ok ad W := fun _ => rfl
          simp only [List.mapM_cons, Sem.run_bind, Sem.run_pure, Result.andThen_ok, q2, hp, has, q3]
        · cases h

theorem results_ok {w0 W : World} {μ : Nat → Option Loc} {G : Nat → Option AObj} {H : Heap} (hG : LeG H.get G) {fr : List Value} {a : Act} (hf : FR ds μ fr a) (hw : HR P w0 μ G W) {fn : Func} {vs : List Value} (h : ares P fr H fn.results.toList = some vs) :
    ∃ v', (results fn a.tmps).run P W = .ok v' W ∧ VR μ (oneOf vs) v' := by
  obtain ⟨vs', h1, h2⟩ := ares_ok hG hf hw _ _ h
  refine ⟨oneOf vs', ?_, ?_⟩
  · unfold results
    rw [← Array.toArray_toList (xs := fn.results), List.mapM_toArray, Sem.run_bind, Sem.run_map]
    refine (congrArg (fun z => Result.andThen (Result.andThen z _) _) h2).trans ?_
    simp only [Result.andThen_ok, Sem.run_pure]
    congr 1
    match vs' with
    | [] => rfl
    | [v] => rfl
    | u :: v :: r => simp [oneOf]
  · match vs, vs', h1 with
    | [], [], _ => exact VR.undef
    | [x], [y], h1 => exact h1.head
    | x :: y :: r, x' :: y' :: r', h1 => exact VL.tuple (by simpa using h1)
    | [], _ :: _, h1 => have := h1.1; simp at this
    | [_], [], h1 => have := h1.1; simp at this
    | [_], _ :: _ :: _, h1 => have := h1.1; simp at this
    | _ :: _ :: _, [], h1 => have := h1.1; simp at this
    | _ :: _ :: _, [_], h1 => have := h1.1; simp at this

theorem PostO.trans {w0 W : World} {μ μ1 : Nat → Option Loc} {E : Nat → Option AObj} {n n1 : Nat} {fr' : List Value} {H' : Heap} {a : Act} (h : PostO ds P w0 μ1 E n1 fr' H' a W) (he : ExtN n μ μ1) (hle : n ≤ n1) : PostO ds P w0 μ E n fr' H' a W := by
  obtain ⟨μ2, p1, p2⟩ := h
  exact ⟨μ2, he.trans p1 hle, p2⟩

theorem PostC.trans {w0 W : World} {μ μ1 : Nat → Option Loc} {E : Nat → Option AObj} {n n1 : Nat} {ex : Ex} {fr' : List Value} {H' : Heap} {e : Exit} {a : Act} (h : PostC ds P w0 μ1 E n1 ex fr' H' e a W) (he : ExtN n μ μ1) (hle : n ≤ n1) : PostC ds P w0 μ E n ex fr' H' e a W := ⟨h.1, h.2.trans he hle⟩

/-- The rounds of a loop. -/
structure LoopOk (P : Program) (ng n : Nat) (x : Code) (fr : List Value) (H : Heap) (ex : Ex) (fr' : List Value) (H' : Heap) : Prop where
  dom : Dom H H'
  rounds : ∀ (ds : List Deferred) (w0 : World) (μ : Nat → Option Loc) (E : Nat → Option AObj) (W : World) (a : Act), FR ds μ fr a → Free μ H.next → Glob μ ng → HR P w0 μ (ov H E) W → Code.rounds P x (PostC ds P w0 μ E H.next ex fr' H') n a W

theorem rounds_mono {x : Code} {Q Q' : Exit → Act → World → Prop} (hq : ∀ e a w, Q e a w → Q' e a w) : ∀ (n : Nat) (a : Act) (W : World), Code.rounds P x Q n a W → Code.rounds P x Q' n a W := by
  intro n
  induction n with
  | zero => intro a W h; exact h
  | succ n ih =>
    intro a W h
    rw [rounds_succ] at h ⊢
    refine wp_mono h fun e a w q => ?_
    cases e <;> first | exact ih _ _ q | exact hq _ _ _ q

theorem stepF_ok {go : Code → List Value → Heap → Option (Ex × List Value × Heap)} (hlib : LibOk P ng lib) (hgo : ∀ c fr H ex fr' H', go c fr H = some (ex, fr', H') → CodeOk P ng c fr H ex fr' H') :
    ∀ f args H v H', stepF P lib go f args H = some (v, H') → CallOk P ng f args H v H' := by
  intro f args H v H' h
  unfold stepF at h
  split at h
  · rename_i g hg
    exact hlib f g hg args H v H' h
  · split at h
    · cases h
    · rename_i fn hfn
      split at h
      · cases h
      · rename_i c hc
        have key : ∀ ex fr, (ex = .normal ∨ ex = .ret) → go c (args ++ List.replicate (fn.ntmps - args.length) undef) H = some (ex, fr, H') → ∀ vs, ares P fr H' fn.results.toList = some vs → v = oneOf vs → CallOk P ng f args H v H' := by
          intro ex fr hex hrun vs hvs hv
          subst hv
          have hok := hgo _ _ _ _ _ _ hrun
          refine ⟨hok.dom, fun w0 μ E W args' hfree hglob hw hargs => ?_⟩
          unfold Calls2
          simp only [hfn, Option.bind_some, hc]
          refine calls_of_wp hfn hc ?_
          have hsz : args'.size = args.length := by have := hargs.1; simpa using this.symm
          have hf : FR [] μ (args ++ List.replicate (fn.ntmps - args.length) undef) { tmps := args' ++ Array.replicate (fn.ntmps - args'.size) undef, defers := [] } := by
            refine ⟨rfl, ?_⟩
            simp only [Array.toList_append, Array.toList_replicate, hsz]
            refine hargs.append ⟨rfl, fun i x y hx hy => ?_⟩
            rw [hx] at hy; cases hy
            have := List.eq_of_mem_replicate (List.mem_of_getElem? hx)
            rw [this]; exact VR.undef
          refine wp_mono (hok.wp [] w0 μ E W _ hf hfree hglob hw) fun e a W' hp => ?_
          obtain ⟨rfl, μ', p1, p2, p3, p4⟩ := hp
          obtain ⟨v', r1, r2⟩ := results_ok (LeG.ov H' E) p2 p4 hvs
          rcases hex with rfl | rfl
          · exact ⟨p2.1, v', r1, μ', v', rfl, p1, r2, p3, p4⟩
          · exact ⟨p2.1, v', r1, μ', v', rfl, p1, r2, p3, p4⟩
        split at h
        · rename_i fr H1 hrun
          split at h
          · rename_i vs hvs
            simp only [Option.some.injEq, Prod.mk.injEq] at h
            obtain ⟨h1, rfl⟩ := h
            exact key _ _ (.inl rfl) hrun vs hvs h1.symm
          · cases h
        · rename_i fr H1 hrun
          split at h
          · rename_i vs hvs
            simp only [Option.some.injEq, Prod.mk.injEq] at h
            obtain ⟨h1, rfl⟩ := h
            exact key _ _ (.inr rfl) hrun vs hvs h1.symm
          · cases h
        · cases h

set_option maxHeartbeats 1000000 in
/-- What the plain run says holds of the model's. -/
theorem runC_ok (hN : NoNum P) (hmix : P.follows .mixedOrders = true) (hlib : LibOk P ng lib) : ∀ n, (∀ c fr H ex fr' H', runC P ng lib n c fr H = some (ex, fr', H') → CodeOk P ng c fr H ex fr' H') ∧
    (∀ x fr H ex fr' H', runC P ng lib n (.loop x) fr H = some (ex, fr', H') → LoopOk P ng n x fr H ex fr' H') := by
  intro n
  induction n with
  | zero => exact ⟨fun c fr H ex fr' H' h => (by cases h), fun x fr H ex fr' H' h => (by cases h)⟩
  | succ n ih =>
    obtain ⟨ihc, ihl⟩ := ih
    have hcall := stepF_ok hlib ihc
    have loop : ∀ x fr H ex fr' H', runC P ng lib (n + 1) (.loop x) fr H = some (ex, fr', H') → LoopOk P ng (n + 1) x fr H ex fr' H' := by
      intro x fr H ex fr' H' h
      rw [runC_succ] at h
      simp only [stepC] at h
      split at h
      · rename_i fr1 H1 h1
        have hx := ihc _ _ _ _ _ _ h1
        have hl := ihl _ _ _ _ _ _ h
        refine ⟨hx.dom.trans hl.dom, fun ds w0 μ E W a hf hfree hg hw => ?_⟩
        rw [rounds_succ]
        refine wp_mono (hx.wp ds w0 μ E W a hf hfree hg hw) fun e a' W' hp => ?_
        obtain ⟨rfl, μ', p1, p2, p3, p4⟩ := hp
        exact rounds_mono (fun e a w q => q.trans p1 hx.dom.next) n a' W' (hl.rounds ds w0 μ' E W' a' p2 p3 (hg.ext p1.ext) p4)
      · rename_i hne
        have hx := ihc _ _ _ _ _ _ h
        refine ⟨hx.dom, fun ds w0 μ E W a hf hfree hg hw => ?_⟩
        rw [rounds_succ]
        refine wp_mono (hx.wp ds w0 μ E W a hf hfree hg hw) fun e a' W' hp => ?_
        obtain ⟨rfl, hp2⟩ := hp
        cases ex with
        | normal => exact absurd h (hne _ _)
        | exit id => exact ⟨rfl, hp2⟩
        | ret => exact ⟨rfl, hp2⟩
    refine ⟨?_, loop⟩
    intro c fr H ex fr' H' h
    have h0 := h
    rw [runC_succ] at h
    unfold stepC at h
    split at h
    · -- skip
      simp only [Option.some.injEq, Prod.mk.injEq] at h
      obtain ⟨rfl, rfl, rfl⟩ := h
      exact ⟨.refl _, fun ds w0 μ E W a hf hfree hg hw => wp_skip ⟨rfl, μ, .refl _ μ, hf, hfree, hw⟩⟩
    · -- a region
      rename_i id ops draw
      split at h
      · split at h
        · rename_i fr1 H1 h1
          simp only [Option.some.injEq, Prod.mk.injEq] at h
          obtain ⟨rfl, rfl, rfl⟩ := h
          refine ⟨(runO_dom hcall _ _ _ _ _ h1).1, fun ds w0 μ E W a hf hfree hg hw => wp_region_list ?_⟩
          exact runO_ok hN hcall ops.toList fr H fr1 H1 μ a W h1 hf hfree hg hw fun a' W' hp => ⟨rfl, hp⟩
        · cases h
      · split at h
        · rename_i fr1 H1 h1
          simp only [Option.some.injEq, Prod.mk.injEq] at h
          obtain ⟨rfl, rfl, rfl⟩ := h
          refine ⟨(runD_dom hcall h1).1, fun ds w0 μ E W a hf hfree hg hw => ?_⟩
          exact runD_ok hN hmix hcall h1 hf hfree hg hw fun a' W' hp => ⟨rfl, hp⟩
        · cases h
    · -- one behind the other
      rename_i x y
      split at h
      · rename_i fr1 H1 h1
        have hx := ihc _ _ _ _ _ _ h1
        have hy := ihc _ _ _ _ _ _ h
        refine ⟨hx.dom.trans hy.dom, fun ds w0 μ E W a hf hfree hg hw => wp_seq ?_⟩
        refine wp_mono (hx.wp ds w0 μ E W a hf hfree hg hw) fun e a' W' hp => ?_
        obtain ⟨rfl, μ', p1, p2, p3, p4⟩ := hp
        exact wp_mono (hy.wp ds w0 μ' E W' a' p2 p3 (hg.ext p1.ext) p4) fun e a w q => q.trans p1 hx.dom.next
      · rename_i hne
        have hx := ihc _ _ _ _ _ _ h
        refine ⟨hx.dom, fun ds w0 μ E W a hf hfree hg hw => wp_seq ?_⟩
        refine wp_mono (hx.wp ds w0 μ E W a hf hfree hg hw) fun e a' W' hp => ?_
        obtain ⟨rfl, hp2⟩ := hp
        cases ex with
        | normal => exact absurd h (hne _ _)
        | exit id => exact ⟨rfl, hp2⟩
        | ret => exact ⟨rfl, hp2⟩
    · -- a test
      rename_i b x y
      split at h
      · cases h
      · rename_i hb
        split at h
        · rename_i e
          have hx := ihc _ _ _ _ _ _ h
          refine ⟨hx.dom, fun ds w0 μ E W a hf hfree hg hw => ?_⟩
          have h1 := hf.ev hg hb
          rw [e] at h1
          exact wp_cond_true (flat1_eq rfl h1) (hx.wp ds w0 μ E W a hf hfree hg hw)
        · rename_i e
          have hx := ihc _ _ _ _ _ _ h
          refine ⟨hx.dom, fun ds w0 μ E W a hf hfree hg hw => ?_⟩
          have h1 := hf.ev hg hb
          rw [e] at h1
          exact wp_cond_false (flat1_eq rfl h1) (hx.wp ds w0 μ E W a hf hfree hg hw)
        · cases h
    · -- a block
      rename_i id x
      split at h
      · rename_i id' fr1 H1 h1
        have hx := ihc _ _ _ _ _ _ h1
        split at h
        · rename_i hb
          simp only [Option.some.injEq, Prod.mk.injEq] at h
          obtain ⟨rfl, rfl, rfl⟩ := h
          have e1 := Nat.eq_of_beq_eq_true hb
          subst e1
          refine ⟨hx.dom, fun ds w0 μ E W a hf hfree hg hw => wp_block ?_⟩
          refine wp_mono (hx.wp ds w0 μ E W a hf hfree hg hw) fun e a' W' hp => ?_
          obtain ⟨rfl, hp2⟩ := hp
          simp only [Ex.toExit, Exit.inBlock, if_true]
          exact ⟨rfl, hp2⟩
        · rename_i hb
          simp only [Option.some.injEq, Prod.mk.injEq] at h
          obtain ⟨rfl, rfl, rfl⟩ := h
          have e1 := Nat.ne_of_beq_eq_false hb
          refine ⟨hx.dom, fun ds w0 μ E W a hf hfree hg hw => wp_block ?_⟩
          refine wp_mono (hx.wp ds w0 μ E W a hf hfree hg hw) fun e a' W' hp => ?_
          obtain ⟨rfl, hp2⟩ := hp
          simp only [Ex.toExit, Exit.inBlock, if_neg e1]
          exact ⟨rfl, hp2⟩
      · rename_i hne
        have hx := ihc _ _ _ _ _ _ h
        refine ⟨hx.dom, fun ds w0 μ E W a hf hfree hg hw => wp_block ?_⟩
        refine wp_mono (hx.wp ds w0 μ E W a hf hfree hg hw) fun e a' W' hp => ?_
        obtain ⟨rfl, hp2⟩ := hp
        cases ex with
        | normal => exact ⟨rfl, hp2⟩
        | exit id => exact absurd h (hne _ _ _)
        | ret => exact ⟨rfl, hp2⟩
    · -- a loop
      have hl := loop _ _ _ _ _ _ h0
      exact ⟨hl.dom, fun ds w0 μ E W a hf hfree hg hw => wp_loop_rounds (n + 1) (hl.rounds ds w0 μ E W a hf hfree hg hw)⟩
    · simp only [Option.some.injEq, Prod.mk.injEq] at h
      obtain ⟨rfl, rfl, rfl⟩ := h
      exact ⟨.refl _, fun ds w0 μ E W a hf hfree hg hw => wp_exit ⟨rfl, μ, .refl _ μ, hf, hfree, hw⟩⟩
    · simp only [Option.some.injEq, Prod.mk.injEq] at h
      obtain ⟨rfl, rfl, rfl⟩ := h
      exact ⟨.refl _, fun ds w0 μ E W a hf hfree hg hw => wp_ret ⟨rfl, μ, .refl _ μ, hf, hfree, hw⟩⟩
    · cases h

theorem runF_ok (hN : NoNum P) (hmix : P.follows .mixedOrders = true) (hlib : LibOk P ng lib) (n f : Nat) (args : List Value) (H : Heap) (v : Value) (H' : Heap) (h : runF P ng lib n f args H = some (v, H')) : CallOk P ng f args H v H' :=
  stepF_ok hlib (runC_ok hN hmix hlib n).1 f args H v H' h
end
end Go.Proofs.Ytdcojinnjpihaaa.X
