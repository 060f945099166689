/- What is told of functions that the plain run does not enter: those without a body, and those of which a contract is known. No condition. -/
import Derived.Test.YtdcojinnjpihaaaXAbsDefer
import Derived.Test.YtdcojinnjpihaaaXAbsTop
import Derived.Laws.LoneSync
import Derived.Lib.Repeat
namespace Go.Proofs.Ytdcojinnjpihaaa.X
open Go Go.RowKit

abbrev LibF := List Value → Heap → Option (Value × Heap)

def gLoad (k : IntKind) : LibF := fun args H => match args with
  | [.pointer (some ⟨b, o, none⟩)] => match H.get b with
    | some (.row c _) => match c[o]? with
      | some (.int k' n) => match beqK k' k with
        | true => some (.int k' n, H)
        | false => none
      | _ => none
    | _ => none
  | _ => none

def gStore : LibF := fun args H => match args with
  | [.pointer (some ⟨b, o, none⟩), .int k y] => match H.get b with
    | some (.row c e) => match c[o]? with
      | some _ => some (.tuple #[], H.put b (.row (putL c o [.int k y]) e))
      | none => none
    | _ => none
  | _ => none

def gAdd (k : IntKind) : LibF := fun args H => match args with
  | [.pointer (some ⟨b, o, none⟩), .int k1 y] => match H.get b with
    | some (.row c e) => match c[o]? with
      | some (.int k2 x) => match beqK k1 k && beqK k2 k with
        | true => some (.int k (k.wrap (x + y)), H.put b (.row (putL c o [.int k (k.wrap (x + y))]) e))
        | false => none
      | _ => none
    | _ => none
  | _ => none

def gCas (k : IntKind) : LibF := fun args H => match args with
  | [.pointer (some ⟨b, o, none⟩), .int k1 y, .int k2 z] => match H.get b with
    | some (.row c e) => match c[o]? with
      | some (.int k3 x) => match beqK k1 k && beqK k2 k && beqK k3 k with
        | true => match decide (x = y) with
          | true => some (.bool true, H.put b (.row (putL c o [.int k z]) e))
          | false => some (.bool false, H)
        | false => none
      | _ => none
    | _ => none
  | _ => none

def gMark0 : LibF := fun args H => match args with
  | [] => some (.tuple #[], H)
  | _ => none

def gMark1 : LibF := fun args H => match args with
  | [.pointer (some _)] => some (.tuple #[], H)
  | _ => none

def gSame : LibF := fun args H => match args with
  | [x] => some (x, H)
  | _ => none

def gRepeat : LibF := fun args H => match args with
  | [.string s, .int .i64 (.ofNat c)] => match Nat.ble c 9223372036854775807 && Nat.ble (s.data.toList.length * c) 140737488355328 with
    | true => some (.string ⟨⟨Lib.repeatL s.data.toList c⟩⟩, H)
    | false => none
  | _ => none

section
variable {P : Program} {ng : Nat} {w0 W : World} {μ : Nat → Option Loc} {G : Nat → Option AObj}

/-- Nothing that lay there is touched. -/
theorem HR.of_below (h : HR P w0 μ G W) {W' : World} (hb : Below W.heap.size W W') : HR P w0 μ G W' := by
  have hold : ∀ b o, W.heap[b]? = some o → W'.heap[b]? = some o := fun b o hq => (hb.block b (wlt hq)).trans hq
  refine ⟨⟨hb.os.trans h.below.os, hb.tape.trans h.below.tape, hb.output.trans h.below.output, Nat.le_trans h.below.size hb.size, fun i hi => (hb.block i (Nat.lt_of_lt_of_le hi h.below.size)).trans (h.below.block i hi)⟩, ?_, h.ro, h.inj, ?_, h.minj⟩
  · intro k c e hk
    obtain ⟨l, C, fr, q1, q2, q3, q4⟩ := h.row k c e hk
    exact ⟨l, C, fr, q1, q2, hold _ _ q3, q4⟩
  · intro k es cl hk
    obtain ⟨l, es', q1, q2, q3, q4⟩ := h.mp k es cl hk
    exact ⟨l, es', q1, q2, hold _ _ q3, q4⟩

/-- A contract of values. -/
theorem callOk_below {f : Nat} {args : List Value} {H : Heap} {v : Value} (hbody : ((P.funcs[f]?).bind (·.body)).isSome = true) (ha : args.all flat = true) (hv : flat v = true)
    (h : ∀ W, Calls P f args.toArray W fun e W' => e = .returned v ∧ Below W.heap.size W W') : CallOk P ng f args H v H := by
  refine ⟨.refl _, fun w0 μ E W args' hfree hg hw hargs => ?_⟩
  have hargs' : args' = args.toArray := by
    apply Array.ext'
    have key : ∀ (xs ys : List Value), xs.all flat = true → VL μ xs ys → ys = xs := by
      intro xs
      induction xs with
      | nil => intro ys _ hl; exact hl.inv_nil
      | cons x r ih =>
        intro ys ha hl
        obtain ⟨y, ys', rfl, h1, h2⟩ := hl.inv_cons
        simp only [List.all_cons, Bool.and_eq_true] at ha
        rw [flat_eq ha.1 h1, ih _ ha.2 h2]
    simpa using key _ _ ha hargs
  subst hargs'
  unfold Calls2
  cases hq : (P.funcs[f]?).bind (·.body) with
  | none => rw [hq] at hbody; cases hbody
  | some c =>
    refine (h W).mono ?_
    rintro e W' ⟨rfl, hb⟩
    exact ⟨μ, v, rfl, .refl _ _, flat_rel hv, hfree, hw.of_below hb⟩

def valsEq : List Value → List Value → Bool
  | [], [] => true
  | x :: r, y :: s => veq1 x y && valsEq r s
  | _, _ => false

theorem valsEq_eq : ∀ {x y : List Value}, valsEq x y = true → x = y
  | [], [], _ => rfl
  | [], _ :: _, h => by simp [valsEq] at h
  | _ :: _, [], h => by simp [valsEq] at h
  | x :: r, y :: s, h => by
    simp only [valsEq, Bool.and_eq_true] at h
    rw [veq1_eq h.1, valsEq_eq h.2]

/-- A contract of values that looks at a package table. -/
theorem callOk_belowT {f : Nat} {args : List Value} {H : Heap} {v : Value} (hbody : ((P.funcs[f]?).bind (·.body)).isSome = true) (ha : args.all flat = true) (hv : flat v = true)
    {g : Nat} {c : List Value} {e : Nat} (hk : H.get g = some (.ro c e)) (hlt : g < ng) (hc : c.all flat1 = true)
    (h : ∀ W, CA W g 0 c.toArray → Calls P f args.toArray W fun e W' => e = .returned v ∧ Below W.heap.size W W') : CallOk P ng f args H v H := by
  refine ⟨.refl _, fun w0 μ E W args' hfree hg hw hargs => ?_⟩
  have hargs' : args' = args.toArray := by
    apply Array.ext'
    have key : ∀ (xs ys : List Value), xs.all flat = true → VL μ xs ys → ys = xs := by
      intro xs
      induction xs with
      | nil => intro ys _ hl; exact hl.inv_nil
      | cons x r ih =>
        intro ys ha hl
        obtain ⟨y, ys', rfl, h1, h2⟩ := hl.inv_cons
        simp only [List.all_cons, Bool.and_eq_true] at ha
        rw [flat_eq ha.1 h1, ih _ ha.2 h2]
    simpa using key _ _ ha hargs
  subst hargs'
  have hCA : CA W g 0 c.toArray := by
    intro m u hu
    have hu : c[m]? = some u := by simpa using hu
    obtain ⟨l, h1, h2, _, h4⟩ := hw.ro g c e (ov_get hk)
    obtain ⟨l', q1, q2, q3⟩ := hg g hlt
    rw [h1] at q1; cases q1
    obtain ⟨y, r1, r2⟩ := h4 m u hu
    rw [flat1_eq (List.all_eq_true.mp hc u (List.mem_of_getElem? hu)) r2] at r1
    rw [q2, q3] at r1
    rw [hw.below.cell (p := ⟨g, 0 + m, none⟩) (by rw [← q2]; exact h2)]
    exact r1
  unfold Calls2
  cases hq : (P.funcs[f]?).bind (·.body) with
  | none => rw [hq] at hbody; cases hbody
  | some c =>
    refine (h W hCA).mono ?_
    rintro e W' ⟨rfl, hb⟩
    exact ⟨μ, v, rfl, .refl _ _, flat_rel hv, hfree, hw.of_below hb⟩

/-- A function without a body. -/
theorem callOk_ext {f : Nat} (hb : (P.funcs[f]?).bind (·.body) = none) {args : List Value} {H H' : Heap} {v : Value} (hd : Dom H H')
    (h : ∀ (w0 : World) (μ : Nat → Option Loc) (E : Nat → Option AObj) (W : World) (args' : List Value), HR P w0 μ (ov H E) W → VL μ args args' → ∃ v' W', (callFunc f args'.toArray).run P W = .ok (.value v') W' ∧ VR μ v v' ∧ HR P w0 μ (ov H' E) W') : CallOk P ng f args H v H' := by
  refine ⟨hd, fun w0 μ E W args' hfree hg hw hargs => ?_⟩
  unfold Calls2
  rw [hb]
  obtain ⟨v', W', h1, h2, h3⟩ := h w0 μ E W args'.toList hw hargs
  rw [Array.toArray_toList] at h1
  exact ⟨v', W', h1, μ, v', rfl, .refl _ _, h2, fun k hk => hfree k (Nat.le_trans hd.next hk), h3⟩

/-- A cell of a row, behind the renaming. -/
theorem HR.cell_row (h : HR P w0 μ G W) {b o : Nat} {c : List Value} {e : Nat × Bool} {x : Value} (hk : G b = some (.row c e)) (hx : c[o]? = some x) {y : Value} (hy : VR μ (.pointer (some ⟨b, o, none⟩)) y) :
    ∃ l, μ b = some l ∧ y = .pointer (some ⟨l.b, l.p + o, none⟩) ∧ W.frozen? ⟨l.b, l.p + o, none⟩ = false ∧ ∃ x', W.cell? ⟨l.b, l.p + o, none⟩ = some x' ∧ VR μ x x' := by
  cases hy with
  | ptr hm =>
    rename_i l
    obtain ⟨l', C, fr, q1, q2, q3, q4, q5, ⟨_, q6, _⟩, q7⟩ := h.row b c e hk
    rw [hm] at q1; cases q1
    have ho : o < c.length := (List.getElem?_eq_some_iff.1 hx).1
    obtain ⟨x', h1, h2⟩ := h.cell (k := b) (c := c) (by simp [cellsAt, hk]) hm hx
    exact ⟨l, hm, rfl, (h.room hk hm (i := l.p + o) (by omega)).2, x', h1, h2⟩

theorem HR.write1 (h : HR P w0 μ G W) {b o : Nat} {l : Loc} {c : List Value} {e : Nat × Bool} {x v v' : Value} (hk : G b = some (.row c e)) (hm : μ b = some l) (hx : c[o]? = some x) (hv : VR μ v v') :
    HR P w0 μ (upd G b (.row (putL c o [v]) e)) (W.setCell ⟨l.b, l.p + o, none⟩ v') := by
  have ho : o < c.length := (List.getElem?_eq_some_iff.1 hx).1
  exact h.write (vs := [v]) (vs' := [v']) hk hm (by simp; omega) (.cons hv .nil)

variable {f : Nat} {fn : Func}

theorem body_none (hf : P.funcs[f]? = some fn) (hb : fn.body.isNone = true) : (P.funcs[f]?).bind (·.body) = none := by
  rw [hf]; simpa using hb

theorem gLoad_ok (k : IntKind) (hf : P.funcs[f]? = some fn) (hname : (fn.name == "runtime.NumGoroutine") = false) (hb : fn.body.isNone = true) (hn : Extern.findNext fn = none)
    (he : Extern.find fn = some (Extern.Atomic.loadT (.int k))) {args : List Value} {H H' : Heap} {v : Value} (h : gLoad k args H = some (v, H')) : CallOk P ng f args H v H' := by
  unfold gLoad at h
  split at h
  · rename_i b o
    split at h
    · rename_i c e hk
      split at h
      · rename_i k' n hx
        split at h
        · rename_i hkk
          obtain rfl := beqK_eq hkk
          cases h
          refine callOk_ext (body_none hf hb) (.refl _) fun w0 μ E W args' hw hargs => ?_
          obtain ⟨y, ys, rfl, hy, hys⟩ := hargs.inv_cons
          obtain rfl := hys.inv_nil
          obtain ⟨l, h1, rfl, h3, x', h4, h5⟩ := hw.cell_row (ov_get hk) hx hy
          cases h5
          exact ⟨_, W, run_call_load hf hname hb hn k' he h4, .int _ _, hw⟩
        · cases h
      · cases h
    · cases h
  · cases h

theorem gStore_ok (hf : P.funcs[f]? = some fn) (hname : (fn.name == "runtime.NumGoroutine") = false) (hb : fn.body.isNone = true) (hn : Extern.findNext fn = none)
    (he : Extern.find fn = some Extern.Atomic.storeT) {args : List Value} {H H' : Heap} {v : Value} (h : gStore args H = some (v, H')) : CallOk P ng f args H v H' := by
  unfold gStore at h
  split at h
  · rename_i b o k y
    split at h
    · rename_i c e hk
      split at h
      · rename_i x hx
        cases h
        refine callOk_ext (body_none hf hb) (.put _ _ _) fun w0 μ E W args' hw hargs => ?_
        obtain ⟨p, ys, rfl, hy, hys⟩ := hargs.inv_cons
        obtain ⟨q, ys, rfl, hq, hys⟩ := hys.inv_cons
        obtain rfl := hys.inv_nil
        cases hq
        obtain ⟨l, h1, rfl, h3, x', h4, h5⟩ := hw.cell_row (ov_get hk) hx hy
        refine ⟨_, _, run_call_store hf hname hb hn he h4 h3, flat_rel rfl, ?_⟩
        rw [ov_put]
        exact hw.write1 (ov_get hk) h1 hx (.int _ _)
      · cases h
    · cases h
  · cases h

theorem gAdd_ok (k : IntKind) (hf : P.funcs[f]? = some fn) (hname : (fn.name == "runtime.NumGoroutine") = false) (hb : fn.body.isNone = true) (hn : Extern.findNext fn = none)
    (he : Extern.find fn = some (Extern.Atomic.update (Op.intArith .add) k true)) {args : List Value} {H H' : Heap} {v : Value} (h : gAdd k args H = some (v, H')) : CallOk P ng f args H v H' := by
  unfold gAdd at h
  split at h
  · rename_i b o k1 y
    split at h
    · rename_i c e hk
      split at h
      · rename_i k2 x hx
        split at h
        · rename_i hkk
          simp only [Bool.and_eq_true] at hkk
          obtain rfl := beqK_eq hkk.1
          obtain rfl := beqK_eq hkk.2
          cases h
          refine callOk_ext (body_none hf hb) (.put _ _ _) fun w0 μ E W args' hw hargs => ?_
          obtain ⟨p, ys, rfl, hy, hys⟩ := hargs.inv_cons
          obtain ⟨q, ys, rfl, hq, hys⟩ := hys.inv_cons
          obtain rfl := hys.inv_nil
          cases hq
          obtain ⟨l, h1, rfl, h3, x', h4, h5⟩ := hw.cell_row (ov_get hk) hx hy
          cases h5
          refine ⟨_, _, run_call_add hf hname hb hn k2 he h4 h3 (s := k2.wrap (x + y)) (by simp [Op.intArith]), .int _ _, ?_⟩
          rw [ov_put]
          exact hw.write1 (ov_get hk) h1 hx (.int _ _)
        · cases h
      · cases h
    · cases h
  · cases h

theorem gCas_ok (k : IntKind) (hf : P.funcs[f]? = some fn) (hname : (fn.name == "runtime.NumGoroutine") = false) (hb : fn.body.isNone = true) (hn : Extern.findNext fn = none)
    (he : Extern.find fn = some (Extern.Atomic.casT (.int k))) {args : List Value} {H H' : Heap} {v : Value} (h : gCas k args H = some (v, H')) : CallOk P ng f args H v H' := by
  unfold gCas at h
  split at h
  · rename_i b o k1 y k2 z
    split at h
    · rename_i c e hk
      split at h
      · rename_i k3 x hx
        split at h
        · rename_i hkk
          simp only [Bool.and_eq_true] at hkk
          obtain rfl := beqK_eq hkk.1.1
          obtain rfl := beqK_eq hkk.1.2
          obtain rfl := beqK_eq hkk.2
          split at h
          · rename_i hxy
            have hxy := of_decide_eq_true hxy
            subst hxy
            cases h
            refine callOk_ext (body_none hf hb) (.put _ _ _) fun w0 μ E W args' hw hargs => ?_
            obtain ⟨p, ys, rfl, hy, hys⟩ := hargs.inv_cons
            obtain ⟨q, ys, rfl, hq, hys⟩ := hys.inv_cons
            obtain ⟨q2, ys, rfl, hq2, hys⟩ := hys.inv_cons
            obtain rfl := hys.inv_nil
            cases hq; cases hq2
            obtain ⟨l, h1, rfl, h3, x', h4, h5⟩ := hw.cell_row (ov_get hk) hx hy
            cases h5
            refine ⟨_, _, run_call_cas_hit hf hname hb hn k3 he h4 h3, .bool _, ?_⟩
            rw [ov_put]
            exact hw.write1 (ov_get hk) h1 hx (.int _ _)
          · rename_i hxy
            have hxy := of_decide_eq_false hxy
            cases h
            refine callOk_ext (body_none hf hb) (.refl _) fun w0 μ E W args' hw hargs => ?_
            obtain ⟨p, ys, rfl, hy, hys⟩ := hargs.inv_cons
            obtain ⟨q, ys, rfl, hq, hys⟩ := hys.inv_cons
            obtain ⟨q2, ys, rfl, hq2, hys⟩ := hys.inv_cons
            obtain rfl := hys.inv_nil
            cases hq; cases hq2
            obtain ⟨l, h1, rfl, h3, x', h4, h5⟩ := hw.cell_row (ov_get hk) hx hy
            cases h5
            exact ⟨_, _, run_call_cas_miss hf hname hb hn k3 he h4 h3 hxy, .bool _, hw⟩
        · cases h
      · cases h
    · cases h
  · cases h

theorem gMark0_ok (m : Mark) (hf : P.funcs[f]? = some fn) (hname : (fn.name == "runtime.NumGoroutine") = false) (hb : fn.body.isNone = true) (hn : Extern.findNext fn = none)
    (he : Extern.find fn = some (fun _ => do mark m; pure Extern.Race.none_)) {args : List Value} {H H' : Heap} {v : Value} (h : gMark0 args H = some (v, H')) : CallOk P ng f args H v H' := by
  unfold gMark0 at h
  split at h
  · cases h
    refine callOk_ext (body_none hf hb) (.refl _) fun w0 μ E W args' hw hargs => ?_
    obtain rfl := hargs.inv_nil
    exact ⟨_, _, run_call_mark0 hf hname hb hn m he W, flat_rel rfl, hw⟩
  · cases h

theorem gMark1_ok (m : Addr → Mark) (hf : P.funcs[f]? = some fn) (hname : (fn.name == "runtime.NumGoroutine") = false) (hb : fn.body.isNone = true) (hn : Extern.findNext fn = none)
    (he : Extern.find fn = some (Extern.Race.marked m)) {args : List Value} {H H' : Heap} {v : Value} (h : gMark1 args H = some (v, H')) : CallOk P ng f args H v H' := by
  unfold gMark1 at h
  split at h
  · rename_i a
    cases h
    refine callOk_ext (body_none hf hb) (.refl _) fun w0 μ E W args' hw hargs => ?_
    obtain ⟨p, ys, rfl, hy, hys⟩ := hargs.inv_cons
    obtain rfl := hys.inv_nil
    obtain ⟨a', rfl⟩ := hy.ptr_inv
    exact ⟨_, _, run_call_marked hf hname hb hn m he a' W, flat_rel rfl, hw⟩
  · cases h

theorem gSame_ok (hf : P.funcs[f]? = some fn) (hname : (fn.name == "runtime.NumGoroutine") = false) (hb : fn.body.isNone = true) (hn : Extern.findNext fn = none)
    (he : Extern.find fn = some Extern.AbiNoEscape.same) {args : List Value} {H H' : Heap} {v : Value} (h : gSame args H = some (v, H')) : CallOk P ng f args H v H' := by
  unfold gSame at h
  split at h
  · rename_i x
    cases h
    refine callOk_ext (body_none hf hb) (.refl _) fun w0 μ E W args' hw hargs => ?_
    obtain ⟨p, ys, rfl, hy, hys⟩ := hargs.inv_cons
    obtain rfl := hys.inv_nil
    refine ⟨p, W, ?_, hy, hw⟩
    rw [run_callFunc_extern hf hname hb hn he]
    rfl
  · cases h

theorem gRepeat_ok (hbody : ((P.funcs[f]?).bind (·.body)).isSome = true)
    (hrep : ∀ (s : ByteArray) (c : Nat) (w : World), c ≤ 9223372036854775807 → s.size * c ≤ 140737488355328 → Calls P f #[.string s, .int .i64 c] w fun e w' => e = .returned (.string ⟨(Lib.repeatL s.data.toList c).toArray⟩) ∧ Below w.heap.size w w')
    {args : List Value} {H H' : Heap} {v : Value} (h : gRepeat args H = some (v, H')) : CallOk P ng f args H v H' := by
  unfold gRepeat at h
  split at h
  · rename_i s c
    split at h
    · rename_i hb
      simp only [Bool.and_eq_true] at hb
      cases h
      have h1 := Nat.le_of_ble_eq_true hb.1
      have h2 := Nat.le_of_ble_eq_true hb.2
      have h3 : s.data.toList.length = s.size := by rw [Array.length_toList]; rfl
      rw [h3] at h2
      exact callOk_below hbody rfl rfl fun W => hrep s c W h1 h2
    · cases h
  · cases h

/-- A function that defers, over what is told of others. -/
theorem gDefer_ok (hN : noNumB P = true) (hmix : P.follows .mixedOrders = true) {lib : Nat → Option LibF} (hlib : LibOk P ng lib) {n : Nat} {args : List Value} {H H' : Heap} {v : Value} (h : runTF P ng lib n f args H = some (v, H')) : CallOk P ng f args H v H' :=
  runTF_ok (noNum_of hN) hmix hlib n f args H v H' h
end

/-- A list of what is told. -/
def libOf : List (Nat × LibF) → Nat → Option LibF
  | [], _ => none
  | (g, x) :: r, f => match Nat.beq f g with
    | true => some x
    | false => libOf r f

theorem libOf_ok {P : Program} {ng : Nat} : ∀ {l : List (Nat × LibF)}, (∀ p ∈ l, ∀ args H v H', p.2 args H = some (v, H') → CallOk P ng p.1 args H v H') → LibOk P ng (libOf l) := by
  intro l
  induction l with
  | nil => intro _ f g h; cases h
  | cons p r ih =>
    intro hl f g h args H v H' hr
    obtain ⟨q, x⟩ := p
    simp only [libOf] at h
    split at h
    · rename_i hb
      cases h
      obtain rfl := Nat.eq_of_beq_eq_true hb
      exact hl _ List.mem_cons_self _ _ _ _ hr
    · exact ih (fun p hp => hl p (List.mem_cons_of_mem _ hp)) f g h args H v H' hr
end Go.Proofs.Ytdcojinnjpihaaa.X
