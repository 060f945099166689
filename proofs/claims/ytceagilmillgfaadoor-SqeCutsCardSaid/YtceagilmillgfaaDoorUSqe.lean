/- The entries of layer 25: what is put. No condition. -/
import Derived.Test.YtceagilmillgfaaDoorULittle
import Derived.KernelRfl
import Derived.Test.YtceagilmillgfaaDoorF44
import Derived.Test.YtceagilmillgfaaDoorF42
import Derived.Test.YtceagilmillgfaaDoorF43
import Derived.Test.YtceagilmillgfaaDoorF13
import Derived.Test.YtceagilmillgfaaDoorF15
import Derived.Test.YtceagilmillgfaaDoorF14
import Derived.Test.YtceagilmillgfaaDoorF16
import Derived.Test.YtceagilmillgfaaDoorF45
namespace Go.Proofs.YtceagilmillgfaaDoor.F
open Go Go.RowKit Go.Proofs.YtceagilmillgfaaDoor.X
set_option linter.unusedVariables false
set_option linter.unusedSimpArgs false

theorem nums_append (l m : List Int) : strOfNums l ++ strOfNums m = strOfNums (l ++ m) := by
  apply ByteArray.ext
  simp [strOfNums, ByteArray.data_append]
theorem nums_left (l : List Int) (n : Nat) : (strOfNums l).extract 0 n = strOfNums (l.take n) := by
  apply ByteArray.ext
  simp [strOfNums, ByteArray.data_extract, List.map_take]
theorem nums_right (l : List Int) (n m : Nat) (hm : m = l.length) : (strOfNums l).extract n m = strOfNums (l.drop n) := by
  apply ByteArray.ext
  subst hm
  simp [strOfNums, ByteArray.data_extract, List.map_drop]
  exact List.take_of_length_le (by simp)
def setL (l : List Int) (p : Nat) (m : List Int) : List Int := l.take p ++ m ++ l.drop (p + m.length)
theorem setL_length (l : List Int) (p : Nat) (m : List Int) (h : p + m.length ≤ l.length) : (setL l p m).length = l.length := by
  simp [setL]; omega
theorem fields_Set.is (l m : List Int) (p : Int) (h0 : 0 ≤ p) (h : p + m.length ≤ l.length) (hl : l.length ≤ 1000000) : fields_Set.f (strOfNums l) p (strOfNums m) = some (strOfNums (setL l p.toNat m), true) := by
  unfold fields_Set.f
  have e1 : IntKind.wrap .i64 ((l.length : Int) - (m.length : Int)) = (l.length : Int) - m.length := by rw [wi] <;> omega
  have e2 : IntKind.wrap .i64 (p + (m.length : Int)) = p + m.length := by rw [wi] <;> omega
  have s1 : ((strOfNums l).extract 0 p.toNat).size = p.toNat := by rw [nums_left, strOfNums_size, List.length_take]; omega
  simp only [strOfNums_size, e1, e2]
  rw [if_neg (by omega), if_neg (by omega), if_neg (by omega), asrt_pos (by omega), asrt_pos (by omega), asrt_pos (by rw [s1]; omega), asrt_pos (by omega), asrt_pos (by omega), asrt_pos ?_]
  · rw [nums_left, nums_right _ _ _ rfl, nums_append, nums_append]
    unfold setL
    rw [show (p + (m.length : Int)).toNat = p.toNat + m.length by omega]
  · rw [ByteArray.size_append, s1, nums_right _ _ _ rfl, strOfNums_size, strOfNums_size, List.length_drop]
    omega

def putS : List T_sqe_field → List Int → List Int → ByteArray × Bool
  | f :: fs, v :: vs, l => if v ≥ f.f2 then (⟨#[]⟩, false) else putS fs vs (setL l f.f0.toNat (ltB v f.f1.toNat))
  | _, _, l => (strOfNums l, true)

def fieldOk (n : Nat) (f : T_sqe_field) : Prop := 0 ≤ f.f0 ∧ 1 ≤ f.f1 ∧ f.f1 ≤ 8 ∧ f.f0 + f.f1 ≤ n

theorem rdL_at {α : Type} (d : α) (xs : List α) (i : Nat) (h : i < xs.length) : rdL d xs (i : Int) = xs[i] := by
  unfold rdL
  rw [List.getD_eq_getElem?_getD, Int.toNat_natCast, List.getElem?_eq_getElem h]; rfl

theorem sqe_put_loop (fs : List T_sqe_field) (vs : List Int) (hl : vs.length = fs.length) (n : Nat) (hn : n ≤ 1000000) (hf : ∀ f ∈ fs, fieldOk n f) (hv : ∀ v ∈ vs, 0 ≤ v) (hs : fs.length ≤ 1000000) : ∀ (m K j : Nat) (l : List Int), m ≤ fs.length → l.length = n →
    sqe_put.l0 (K + 9) fs vs (m + 1 + j) (strOfNums l) ((fs.length : Int) - m) = some (putS (fs.drop (fs.length - m)) (vs.drop (fs.length - m)) l) := by
  intro m
  induction m with
  | zero =>
    intro K j l h hl'
    rw [show 0 + 1 + j = j + 1 by omega, sqe_put.l0]
    unfold sqe_put.b0
    rw [if_neg (by omega), List.drop_of_length_le (by omega)]
    rfl
  | succ m ih =>
    intro K j l h hl'
    have e0 : (fs.length : Int) - ((m + 1 : Nat) : Int) = ((fs.length - (m + 1) : Nat) : Int) := by omega
    have e1 : IntKind.wrap .i64 (((fs.length - (m + 1) : Nat) : Int) + 1) = (fs.length : Int) - m := by rw [wi] <;> omega
    have d1 : fs.drop (fs.length - (m + 1)) = fs[fs.length - (m + 1)] :: fs.drop (fs.length - m) := by
      rw [List.drop_eq_getElem_cons (by omega)]; congr 2; omega
    have d2 : vs.drop (fs.length - (m + 1)) = vs[fs.length - (m + 1)] :: vs.drop (fs.length - m) := by
      rw [List.drop_eq_getElem_cons (by omega)]; congr 2; omega
    rw [show m + 1 + 1 + j = (m + 1 + j) + 1 by omega, sqe_put.l0]
    unfold sqe_put.b0
    rw [e0, if_pos (by omega), asrt_pos (by omega), asrt_pos (by omega), rdL_at _ _ _ (by omega), rdL_at _ _ _ (by omega), e1, d1, d2, putS]
    have hf' := hf fs[fs.length - (m + 1)] (List.getElem_mem _)
    have hv' := hv vs[fs.length - (m + 1)] (List.getElem_mem _)
    generalize fs[fs.length - (m + 1)] = f at hf'
    generalize vs[fs.length - (m + 1)] = v at hv'
    obtain ⟨h1, h2, h3, h4⟩ := hf'
    by_cases c : v ≥ f.f2
    · rw [if_pos c, if_pos c]
    · rw [if_neg c, if_neg c]
      have p := fields_PutLittle.is v hv' f.f1.toNat K (by omega) (by omega)
      rw [show ((f.f1.toNat : Nat) : Int) = f.f1 by omega] at p
      rw [p, Option.bind_some, fields_Set.is l _ f.f0 h1 (by rw [ltB_length]; omega) (by omega), Option.bind_some]
      exact ih K j _ (by omega) (by rw [setL_length _ _ _ (by rw [ltB_length]; omega)]; exact hl')

theorem sqe_put.is (n : Nat) (fs : List T_sqe_field) (vs : List Int) (hl : vs.length = fs.length) (hn : n ≤ 1000000) (hf : ∀ f ∈ fs, fieldOk n f) (hv : ∀ v ∈ vs, 0 ≤ v) (K : Nat) (hK : fs.length < K + 9) (hs : fs.length ≤ 1000000) :
    sqe_put.f (K + 9) (n : Int) fs vs = some (putS fs vs (List.replicate n 0)) := by
  unfold sqe_put.f
  rw [asrt_pos (by omega), asrt_pos (by omega)]
  have := sqe_put_loop fs vs hl n hn hf hv hs fs.length K (K + 9 - 1 - fs.length) (List.replicate n 0) (Nat.le_refl _) (by simp)
  rw [show fs.length + 1 + (K + 9 - 1 - fs.length) = K + 9 by omega] at this
  simpa using this

theorem fieldsFor_sq (k : Nat) : sqe_fieldsFor.f (k + 20) false = some G_sqe_fieldsOf := by kernel_rfl
theorem fieldsFor_cq (k : Nat) : sqe_fieldsFor.f (k + 20) true = some G_sqe_endsOf := by kernel_rfl
theorem fieldsOf_ok : ∀ f ∈ G_sqe_fieldsOf, fieldOk 64 f := by
  unfold G_sqe_fieldsOf fieldOk
  simp
theorem endsOf_ok : ∀ f ∈ G_sqe_endsOf, fieldOk 16 f := by
  unfold G_sqe_endsOf fieldOk
  simp

def sqeV (x : T_api_Sqe) : List Int := [IntKind.wrap .u64 x.f0, IntKind.wrap .u64 x.f1, IntKind.wrap .u64 x.f2, IntKind.wrap .u64 x.f3, IntKind.wrap .u64 x.f4, IntKind.wrap .u64 x.f5.f0, IntKind.wrap .u64 x.f5.f1, IntKind.wrap .u64 x.f5.f2, IntKind.wrap .u64 x.f5.f3, IntKind.wrap .u64 x.f5.f4, IntKind.wrap .u64 x.f5.f5]
theorem wrapu64_lo (n : Int) : 0 ≤ IntKind.wrap .u64 n := by rw [wrapu64]; omega

def okSq (x : T_api_Sqe) : Prop := (0 ≤ x.f0 ∧ x.f0 ≤ 255) ∧ (0 ≤ x.f1 ∧ x.f1 ≤ 2) ∧ (0 ≤ x.f2 ∧ x.f2 ≤ 65535) ∧ (0 ≤ x.f4 ∧ x.f4 ≤ 4294967295)
instance (x : T_api_Sqe) : Decidable (okSq x) := by unfold okSq; infer_instance
def laySq (x : T_api_Sqe) (w : Bool) : List Int :=
  [lb x.f0 0, 64 + x.f1] ++ ltB x.f2 2 ++ ltB x.f3 4 ++ List.replicate 24 0 ++ ltB x.f4 4 ++ [0, 0, 0, if w then 1 else 90] ++ ltB x.f5.f0 4 ++ ltB x.f5.f1 4 ++ ltB x.f5.f2 4 ++ ltB x.f5.f3 4 ++ ltB x.f5.f4 4 ++ ltB x.f5.f5 4
def putSq (x : T_api_Sqe) (w : Bool) : ByteArray × Int := if okSq x then (strOfNums (laySq x w), 0) else (⟨#[]⟩, 250)

theorem sqe_Put_step (x : T_api_Sqe) (w : Bool) (K k : Nat) (xs : List Int) (hx : xs.length ≤ 100) (i : Int) (h0 : 0 ≤ i) (h6 : i < 6) : sqe_Put.l0 K x w (k + 1) xs i = sqe_Put.l0 K x w k (xs ++ [IntKind.wrap .u64 (rdL (0 : Int) [x.f5.f0, x.f5.f1, x.f5.f2, x.f5.f3, x.f5.f4, x.f5.f5] i)]) (i + 1) := by
  rw [sqe_Put.l0]
  unfold sqe_Put.b0
  have e : IntKind.wrap .i64 (i + 1) = i + 1 := by rw [wi] <;> omega
  rw [if_pos h6, asrt_pos h0, asrt_pos (by simp; omega), e]

set_option maxHeartbeats 1000000 in
theorem sqe_Put.is (x : T_api_Sqe) (o : x.ok) (w : Bool) (K : Nat) : sqe_Put.f (K + 20) x w = some (putSq x w) := by
  unfold sqe_Put.f
  rw [show K + 20 = K + 13 + 1 + 1 + 1 + 1 + 1 + 1 + 1 by omega]
  rw [sqe_Put_step _ _ _ _ _ (by simp) 0 (by omega) (by omega), sqe_Put_step _ _ _ _ _ (by simp) (0 + 1) (by omega) (by omega), sqe_Put_step _ _ _ _ _ (by simp) (0 + 1 + 1) (by omega) (by omega),
    sqe_Put_step _ _ _ _ _ (by simp) (0 + 1 + 1 + 1) (by omega) (by omega), sqe_Put_step _ _ _ _ _ (by simp) (0 + 1 + 1 + 1 + 1) (by omega) (by omega), sqe_Put_step _ _ _ _ _ (by simp) (0 + 1 + 1 + 1 + 1 + 1) (by omega) (by omega), sqe_Put.l0]
  unfold sqe_Put.b0
  rw [if_neg (by omega)]
  have ev : ([IntKind.wrap .u64 x.f0, IntKind.wrap .u64 x.f1, IntKind.wrap .u64 x.f2, IntKind.wrap .u64 x.f3, IntKind.wrap .u64 x.f4] ++ [IntKind.wrap .u64 (rdL (0 : Int) [x.f5.f0, x.f5.f1, x.f5.f2, x.f5.f3, x.f5.f4, x.f5.f5] 0)] ++
      [IntKind.wrap .u64 (rdL (0 : Int) [x.f5.f0, x.f5.f1, x.f5.f2, x.f5.f3, x.f5.f4, x.f5.f5] (0 + 1))] ++ [IntKind.wrap .u64 (rdL (0 : Int) [x.f5.f0, x.f5.f1, x.f5.f2, x.f5.f3, x.f5.f4, x.f5.f5] (0 + 1 + 1))] ++
      [IntKind.wrap .u64 (rdL (0 : Int) [x.f5.f0, x.f5.f1, x.f5.f2, x.f5.f3, x.f5.f4, x.f5.f5] (0 + 1 + 1 + 1))] ++ [IntKind.wrap .u64 (rdL (0 : Int) [x.f5.f0, x.f5.f1, x.f5.f2, x.f5.f3, x.f5.f4, x.f5.f5] (0 + 1 + 1 + 1 + 1))] ++
      [IntKind.wrap .u64 (rdL (0 : Int) [x.f5.f0, x.f5.f1, x.f5.f2, x.f5.f3, x.f5.f4, x.f5.f5] (0 + 1 + 1 + 1 + 1 + 1))]) = sqeV x := rfl
  rw [ev, show K + 13 + 1 + 1 + 1 + 1 + 1 + 1 + 1 = K + 20 by omega, fieldsFor_sq, Option.bind_some, show K + 20 = K + 11 + 9 by omega]
  have hp := sqe_put.is 64 G_sqe_fieldsOf (sqeV x) rfl (by omega) fieldsOf_ok (by simp [sqeV, wrapu64_lo]) (K + 11) (by simp [G_sqe_fieldsOf]) (by simp [G_sqe_fieldsOf])
  rw [show ((64 : Nat) : Int) = 64 from rfl] at hp
  rw [hp, Option.bind_some]
  obtain ⟨o0, o1, o2, o3, o4, ⟨q0, q1, q2, q3, q4, q5⟩⟩ := o
  unfold putSq
  by_cases hk : okSq x
  · rw [if_pos hk]
    obtain ⟨k0, k1, k2, k4⟩ := hk
    have es : sqeV x = [x.f0, x.f1, x.f2, x.f3, x.f4, x.f5.f0, x.f5.f1, x.f5.f2, x.f5.f3, x.f5.f4, x.f5.f5] := by
      unfold sqeV
      rw [wu, wu, wu, wu, wu, wu, wu, wu, wu, wu, wu] <;> omega
    have pe : putS G_sqe_fieldsOf (sqeV x) (List.replicate 64 0) = (strOfNums ([lb x.f0 0, lb x.f1 0] ++ ltB x.f2 2 ++ ltB x.f3 4 ++ List.replicate 24 0 ++ ltB x.f4 4 ++ [0, 0, 0, 0] ++ ltB x.f5.f0 4 ++ ltB x.f5.f1 4 ++ ltB x.f5.f2 4 ++ ltB x.f5.f3 4 ++ ltB x.f5.f4 4 ++ ltB x.f5.f5 4), true) := by
      rw [es]
      unfold G_sqe_fieldsOf
      simp only [putS]
      rw [if_neg (by omega), if_neg (by omega), if_neg (by omega), if_neg (by omega), if_neg (by omega), if_neg (by omega), if_neg (by omega), if_neg (by omega), if_neg (by omega), if_neg (by omega), if_neg (by omega)]
      kernel_rfl
    rw [pe, if_pos rfl]
    have fin : ∀ y : Int, sqe_Put.j0 (K + 11 + 9) x (strOfNums ([lb x.f0 0, lb x.f1 0] ++ ltB x.f2 2 ++ ltB x.f3 4 ++ List.replicate 24 0 ++ ltB x.f4 4 ++ [0, 0, 0, 0] ++ ltB x.f5.f0 4 ++ ltB x.f5.f1 4 ++ ltB x.f5.f2 4 ++ ltB x.f5.f3 4 ++ ltB x.f5.f4 4 ++ ltB x.f5.f5 4), true) y =
        some (strOfNums ([lb x.f0 0, 64 + x.f1] ++ ltB x.f2 2 ++ ltB x.f3 4 ++ List.replicate 24 0 ++ ltB x.f4 4 ++ [0, 0, 0, y] ++ ltB x.f5.f0 4 ++ ltB x.f5.f1 4 ++ ltB x.f5.f2 4 ++ ltB x.f5.f3 4 ++ ltB x.f5.f4 4 ++ ltB x.f5.f5 4), 0) := by
      intro y
      have eb : bor .u8 64 (IntKind.wrap .u8 x.f1) = 64 + x.f1 := by
        rcases (by omega : x.f1 = 0 ∨ x.f1 = 1 ∨ x.f1 = 2) with h | h | h <;> rw [h] <;> rfl
      unfold sqe_Put.j0
      rw [eb, fields_Set.is _ _ 1 (by omega) (by simp [ltB_length]) (by simp [ltB_length]), Option.bind_some, fields_Set.is _ _ 39 (by omega) (by simp [setL, ltB_length]) (by simp [setL, ltB_length]), Option.bind_some]
      refine congrArg (fun z => some (strOfNums z, (0 : Int))) ?_
      kernel_rfl
    cases w with
    | true => rw [if_pos rfl, fin]; rfl
    | false => rw [if_neg (by simp), fin]; rfl
  · rw [if_neg hk]
    have pe : putS G_sqe_fieldsOf (sqeV x) (List.replicate 64 0) = (⟨#[]⟩, false) := by
      unfold G_sqe_fieldsOf sqeV
      have w0 := wrapu64 x.f0; have w1 := wrapu64 x.f1; have w2 := wrapu64 x.f2; have w4 := wrapu64 x.f4
      unfold okSq at hk
      rw [putS]
      by_cases c0 : IntKind.wrap .u64 x.f0 ≥ 256
      · rw [if_pos c0]
      rw [if_neg c0, putS]
      by_cases c1 : IntKind.wrap .u64 x.f1 ≥ 3
      · rw [if_pos c1]
      rw [if_neg c1, putS]
      by_cases c2 : IntKind.wrap .u64 x.f2 ≥ 65536
      · rw [if_pos c2]
      rw [if_neg c2, putS]
      by_cases c3 : IntKind.wrap .u64 x.f3 ≥ 4294967296
      · rw [if_pos c3]
      rw [if_neg c3, putS]
      by_cases c4 : IntKind.wrap .u64 x.f4 ≥ 4294967296
      · rw [if_pos c4]
      exfalso
      omega
    rw [pe, if_neg (by simp)]

theorem headgateref25_in.is (v most : Int) : headgateref25_in.f v most = some (decide (0 ≤ v ∧ v ≤ most)) := by
  unfold headgateref25_in.f
  by_cases h : 0 ≤ v <;> by_cases h' : v ≤ most <;> simp [h, h']

theorem refPut_step (x : T_api_Sqe) (o : x.ok) (K k : Nat) (l : List Int) (hl : l.length ≤ 1000) (i : Int) (h0 : 0 ≤ i) (h6 : i < 6) (v : Int) (hv : rdL (0 : Int) [x.f5.f0, x.f5.f1, x.f5.f2, x.f5.f3, x.f5.f4, x.f5.f5] i = v) (hv0 : 0 ≤ v ∧ v ≤ 4294967295) :
    headgateref25_Put.l0 (K + 9) x (k + 1) (strOfNums l) i = headgateref25_Put.l0 (K + 9) x k (strOfNums (l ++ ltB v 4)) (i + 1) := by
  rw [headgateref25_Put.l0]
  unfold headgateref25_Put.b0
  have e : IntKind.wrap .i64 (i + 1) = i + 1 := by rw [wi] <;> omega
  have p := headgateref01_PutLittle.is v hv0.1 (by omega) 4 K (by omega) (by omega)
  rw [show ((4 : Nat) : Int) = 4 from rfl] at p
  rw [if_pos h6, asrt_pos h0, hv, wu (by omega) (by omega), p, Option.bind_some, asrt_pos (by rw [strOfNums_size, strOfNums_size, ltB_length]; omega), e, nums_append]

theorem lb_small (v : Int) (h0 : 0 ≤ v) (h1 : v ≤ 255) : lb v 0 = v := by unfold lb; simp; omega

theorem headgateref25_Put.is (x : T_api_Sqe) (o : x.ok) (w : Bool) (K : Nat) : headgateref25_Put.f (K + 20) x w = some (putSq x w) := by
  unfold headgateref25_Put.f
  simp only [headgateref25_in.is, Option.bind_some]
  unfold putSq
  by_cases hk : okSq x
  · rw [if_pos hk]
    obtain ⟨k0, k1, k2, k4⟩ := hk
    obtain ⟨o0, o1, o2, o3, o4, ⟨q0, q1, q2, q3, q4, q5⟩⟩ := o
    have p2 := headgateref01_PutLittle.is x.f2 (by omega) (by omega) 2 (K + 11) (by omega) (by omega)
    have p3 := headgateref01_PutLittle.is x.f3 (by omega) (by omega) 4 (K + 11) (by omega) (by omega)
    have p4 := headgateref01_PutLittle.is x.f4 (by omega) (by omega) 4 (K + 11) (by omega) (by omega)
    rw [show ((4 : Nat) : Int) = 4 from rfl] at p3 p4
    rw [show ((2 : Nat) : Int) = 2 from rfl] at p2
    rw [show K + 11 + 9 = K + 20 by omega] at p2 p3 p4
    rw [if_pos (by simp; omega), if_pos (by simp; omega), if_pos (by simp; omega), if_pos (by simp; omega), wu (n := x.f2) (by omega) (by omega), p2, Option.bind_some, asrt_pos (by simp only [strOfNums_size, ltB_length, List.length_cons, List.length_nil]; omega),
      wu (n := x.f3) (by omega) (by omega), p3, Option.bind_some, asrt_pos (by simp only [ByteArray.size_append, strOfNums_size, ltB_length, List.length_cons, List.length_nil]; omega), asrt_pos (by simp only [ByteArray.size_append, strOfNums_size, ltB_length, List.length_cons, List.length_nil, List.length_replicate]; omega),
      wu (n := x.f4) (by omega) (by omega), p4, Option.bind_some, asrt_pos (by simp only [ByteArray.size_append, strOfNums_size, ltB_length, List.length_cons, List.length_nil, List.length_replicate]; omega)]
    have e0 : IntKind.wrap .u8 x.f0 = lb x.f0 0 := by rw [wrapu8, lb_small _ k0.1 k0.2]; omega
    have e1 : IntKind.wrap .u8 (IntKind.wrap .i64 (64 + x.f1)) = 64 + x.f1 := by rw [wrapu8, wi] <;> omega
    have fin : ∀ y : Int, headgateref25_Put.j0 (K + 20) x (strOfNums (ltB x.f2 2)) (strOfNums (ltB x.f3 4)) (strOfNums (ltB x.f4 4)) y =
        some (strOfNums ([lb x.f0 0, 64 + x.f1] ++ ltB x.f2 2 ++ ltB x.f3 4 ++ List.replicate 24 0 ++ ltB x.f4 4 ++ [0, 0, 0, y] ++ ltB x.f5.f0 4 ++ ltB x.f5.f1 4 ++ ltB x.f5.f2 4 ++ ltB x.f5.f3 4 ++ ltB x.f5.f4 4 ++ ltB x.f5.f5 4), 0) := by
      intro y
      unfold headgateref25_Put.j0
      rw [e0, e1]
      simp only [nums_append, strOfNums_size]
      rw [asrt_pos (by simp only [List.length_append, ltB_length, List.length_cons, List.length_nil, List.length_replicate]; omega), show K + 20 = K + 11 + 9 by omega]
      have st := fun k l hl i h0 h6 v hv hv0 => refPut_step x ⟨o0, o1, o2, o3, o4, ⟨q0, q1, q2, q3, q4, q5⟩⟩ (K + 11) k l hl i h0 h6 v hv hv0
      have ll : ∀ (a b : List Int) (n : Nat), a.length ≤ n → b.length ≤ 4 → (a ++ b).length ≤ n + 4 := fun a b n h1 h2 => by rw [List.length_append]; omega
      have lt4 : ∀ v, (ltB v 4).length ≤ 4 := fun v => by rw [ltB_length]; omega
      have l0 : ([lb x.f0 0, 64 + x.f1] ++ ltB x.f2 2 ++ ltB x.f3 4 ++ List.replicate (Int.toNat 24) 0 ++ ltB x.f4 4 ++ [0, 0, 0, y]).length ≤ 40 := by simp only [List.length_append, ltB_length, List.length_cons, List.length_nil, List.length_replicate]; omega
      rw [show K + 11 + 9 = (K + 13) + 1 + 1 + 1 + 1 + 1 + 1 + 1 by omega]
      refine Eq.trans (st _ _ (by omega) 0 (by omega) (by omega) x.f5.f0 rfl q0) ?_
      refine Eq.trans (st _ _ (by have := ll _ _ _ l0 (lt4 x.f5.f0); omega) (0 + 1) (by omega) (by omega) x.f5.f1 rfl q1) ?_
      refine Eq.trans (st _ _ (by have := ll _ _ _ (ll _ _ _ l0 (lt4 x.f5.f0)) (lt4 x.f5.f1); omega) (0 + 1 + 1) (by omega) (by omega) x.f5.f2 rfl q2) ?_
      refine Eq.trans (st _ _ (by have := ll _ _ _ (ll _ _ _ (ll _ _ _ l0 (lt4 x.f5.f0)) (lt4 x.f5.f1)) (lt4 x.f5.f2); omega) (0 + 1 + 1 + 1) (by omega) (by omega) x.f5.f3 rfl q3) ?_
      refine Eq.trans (st _ _ (by have := ll _ _ _ (ll _ _ _ (ll _ _ _ (ll _ _ _ l0 (lt4 x.f5.f0)) (lt4 x.f5.f1)) (lt4 x.f5.f2)) (lt4 x.f5.f3); omega) (0 + 1 + 1 + 1 + 1) (by omega) (by omega) x.f5.f4 rfl q4) ?_
      refine Eq.trans (st _ _ (by have := ll _ _ _ (ll _ _ _ (ll _ _ _ (ll _ _ _ (ll _ _ _ l0 (lt4 x.f5.f0)) (lt4 x.f5.f1)) (lt4 x.f5.f2)) (lt4 x.f5.f3)) (lt4 x.f5.f4); omega) (0 + 1 + 1 + 1 + 1 + 1) (by omega) (by omega) x.f5.f5 rfl q5) ?_
      rw [headgateref25_Put.l0]
      unfold headgateref25_Put.b0
      rw [if_neg (by omega)]
      rfl
    cases w with
    | true => rw [if_pos rfl, fin]; rfl
    | false => rw [if_neg (by simp), fin]; rfl
  · rw [if_neg hk]
    unfold okSq at hk
    by_cases c0 : 0 ≤ x.f0 ∧ x.f0 ≤ 255
    · rw [if_pos (by simpa using c0)]
      by_cases c1 : 0 ≤ x.f1 ∧ x.f1 ≤ 2
      · rw [if_pos (by simpa using c1)]
        by_cases c2 : 0 ≤ x.f2 ∧ x.f2 ≤ 65535
        · rw [if_pos (by simpa using c2)]
          rw [if_neg (by simp only [decide_eq_true_eq]; exact fun h => hk ⟨c0, c1, c2, h⟩)]
        · rw [if_neg (by simpa using c2)]
      · rw [if_neg (by simpa using c1)]
    · rw [if_neg (by simpa using c0)]

def okCq (x : T_api_Cqe) : Prop := (0 ≤ x.f2 ∧ x.f2 ≤ 65535) ∧ (0 ≤ x.f3 ∧ x.f3 ≤ 65535) ∧ (0 ≤ x.f4 ∧ x.f4 ≤ 65535) ∧ (0 ≤ x.f5 ∧ x.f5 ≤ 32767)
instance (x : T_api_Cqe) : Decidable (okCq x) := by unfold okCq; infer_instance
def layCq (x : T_api_Cqe) : List Int := ltB x.f0 4 ++ ltB x.f1 4 ++ ltB x.f2 2 ++ ltB x.f3 2 ++ ltB x.f4 2 ++ ltB (2 * x.f5) 2
def putCq (x : T_api_Cqe) : ByteArray × Int := if okCq x then (strOfNums (layCq x), 0) else (⟨#[]⟩, 250)

theorem sqe_End.is (x : T_api_Cqe) (o : x.ok) (K : Nat) : sqe_End.f (K + 20) x = some (putCq x) := by
  unfold sqe_End.f
  rw [fieldsFor_cq, Option.bind_some, show K + 20 = K + 11 + 9 by omega]
  have hp := sqe_put.is 16 G_sqe_endsOf [IntKind.wrap .u64 x.f0, IntKind.wrap .u64 x.f1, IntKind.wrap .u64 x.f2, IntKind.wrap .u64 x.f3, IntKind.wrap .u64 x.f4, IntKind.wrap .u64 x.f5] rfl (by omega) endsOf_ok (by simp [wrapu64_lo]) (K + 11) (by simp [G_sqe_endsOf]) (by simp [G_sqe_endsOf])
  rw [show ((16 : Nat) : Int) = 16 from rfl] at hp
  rw [hp, Option.bind_some]
  obtain ⟨o0, o1, o2, o3, o4, o5⟩ := o
  unfold putCq
  by_cases hk : okCq x
  · rw [if_pos hk]
    obtain ⟨k2, k3, k4, k5⟩ := hk
    have pe : putS G_sqe_endsOf [IntKind.wrap .u64 x.f0, IntKind.wrap .u64 x.f1, IntKind.wrap .u64 x.f2, IntKind.wrap .u64 x.f3, IntKind.wrap .u64 x.f4, IntKind.wrap .u64 x.f5] (List.replicate 16 0) = (strOfNums (ltB x.f0 4 ++ ltB x.f1 4 ++ ltB x.f2 2 ++ ltB x.f3 2 ++ ltB x.f4 2 ++ ltB x.f5 2), true) := by
      rw [wu (n := x.f0) (by omega) (by omega), wu (n := x.f1) (by omega) (by omega), wu (n := x.f2) (by omega) (by omega), wu (n := x.f3) (by omega) (by omega), wu (n := x.f4) (by omega) (by omega), wu (n := x.f5) (by omega) (by omega)]
      unfold G_sqe_endsOf
      rw [putS, if_neg (by simp only; omega), putS, if_neg (by simp only; omega), putS, if_neg (by simp only; omega), putS, if_neg (by simp only; omega), putS, if_neg (by simp only; omega), putS, if_neg (by simp only; omega)]
      kernel_rfl
    have e2 : IntKind.wrap .u64 (IntKind.wrap .i64 (2 * x.f5)) = 2 * x.f5 := by rw [wi, wu] <;> omega
    have p := fields_PutLittle.is (2 * x.f5) (by omega) 2 (K + 11) (by omega) (by omega)
    rw [show ((2 : Nat) : Int) = 2 from rfl] at p
    rw [pe, if_pos rfl, e2, p, Option.bind_some, fields_Set.is _ _ 14 (by omega) (by simp [ltB_length]) (by simp [ltB_length]), Option.bind_some]
    refine congrArg (fun z => some (strOfNums z, (0 : Int))) ?_
    kernel_rfl
  · rw [if_neg hk]
    have pe : putS G_sqe_endsOf [IntKind.wrap .u64 x.f0, IntKind.wrap .u64 x.f1, IntKind.wrap .u64 x.f2, IntKind.wrap .u64 x.f3, IntKind.wrap .u64 x.f4, IntKind.wrap .u64 x.f5] (List.replicate 16 0) = (⟨#[]⟩, false) := by
      unfold G_sqe_endsOf
      have w2 := wrapu64 x.f2; have w3 := wrapu64 x.f3; have w4 := wrapu64 x.f4; have w5 := wrapu64 x.f5
      unfold okCq at hk
      rw [putS]
      by_cases c0 : IntKind.wrap .u64 x.f0 ≥ 4294967296
      · rw [if_pos c0]
      rw [if_neg c0, putS]
      by_cases c1 : IntKind.wrap .u64 x.f1 ≥ 4294967296
      · rw [if_pos c1]
      rw [if_neg c1, putS]
      by_cases c2 : IntKind.wrap .u64 x.f2 ≥ 65536
      · rw [if_pos c2]
      rw [if_neg c2, putS]
      by_cases c3 : IntKind.wrap .u64 x.f3 ≥ 65536
      · rw [if_pos c3]
      rw [if_neg c3, putS]
      by_cases c4 : IntKind.wrap .u64 x.f4 ≥ 65536
      · rw [if_pos c4]
      rw [if_neg c4, putS]
      by_cases c5 : IntKind.wrap .u64 x.f5 ≥ 32768
      · rw [if_pos c5]
      exfalso
      omega
    rw [pe, if_neg (by simp)]

theorem headgateref25_End.is (x : T_api_Cqe) (o : x.ok) (K : Nat) : headgateref25_End.f (K + 20) x = some (putCq x) := by
  unfold headgateref25_End.f
  simp only [headgateref25_in.is, Option.bind_some]
  unfold putCq
  obtain ⟨o0, o1, o2, o3, o4, o5⟩ := o
  by_cases hk : okCq x
  · rw [if_pos hk]
    obtain ⟨k2, k3, k4, k5⟩ := hk
    have p := fun v h0 h1 n hn hn2 => headgateref01_PutLittle.is v h0 h1 n (K + 11) hn hn2
    have p0 := p x.f0 (by omega) (by omega) 4 (by omega) (by omega)
    have p1 := p x.f1 (by omega) (by omega) 4 (by omega) (by omega)
    have p2 := p x.f2 (by omega) (by omega) 2 (by omega) (by omega)
    have p3 := p x.f3 (by omega) (by omega) 2 (by omega) (by omega)
    have p4 := p x.f4 (by omega) (by omega) 2 (by omega) (by omega)
    have p5 := p (2 * x.f5) (by omega) (by omega) 2 (by omega) (by omega)
    have e2 : IntKind.wrap .u64 (IntKind.wrap .i64 (2 * x.f5)) = 2 * x.f5 := by rw [wi, wu] <;> omega
    rw [show ((4 : Nat) : Int) = 4 from rfl] at p0 p1
    rw [show ((2 : Nat) : Int) = 2 from rfl] at p2 p3 p4 p5
    rw [show K + 20 = K + 11 + 9 by omega, if_pos (by simp; omega), if_pos (by simp; omega), if_pos (by simp; omega), if_pos (by simp; omega), wu (n := x.f0) (by omega) (by omega), p0, Option.bind_some, wu (n := x.f1) (by omega) (by omega), p1, Option.bind_some, asrt_pos (by simp only [ByteArray.size_append, strOfNums_size, ltB_length]; omega),
      wu (n := x.f2) (by omega) (by omega), p2, Option.bind_some, asrt_pos (by simp only [ByteArray.size_append, strOfNums_size, ltB_length]; omega), wu (n := x.f3) (by omega) (by omega), p3, Option.bind_some, asrt_pos (by simp only [ByteArray.size_append, strOfNums_size, ltB_length]; omega),
      wu (n := x.f4) (by omega) (by omega), p4, Option.bind_some, asrt_pos (by simp only [ByteArray.size_append, strOfNums_size, ltB_length]; omega), e2, p5, Option.bind_some, asrt_pos (by simp only [ByteArray.size_append, strOfNums_size, ltB_length]; omega)]
    simp only [nums_append]
    rfl
  · rw [if_neg hk]
    unfold okCq at hk
    by_cases c0 : 0 ≤ x.f2 ∧ x.f2 ≤ 65535
    · rw [if_pos (by simpa using c0)]
      by_cases c1 : 0 ≤ x.f3 ∧ x.f3 ≤ 65535
      · rw [if_pos (by simpa using c1)]
        by_cases c2 : 0 ≤ x.f4 ∧ x.f4 ≤ 65535
        · rw [if_pos (by simpa using c2)]
          rw [if_neg (by simp only [decide_eq_true_eq]; exact fun h => hk ⟨c0, c1, c2, h⟩)]
        · rw [if_neg (by simpa using c2)]
      · rw [if_neg (by simpa using c1)]
    · rw [if_neg (by simpa using c0)]

end Go.Proofs.YtceagilmillgfaaDoor.F
