/- One operation of the plain run, whichever it is. No condition. -/
import Derived.Test.YtdcojinnjpihaaaXAbsMap
import Derived.Lib.UnsafeStr
import Derived.Lib.Builder
namespace Go.Proofs.Ytdcojinnjpihaaa.X
open Go Go.RowKit
set_option linter.unusedVariables false
set_option linter.unusedSimpArgs false

def aval : Option Value → Option ARes
  | some v => some (.val v)
  | none => none

theorem aval_spec {x : Option Value} {r : ARes} (h : aval x = some r) : ∃ v, x = some v ∧ r = .val v := by
  cases x with
  | none => cases h
  | some v => cases h; exact ⟨v, rfl, rfl⟩

def aload1 (P : Program) (G : Nat → Option AObj) (t : Nat) (x : Value) : Option Value := match x with
  | .pointer (some ⟨k, off, none⟩) => match cellsAt G k with
    | some c => aload P c t off
    | none => none
  | _ => none

def astore (P : Program) (G : Nat → Option AObj) (t : Nat) (x v : Value) : Option ARes := match x with
  | .pointer (some ⟨k, off, none⟩) => match G k with
    | some (.row c e) => match szOf P t with
      | none => none
      | some n => match Nat.beq n v.cells.toList.length && v.cells.toList.all (·.oneCell') && Nat.ble (off + v.cells.toList.length) c.length with
        | true => some (.write k (putL c off v.cells.toList) e)
        | false => none
    | _ => none
  | _ => none

/-- One of the two is nil, the other is not. -/
def nilNot (x y : Value) : Bool := match y with
  | .pointer none => match x with
    | .pointer (some _) => true
    | _ => false
  | .slice none _ _ => match x with
    | .slice (some _) _ _ => true
    | _ => false
  | .map none => match x with
    | .map (some _) => true
    | _ => false
  | .nilFunc => match x with
    | .func .. => true
    | _ => false
  | _ => false

def aeq (b : BinOp) (x y : Value) : Option Value := match b with
  | .eql => match nilNot x y || nilNot y x with
    | true => some (.bool false)
    | false => none
  | .neq => match nilNot x y || nilNot y x with
    | true => some (.bool true)
    | false => none
  | _ => none

/-- Which kind a comparison with nil is at. -/
def eqTy (P : Program) (t : Nat) (x : Value) : Bool := match P.underlying t with
  | some (.pointer _) => match x with
    | .pointer _ => true
    | _ => false
  | some (.slice _) => match x with
    | .slice .. => true
    | _ => false
  | some (.map _ _) => match x with
    | .map _ => true
    | _ => false
  | some (.func ..) => match x with
    | .func .. | .nilFunc => true
    | _ => false
  | _ => false

/-- A pointer beside itself. -/
def asame (P : Program) (b : BinOp) (t : Nat) (x y : Value) : Option Value := match x with
  | .pointer (some ⟨k, o, none⟩) => match y with
    | .pointer (some ⟨k', o', none⟩) => match Nat.beq k k' && Nat.beq o o' with
      | true => match P.underlying t with
        | some (.pointer te) => match P.info? te with
          | some _ => match b with
            | .eql => some (.bool true)
            | .neq => some (.bool false)
            | _ => none
          | none => none
        | _ => none
      | false => none
    | _ => none
  | _ => none

def acallf (P : Program) (f : Value) (args : List Value) : Option ARes := match f with
  | .func (.func g) first captured => some (.enter g (first.toList ++ args ++ captured.toList))
  | _ => none

def maxN : IntKind → Nat
  | .i8 => 127
  | .i16 => 32767
  | .i32 => 2147483647
  | .i64 => 9223372036854775807
  | .u8 => 255
  | .u16 => 65535
  | .u32 => 4294967295
  | .u64 => 18446744073709551615

def wrapF (k : IntKind) (n : Int) : Int := match n with
  | .ofNat m => match Nat.ble m (maxN k) with
    | true => .ofNat m
    | false => k.wrap n
  | _ => k.wrap n

theorem wrapF_eq (k : IntKind) (n : Int) : wrapF k n = k.wrap n := by
  unfold wrapF
  split
  · rename_i m
    split
    · rename_i h
      have h := Nat.le_of_ble_eq_true h
      have e : Int.ofNat m = (m : Int) := rfl
      rw [e]
      cases k <;> simp only [maxN] at h <;> simp [IntKind.wrap, IntKind.bits, IntKind.signed] <;> omega
    · rfl
  · rfl

def unsigned : IntKind → Bool
  | .u8 | .u16 | .u32 | .u64 => true
  | _ => false

def beqK : IntKind → IntKind → Bool
  | .i8, .i8 | .i16, .i16 | .i32, .i32 | .i64, .i64 | .u8, .u8 | .u16, .u16 | .u32, .u32 | .u64, .u64 => true
  | _, _ => false

theorem beqK_eq {k l : IntKind} (h : beqK k l = true) : k = l := by cases k <;> cases l <;> first | rfl | cases h

def bitsN (k : IntKind) (f : Nat → Nat → Nat) (a b : Int) : Option Value := match a, b with
  | .ofNat x, .ofNat y => match unsigned k && Nat.ble x (maxN k) && Nat.ble y (maxN k) with
    | true => some (.int k (.ofNat (f x y)))
    | false => none
  | _, _ => none

def leN (a b : Int) : Option Bool := match a, b with
  | .ofNat x, .ofNat y => some (Nat.ble x y)
  | _, _ => none

def eqN (a b : Int) : Option Bool := match a, b with
  | .ofNat x, .ofNat y => some (Nat.beq x y)
  | _, _ => none

def obool : Option Bool → Option Value
  | some b => some (.bool b)
  | none => none

def onot : Option Bool → Option Value
  | some b => some (.bool (!b))
  | none => none

/-- Whole numbers, quickly. -/
def afast (b : BinOp) (x y : Value) : Option Value := match x with
  | .int k a => match y with
    | .int l c => match beqK k l with
      | false => none
      | true => match b with
        | .add => some (.int k (wrapF k (a + c)))
        | .sub => some (.int k (wrapF k (a - c)))
        | .mul => some (.int k (wrapF k (a * c)))
        | .eql => obool (eqN a c)
        | .neq => onot (eqN a c)
        | .lss => onot (leN c a)
        | .leq => obool (leN a c)
        | .gtr => onot (leN a c)
        | .geq => obool (leN c a)
        | .and => bitsN k Nat.land a c
        | .or => bitsN k Nat.lor a c
        | .xor => bitsN k Nat.xor a c
        | .quo => match a, c with
          | .ofNat p, .ofNat (q + 1) => some (.int k (wrapF k (.ofNat (p / (q + 1)))))
          | _, _ => none
        | .rem => match a, c with
          | .ofNat p, .ofNat (q + 1) => some (.int k (.ofNat (p % (q + 1))))
          | _, _ => none
        | _ => none
    | _ => none
  | _ => none

/-! ### Texts, quickly -/
def byteEq : List UInt8 → List UInt8 → Bool
  | [], [] => true
  | a :: r, b :: s => match Nat.beq a.toNat b.toNat with
    | true => byteEq r s
    | false => false
  | _, _ => false

theorem byteEq_iff : ∀ (x y : List UInt8), byteEq x y = true ↔ x = y
  | [], [] => by simp [byteEq]
  | [], _ :: _ => by simp [byteEq]
  | _ :: _, [] => by simp [byteEq]
  | a :: r, b :: s => by
    unfold byteEq
    have ih := byteEq_iff r s
    cases h : Nat.beq a.toNat b.toNat with
    | true =>
      have h1 := UInt8.toNat_inj.mp (Nat.eq_of_beq_eq_true h)
      simp only [ih, List.cons.injEq, h1, true_and]
    | false =>
      have h1 := Nat.ne_of_beq_eq_false h
      simp only [List.cons.injEq, Bool.false_eq_true, false_iff, not_and]
      intro e; rw [e] at h1; exact absurd rfl h1

theorem ba_eq {x y : ByteArray} (h : x.data.toList = y.data.toList) : x = y := by
  cases x; cases y
  congr 1
  exact Array.ext' h

def sfast (b : BinOp) (x y : Value) : Option Value := match x with
  | .string a => match y with
    | .string c => match b with
      | .add => match Nat.ble (a.data.toList.length + c.data.toList.length) 9223372036854775807 with
        | true => some (.string ⟨⟨a.data.toList ++ c.data.toList⟩⟩)
        | false => none
      | .eql => some (.bool (byteEq a.data.toList c.data.toList))
      | .neq => some (.bool (!byteEq a.data.toList c.data.toList))
      | _ => none
    | _ => none
  | _ => none

def asliceS (P : Program) (t : Nat) (x : Value) (lo hi : Option Value) : Option Value := match x with
  | .string s => match P.underlying t with
    | some .string => match bnd hi s.data.toList.length s.data.toList.length with
      | none => none
      | some h => match bnd lo 0 h with
        | none => none
        | some l => some (.string ⟨⟨(s.data.toList.drop l).take (h - l)⟩⟩)
    | _ => none
  | _ => none

def aindexS (P : Program) (t : Nat) (x i : Value) : Option Value := match x with
  | .string s => match P.underlying t with
    | some .string => match i with
      | .int _ (.ofNat m) => match s.data.toList[m]? with
        | some b => some (.int .u8 (.ofNat b.toNat))
        | none => none
      | _ => none
    | _ => none
  | _ => none

def aconvI (P : Program) (s d : Nat) (x : Value) : Option Value := match x with
  | .int _ n => match P.underlying s with
    | none => none
    | some _ => match P.underlying d with
      | some (.int k) => some (.int k (wrapF k n))
      | _ => none
  | _ => none

def byteV : Value → Bool
  | .int .u8 (.ofNat n) => Nat.blt n 256
  | _ => false

theorem bytes_back : ∀ {vs : List Value} {bs : List UInt8}, strL vs = some bs → vs.all byteV = true → bs.length = vs.length ∧ ∀ (j : Nat) (x : UInt8), bs[j]? = some x → vs[j]? = some (.int .u8 (x.toNat : Int)) := by
  intro vs
  induction vs with
  | nil => intro bs h _; simp only [strL, Option.some.injEq] at h; subst h; exact ⟨rfl, fun j x hj => by simp at hj⟩
  | cons v r ih =>
    intro bs h hall
    simp only [List.all_cons, Bool.and_eq_true] at hall
    obtain ⟨hv, hr⟩ := hall
    unfold byteV at hv
    split at hv
    · rename_i n
      simp only [strL] at h
      split at h
      · rename_i l hl
        cases h
        obtain ⟨h1, h2⟩ := ih hl hr
        refine ⟨by simp [h1], fun j x hj => ?_⟩
        cases j with
        | zero =>
          simp only [List.getElem?_cons_zero, Option.some.injEq] at hj ⊢
          have hn : n < 256 := Nat.le_of_ble_eq_true hv
          rw [← hj]
          have e1 : (Int.ofNat n).toNat = n := rfl
          rw [e1, UInt8.toNat_ofNat', Nat.mod_eq_of_lt (by simpa using hn)]
          rfl
        | succ j =>
          simp only [List.getElem?_cons_succ] at hj ⊢
          exact h2 j x hj
      · cases h
    · cases hv

def aunStr (P : Program) (G : Nat → Option AObj) (pt : Nat) (x n : Value) : Option ARes := match n with
  | .int .i64 (.ofNat 0) => match x with
    | .pointer none => some (.val (.string ⟨⟨[]⟩⟩))
    | .pointer (some ⟨_, _, none⟩) => some (.val (.string ⟨⟨[]⟩⟩))
    | _ => none
  | .int .i64 (.ofNat (m + 1)) => match x with
    | .pointer (some ⟨k, off, none⟩) => match G k with
      | some (.row c e) => match P.underlying pt with
        | some (.pointer e') => match Nat.beq e' e.1 && Nat.beq (P.cellsOf e.1) 1 && Nat.ble (m + 1) 9223372036854775807 with
          | false => none
          | true => match subl c off (m + 1) with
            | none => none
            | some vs => match strL vs with
              | some bs => match vs.all byteV with
                | true => some (.kill k (.string ⟨⟨bs⟩⟩))
                | false => none
              | none => none
        | _ => none
      | _ => none
    | _ => none
  | _ => none

def aunData (x : Value) : Option Value := match x with
  | .slice none _ _ => some (.pointer none)
  | .slice (some ⟨k, off, none⟩) _ (_ + 1) => some (.pointer (some ⟨k, off, none⟩))
  | _ => none

/-- A pointer seen as another one's, or as none's. -/
def aunConv (P : Program) (G : Nat → Option AObj) (s d : Nat) (x : Value) : Option Value := match x with
  | .pointer (some ⟨k, off, none⟩) => match G k with
    | some (.row c e) => match P.underlying s, P.underlying d with
      | some (.pointer t), some .unsafePointer => match szOf P t with
        | some (_ + 1) => match Nat.blt off c.length with
          | true => some x
          | false => none
        | _ => none
      | some .unsafePointer, some (.pointer u) => match szOf P u with
        | some _ => match e.2 && liesAt P P.depth e.1 (c.length / P.cellsOf e.1) off u 1 with
          | true => some x
          | false => none
        | none => none
      | _, _ => none
    | _ => none
  | _ => none

def aop (P : Program) (G : Nat → Option AObj) (o : Oper) (ρ : Operand → Value) : Option ARes :=
  match o.op with
  | .move x => some (.val (ρ x))
  | .assign x => some (.val (ρ x))
  | .pick c a b => match ρ c with
    | .bool true => some (.val (ρ a))
    | .bool false => some (.val (ρ b))
    | _ => none
  | .extract x i => match ρ x with
    | .tuple vs => aval vs[i]?
    | _ => none
  | .nilCheck x => match ρ x with
    | .pointer (some _) => some (.val (ρ x))
    | .func (.func _) _ _ => some (.val (ρ x))
    | _ => none
  | .load t x => aval (aload1 P G t (ρ x))
  | .store t x y => astore P G t (ρ x) (ρ y)
  | .alloc t => match zeroC P t, szOf P t with
    | some zs, some _ => some (.alloc zs (t, true) none)
    | _, _ => none
  | .box t x => match szOf P t with
    | some _ => some (.alloc (ρ x).cells.toList (t, true) none)
    | none => none
  | .build t ps => aval (abuild P t (ps.toList.map fun p => (p.1, ρ p.2)))
  | .buildSlice t n ps => abuildS P t n (ps.toList.map fun p => (p.1, ρ p.2))
  | .makeSlice t l c => amake P t (ρ l) (ρ c)
  | .fieldAddr s x f => aval (afield P s f (ρ x))
  | .indexAddr t x i => aval (aindex P t (ρ x) (ρ i))
  | .field t x f => aval (afieldv P t f (ρ x))
  | .index t x i => match ρ x with
    | .agg _ => aval (aindexv P t (ρ x) (ρ i))
    | _ => aval (aindexS P t (ρ x) (ρ i))
  | .unOp .not _ x => match ρ x with
    | .bool b => some (.val (.bool (!b)))
    | _ => none
  | .slice t x lo hi mx => match ρ x with
    | .string _ => match mx with
      | none => aval (asliceS P t (ρ x) (lo.map ρ) (hi.map ρ))
      | _ => none
    | .slice (some _) _ _ => aval (aslice P G t (ρ x) (lo.map ρ) (hi.map ρ) (mx.map ρ))
    | _ => aquiet P o ρ
  | .convert s d x => match ρ x with
    | .slice (some _) _ _ => aval (atext P G s d (ρ x))
    | .string _ => match abytes P s d (ρ x) with
      | some r => some r
      | none => aquiet P o ρ
    | .int _ _ => aval (aconvI P s d (ρ x))
    | .pointer (some _) => aval (aunConv P G s d (ρ x))
    | _ => aquiet P o ρ
  | .makeFunc (.func f) first captured => some (.val (.func (.func f) (first.map ρ) (captured.map ρ)))
  | .binOp b t x y _ => match (afast b (ρ x) (ρ y)).or (sfast b (ρ x) (ρ y)) with
    | some v => some (.val v)
    | none => match aeq b (ρ x) (ρ y) with
      | some v => match eqTy P t (ρ x) with
        | true => some (.val v)
        | false => none
      | none => match asame P b t (ρ x) (ρ y) with
        | some v => some (.val v)
        | none => aquiet P o ρ
  | .lookup t x k ok => aval (alookup P G t (ρ x) (ρ k) ok)
  | .mapUpdate t m k x => aupdate P G t (ρ m) (ρ k) (ρ x)
  | .insert t m k x => aupdate P G t (ρ m) (ρ k) (ρ x)
  | .makeMap _ r => match r with
    | none => some .newMap
    | some _ => none
  | .call c => match c.callee with
    | .value f => acallf P (ρ f) (c.args.toList.map ρ)
    | .builtin .delete => match c.args.toList, c.argTypes.toList with
      | [m, k], [t, _] => adelete P G t (ρ m) (ρ k)
      | _, _ => none
    | .builtin .append => match c.args.toList, c.argTypes.toList with
      | [x, y], [t, u] => aappend P G t u (ρ x) (ρ y)
      | _, _ => none
    | .builtin .len => match c.args.toList, c.argTypes.toList with
      | [x], [t] => match ρ x with
        | .slice (some _) n _ => match P.underlying t with
          | some (.slice _) => some (.val (.int .i64 (.ofNat n)))
          | _ => none
        | .string s => match P.underlying t with
          | some .string => some (.val (.int .i64 (.ofNat s.data.toList.length)))
          | _ => none
        | .map (some k) => match P.underlying t with
          | some (.map _ _) => match G k with
            | some (.map es _) => some (.val (.int .i64 (.ofNat es.length)))
            | _ => none
          | _ => none
        | _ => aquiet P o ρ
      | _, _ => none
    | .builtin .unsafeSliceData => match c.args.toList with
      | [x] => aval (aunData (ρ x))
      | _ => none
    | .builtin .unsafeString => match c.args.toList, c.argTypes.toList with
      | [x, n], [pt, _] => aunStr P G pt (ρ x) (ρ n)
      | _, _ => none
    | .builtin _ => aquiet P o ρ
    | _ => none
  | _ => aquiet P o ρ

/-! The same, each kind of operation by a constant of its own: so that the kernel copies little. -/
def aqBin (P : Program) (o : Oper) (ρ : Operand → Value) (b : BinOp) (t : Nat) (x y : Value) : Option ARes := match (afast b x y).or (sfast b x y) with
  | some v => some (.val v)
  | none => match aeq b x y with
    | some v => match eqTy P t x with
      | true => some (.val v)
      | false => none
    | none => match asame P b t x y with
      | some v => some (.val v)
      | none => aquiet P o ρ
def aqConv (P : Program) (G : Nat → Option AObj) (o : Oper) (ρ : Operand → Value) (s d : Nat) (x : Value) : Option ARes := match x with
  | .slice (some _) _ _ => aval (atext P G s d x)
  | .string _ => match abytes P s d x with
    | some r => some r
    | none => aquiet P o ρ
  | .int _ _ => aval (aconvI P s d x)
  | .pointer (some _) => aval (aunConv P G s d x)
  | _ => aquiet P o ρ
def aqExt (x : Value) (i : Nat) : Option ARes := match x with
  | .tuple vs => aval vs[i]?
  | _ => none
def aqNil (x : Value) : Option ARes := match x with
  | .pointer (some _) => some (.val x)
  | .func (.func _) _ _ => some (.val x)
  | _ => none
def aqNot (x : Value) : Option ARes := match x with
  | .bool b => some (.val (.bool (!b)))
  | _ => none
def aqIndex (P : Program) (t : Nat) (x i : Value) : Option ARes := match x with
  | .agg _ => aval (aindexv P t x i)
  | _ => aval (aindexS P t x i)
def aqPick (x a b : Value) : Option ARes := match x with
  | .bool true => some (.val a)
  | .bool false => some (.val b)
  | _ => none
def aopQ (P : Program) (G : Nat → Option AObj) (o : Oper) (ρ : Operand → Value) : Option ARes :=
  match o.op with
  | .move x => some (.val (ρ x))
  | .assign x => some (.val (ρ x))
  | .pick c a b => aqPick (ρ c) (ρ a) (ρ b)
  | .extract x i => aqExt (ρ x) i
  | .nilCheck x => aqNil (ρ x)
  | .load t x => aval (aload1 P G t (ρ x))
  | .store t x y => astore P G t (ρ x) (ρ y)
  | .fieldAddr s x f => aval (afield P s f (ρ x))
  | .indexAddr t x i => aval (aindex P t (ρ x) (ρ i))
  | .field t x f => aval (afieldv P t f (ρ x))
  | .index t x i => aqIndex P t (ρ x) (ρ i)
  | .unOp .not _ x => aqNot (ρ x)
  | .convert s d x => aqConv P G o ρ s d (ρ x)
  | .binOp b t x y _ => aqBin P o ρ b t (ρ x) (ρ y)
  | _ => aop P G o ρ

theorem aopQ_eq (P : Program) (G : Nat → Option AObj) (o : Oper) (ρ : Operand → Value) : aopQ P G o ρ = aop P G o ρ := by
  unfold aopQ aop
  cases o.op with
  | unOp u _ _ => cases u <;> rfl
  | _ => rfl

/-- No function of the program with a body bears the name of the one that is told apart. -/
def NoNum (P : Program) : Prop := ∀ (g : Nat) (fn : Func), P.funcs[g]? = some fn → fn.body.isSome = true → fn.name ≠ "runtime.NumGoroutine"

section
variable {P : Program} {w0 W : World} {μ : Nat → Option Loc} {G : Nat → Option AObj} {o : Oper} {ρ ρ' : Operand → Value}

theorem PR.map {ps : List (Nat × Operand)} (h : ∀ p ∈ ps, VR μ (ρ p.2) (ρ' p.2)) : PR μ (ps.map fun p => (p.1, ρ p.2)) (ps.map fun p => (p.1, ρ' p.2)) := by
  induction ps with
  | nil => exact .nil
  | cons p r ih => exact .cons (h p List.mem_cons_self) (ih fun q hq => h q (List.mem_cons_of_mem _ hq))

theorem VL.map {xs : List Operand} (h : ∀ x ∈ xs, VR μ (ρ x) (ρ' x)) : VL μ (xs.map ρ) (xs.map ρ') := by
  induction xs with
  | nil => exact .nil
  | cons p r ih => exact .cons (h p List.mem_cons_self) (ih fun q hq => h q (List.mem_cons_of_mem _ hq))

theorem OR.map {x : Option Operand} (h : ∀ y, x = some y → VR μ (ρ y) (ρ' y)) : OR μ (x.map ρ) (x.map ρ') := by
  cases x with
  | none => exact .no
  | some y => exact .so (h y rfl)

theorem eqnil (t : Nat) (x y : Value) (r : Bool) (h : ∀ d W, (Op.equalIn (d + 1) t x y).run P W = .ok r W) : (Op.equal t x y).run P W = .ok r W := h 9999 W

theorem nilNot_run {t : Nat} {X Y : Operand} {x y x' y' : Value} (h : nilNot x y = true) (ht : eqTy P t x = true ∨ eqTy P t y = true) (hx : VR μ x x') (hy : VR μ y y') :
    (do eqGuard .eql t X Y x' y'; binOp .eql t x' y' : Sem Value).run P W = .ok (.bool false) W ∧ (do eqGuard .neq t X Y x' y'; binOp .neq t x' y' : Sem Value).run P W = .ok (.bool true) W ∧
    (do eqGuard .eql t Y X y' x'; binOp .eql t y' x' : Sem Value).run P W = .ok (.bool false) W ∧ (do eqGuard .neq t Y X y' x'; binOp .neq t y' x' : Sem Value).run P W = .ok (.bool true) W := by
  unfold nilNot at h
  split at h
  · split at h
    · have hu : ∃ e, P.underlying t = some (.pointer e) := by
        rcases ht with ht | ht <;>
        · unfold eqTy at ht
          split at ht
          · exact ⟨_, ‹_›⟩
          all_goals simp at ht
      obtain ⟨e, hu⟩ := hu
      cases hx; cases hy
      rename_i o l hl
      have e1 := eqnil (P := P) (W := W) t (.pointer (some ⟨l.b, l.p + o, none⟩)) (.pointer none) false (fun d W => by rw [Op.equalIn]; simp [run_underlying hu])
      have e2 := eqnil (P := P) (W := W) t (.pointer none) (.pointer (some ⟨l.b, l.p + o, none⟩)) false (fun d W => by rw [Op.equalIn]; simp [run_underlying hu])
      simp [eqGuard, binOp, e1, e2]
    · cases h
  · split at h
    · have hu : ∃ e, P.underlying t = some (.slice e) := by
        rcases ht with ht | ht <;>
        · unfold eqTy at ht
          split at ht
          · simp at ht
          · exact ⟨_, ‹_›⟩
          all_goals simp at ht
      obtain ⟨e, hu⟩ := hu
      cases hy
      have e1 : ∀ a n c n' c', (Op.equal t (.slice (some a) n c) (.slice none n' c')).run P W = .ok false W := fun a n c n' c' => eqnil (P := P) (W := W) t _ _ false (fun d W => by rw [Op.equalIn]; simp [run_underlying hu])
      have e2 : ∀ a n c n' c', (Op.equal t (.slice none n' c') (.slice (some a) n c)).run P W = .ok false W := fun a n c n' c' => eqnil (P := P) (W := W) t _ _ false (fun d W => by rw [Op.equalIn]; simp [run_underlying hu])
      cases hx <;> simp [eqGuard, binOp, e1, e2]
    · cases h
  · split at h
    · have hu : ∃ e e', P.underlying t = some (.map e e') := by
        rcases ht with ht | ht <;>
        · unfold eqTy at ht
          split at ht
          · simp at ht
          · simp at ht
          · exact ⟨_, _, ‹_›⟩
          all_goals simp at ht
      obtain ⟨e, e', hu⟩ := hu
      cases hx; cases hy
      rename_i l hl
      have e1 := eqnil (P := P) (W := W) t (.map (some l.b)) (.map none) false (fun d W => by rw [Op.equalIn]; simp [run_underlying hu])
      have e2 := eqnil (P := P) (W := W) t (.map none) (.map (some l.b)) false (fun d W => by rw [Op.equalIn]; simp [run_underlying hu])
      simp [eqGuard, binOp, e1, e2]
    · cases h
  · split at h
    · have hu : ∃ a b c, P.underlying t = some (.func a b c) := by
        rcases ht with ht | ht <;>
        · unfold eqTy at ht
          split at ht
          · simp at ht
          · simp at ht
          · simp at ht
          · exact ⟨_, _, _, ‹_›⟩
          all_goals simp at ht
      obtain ⟨e, e', e'', hu⟩ := hu
      cases hx; cases hy
      have e1 : ∀ f a b, (Op.equal t (.func f a b) .nilFunc).run P W = .ok false W := fun f a b => eqnil (P := P) (W := W) t _ _ false (fun d W => by rw [Op.equalIn]; simp [run_underlying hu])
      have e2 : ∀ f a b, (Op.equal t .nilFunc (.func f a b)).run P W = .ok false W := fun f a b => eqnil (P := P) (W := W) t _ _ false (fun d W => by rw [Op.equalIn]; simp [run_underlying hu])
      simp [eqGuard, binOp, e1, e2]
    · cases h
  · cases h

theorem ok_eq {b : BinOp} {t : Nat} {X Y : Operand} {x y x' y' v : Value} (h : aeq b x y = some v) (ht : eqTy P t x = true) (hx : VR μ x x') (hy : VR μ y y') :
    (do eqGuard b t X Y x' y'; binOp b t x' y' : Sem Value).run P W = .ok v W := by
  unfold aeq at h
  split at h
  · split at h
    · rename_i hb
      cases h
      rcases Bool.or_eq_true_iff.mp hb with hb | hb
      · exact (nilNot_run (X := X) (Y := Y) hb (.inl ht) hx hy).1
      · exact (nilNot_run (X := Y) (Y := X) hb (.inr ht) hy hx).2.2.1
    · cases h
  · split at h
    · rename_i hb
      cases h
      rcases Bool.or_eq_true_iff.mp hb with hb | hb
      · exact (nilNot_run (X := X) (Y := Y) hb (.inl ht) hx hy).2.1
      · exact (nilNot_run (X := Y) (Y := X) hb (.inr ht) hy hx).2.2.2
    · cases h
  · cases h

theorem asame_ok {b : BinOp} {t : Nat} {X Y : Operand} {x y x' y' v : Value} (h : asame P b t x y = some v) (hx : VR μ x x') (hy : VR μ y y') :
    (do eqGuard b t X Y x' y'; binOp b t x' y' : Sem Value).run P W = .ok v W ∧ flat1 v = true := by
  unfold asame at h
  split at h
  · rename_i k o
    split at h
    · rename_i k' o'
      split at h
      · rename_i hb
        simp only [Bool.and_eq_true] at hb
        obtain rfl := Nat.eq_of_beq_eq_true hb.1
        obtain rfl := Nat.eq_of_beq_eq_true hb.2
        split at h
        · rename_i te hu
          split at h
          · rename_i j hj
            cases hx with
            | ptr hm =>
              rename_i l
              cases hy with
              | ptr hm2 =>
                rename_i l2
                rw [hm] at hm2; cases hm2
                have e1 : (Op.equal t (.pointer (some ⟨l.b, l.p + o, none⟩)) (.pointer (some ⟨l.b, l.p + o, none⟩))).run P W = .ok true W := eqnil (P := P) (W := W) t _ _ true (fun d W => by
                  simp [Op.equalIn, run_underlying hu, sizeOf, typeInfo, hj, run_sameAddr_same])
                split at h
                · cases h
                  exact ⟨by simp [eqGuard, binOp, e1], rfl⟩
                · cases h
                  exact ⟨by simp [eqGuard, binOp, e1], rfl⟩
                · cases h
          · cases h
        · cases h
      · cases h
    · cases h
  · cases h

theorem aload1_ok {t : Nat} {x x' v : Value} (h : aload1 P G t x = some v) (hx : VR μ x x') (hw : HR P w0 μ G W) : ∃ v', (Instr.loadAt t x').run P W = .ok v' W ∧ VR μ v v' := by
  unfold aload1 at h
  split at h
  · split at h
    · rename_i hc
      exact ok_load hc h hx hw
    · cases h
  · cases h

theorem astore_ok {t : Nat} {x x' v v' : Value} {r : ARes} (h : astore P G t x v = some r) (hx : VR μ x x') (hv : VR μ v v') (hw : HR P w0 μ G W) :
    AOk P w0 μ G W ((do Instr.storeAt t x' v'; pure .skip : Sem Next).run P W) r := by
  unfold astore at h
  split at h
  · split at h
    · rename_i hk
      split at h
      · cases h
      · rename_i n hs
        split at h
        · rename_i hb
          cases h
          simp only [Bool.and_eq_true] at hb
          obtain ⟨⟨h1, h2⟩, h3⟩ := hb
          have h1 := Nat.eq_of_beq_eq_true h1
          subst h1
          obtain ⟨W', q1, q2⟩ := ok_store hk hs h2 (Nat.le_of_ble_eq_true h3) hx hv hw
          exact ⟨W', by simp only [Sem.run_bind, q1, Result.andThen_ok, Sem.run_pure], q2⟩
        · cases h
    · cases h
  · cases h

theorem runv {m : Sem Value} {v : Value} {W' : World} (h : m.run P W = .ok v W') : (do pure (.value (← m)) : Sem Next).run P W = .ok (.value v) W' := by
  simp only [Sem.run_bind, h, Result.andThen_ok, Sem.run_pure]

theorem okv {v v' : Value} {r : Result Next} (h : r = .ok (.value v') W) (hv : VR μ v v') (hw : HR P w0 μ G W) : AOk P w0 μ G W r (.val v) := ⟨v', W, h, hv, hw⟩

theorem VR.ptr_inv {a : Addr} {y : Value} (h : VR μ (.pointer (some a)) y) : ∃ a', y = .pointer (some a') := by
  cases h; exact ⟨_, rfl⟩
theorem VR.func_inv {f : Fn} {as bs : Array Value} {y : Value} (h : VR μ (.func f as bs) y) : ∃ as' bs', y = .func f as' bs' := by
  cases h; exact ⟨_, _, rfl⟩
theorem VR.slice_inv {a : Addr} {n c : Nat} {y : Value} (h : VR μ (.slice (some a) n c) y) : ∃ a' c', y = .slice (some a') n c' := by
  cases h <;> exact ⟨_, _, rfl⟩

theorem acallf_ok {f f' : Value} {args args' : List Value} {r : ARes} (h : acallf P f args = some r) (hf : VR μ f f') (ha : VL μ args args') :
    AOk P w0 μ G W ((do let d ← Deferred.ofValue f' args'.toArray; invoke d.target d.args : Sem Next).run P W) r := by
  unfold acallf at h
  split at h
  · rename_i g first captured
    cases h
    cases hf with
    | func hs1 h1 hs2 h2 =>
      rename_i first' captured'
      have v1 : VL μ first.toList first'.toList := ⟨by simpa using hs1, fun i x y hx hy => h1 i x y (by simpa using hx) (by simpa using hy)⟩
      have v2 : VL μ captured.toList captured'.toList := ⟨by simpa using hs2, fun i x y hx hy => h2 i x y (by simpa using hx) (by simpa using hy)⟩
      refine ⟨first' ++ args'.toArray ++ captured', ?_, by simpa using (v1.append ha).append v2⟩
      simp [Deferred.ofValue, invoke]
  · cases h

/-! ### Package unsafe -/
theorem liesAt_row {e : Nat} (hc : P.cellsOf e = 1) (count off n : Nat) (hn : off + n ≤ count) : liesAt P P.depth e count off e n = true := by
  have hd : P.depth = (2 * (P.types.size + Made.depth) + 1) + 1 := rfl
  rw [hd]
  simp only [liesAt, Bool.or_eq_true]
  left
  rw [hd]
  simp [rowAt, hc, sameLayout]
  omega

theorem run_unsafeString_at (pt it ty e : Nat) (hp : P.underlying pt = some (.pointer e)) (hc : P.cellsOf e = 1) (g off cells : Nat) (hsh : W.shape? g = some (e, cells)) (l : List UInt8) (h0 : l ≠ []) (hn : off + l.length ≤ cells) (h63 : l.length ≤ 9223372036854775807)
    (hcell : ∀ j x, l[j]? = some x → W.cell? ((⟨g, off, none⟩ : Addr).add j) = some (.int .u8 x.toNat)) :
    (Builtin.unsafeString_ #[pt, it] ty #[.pointer (some ⟨g, off, none⟩), .int .i64 l.length]).run P W = .ok (.string ⟨l.toArray⟩) (W.freeze ⟨g, off, none⟩ l.length) := by
  have hl : l.length ≠ 0 := by simpa using h0
  have hlb := Lib.run_loadBytes (P := P) W l ⟨g, off, none⟩ .empty hcell
  have hlies := liesAt_row (P := P) hc (cells / P.cellsOf e) off l.length (by rw [hc]; simpa using hn)
  have h63' : ¬ (9223372036854775807 : Int) < (l.length : Int) := by omega
  have hdef : Builtin.unsafeString_ #[pt, it] ty #[.pointer (some ⟨g, off, none⟩), .int .i64 l.length] =
      (do
        let n ← asInt (.int .i64 l.length)
        if n < 0 then runtimePanic (.error "unsafe.String: len out of range")
        if n > IntKind.i64.max then unsupported (.unsafePointer "String: a length above the largest int")
        if n = 0 then pure (.string .empty)
        else if ← variablesAt ⟨g, off, none⟩ (← elemOf pt) n.toNat then do
          let s ← loadBytes ⟨g, off, none⟩ .empty n.toNat
          freeze ⟨g, off, none⟩ n.toNat
          pure (.string s)
        else unsupported (.unsafePointer "String: not so many bytes at ptr")) := rfl
  rw [hdef]
  have hmax : IntKind.i64.max = 9223372036854775807 := rfl
  have hneg : ¬ (l.length : Int) < 0 := by omega
  simp [asInt, asIntOf, hmax, h63', hneg, hl, variablesAt, hsh, elemOf, run_underlying hp, hlies, hlb]

theorem HR.freeze (h : HR P w0 μ G W) {k : Nat} {l : Loc} {c : List Value} {e : Nat × Bool} (hk : G k = some (.row c e)) (hm : μ k = some l) (off n : Nat) : HR P w0 μ (upd G k .dead) (W.freeze ⟨l.b, off, none⟩ n) := by
  obtain ⟨l', C, fr, q1, q2, q3, _⟩ := h.row k c e hk
  rw [hm] at q1; cases q1
  have hblk : ∀ j, j ≠ l.b → (W.freeze ⟨l.b, off, none⟩ n).heap[j]? = W.heap[j]? := by
    intro j hj
    unfold World.freeze
    split
    · rfl
    · simp only [Array.getElem?_modify]
      rw [if_neg (fun e => hj e.symm)]
  have hsz : (W.freeze ⟨l.b, off, none⟩ n).heap.size = W.heap.size := by
    unfold World.freeze
    split
    · rfl
    · simp
  have hos : (W.freeze ⟨l.b, off, none⟩ n).os = W.os ∧ (W.freeze ⟨l.b, off, none⟩ n).tape = W.tape ∧ (W.freeze ⟨l.b, off, none⟩ n).output = W.output := by
    unfold World.freeze
    split <;> exact ⟨rfl, rfl, rfl⟩
  have hk' := h.kill k
  refine ⟨⟨hos.1.trans h.below.os, hos.2.1.trans h.below.tape, hos.2.2.trans h.below.output, by rw [hsz]; exact h.below.size, fun i hi => by rw [hblk i (by omega)]; exact h.below.block i hi⟩, ?_, hk'.ro, hk'.inj, ?_, hk'.minj⟩
  rotate_left
  · intro j es cl hj
    obtain ⟨l1, es', r1, r2, r3, r4⟩ := hk'.mp j es cl hj
    refine ⟨l1, es', r1, r2, ?_, r4⟩
    rw [hblk l1.b, r3]
    intro e9
    rw [e9, q3] at r3
    cases r3
  intro j d e' hj
  obtain ⟨l1, C', fr', r1, r2, r3, r4⟩ := hk'.row j d e' hj
  refine ⟨l1, C', fr', r1, r2, ?_, r4⟩
  rw [hblk l1.b, r3]
  intro e9
  have hjk : j ≠ k := fun e2 => by subst e2; rw [upd_same] at hj; cases hj
  rw [upd_ne hjk] at hj
  exact hjk (h.inj j k d c e' e l1 l hj hk r1 hm e9)

theorem aunConv_ok {s d : Nat} {x x' v : Value} (h : aunConv P G s d x = some v) (hx : VR μ x x') (hw : HR P w0 μ G W) : (convert s d x').run P W = .ok x' W ∧ v = x := by
  unfold aunConv at h
  split at h
  · rename_i k off
    split at h
    · rename_i c e hg
      cases hx with
      | ptr hm =>
        rename_i l
        obtain ⟨l', C, fr, q1, q2, q3, q4, q5, ⟨q6, q7, q8⟩, q9⟩ := hw.row k c e hg
        rw [hm] at q1; cases q1
        have hsh : W.shape? l.b = some (e.1, C.size) := by simp [World.shape?, q3]
        split at h
        · rename_i t hs hd
          split at h
          · rename_i m hsz
            obtain ⟨i, hi, hsi⟩ := szOf_info hsz
            split at h
            · rename_i hlt
              cases h
              have hlt : off < c.length := Nat.le_of_ble_eq_true hlt
              exact ⟨Lib.run_to_unsafe W ⟨l.b, l.p + off, none⟩ hs hd hi (by omega) hsh (by show l.p + off < C.size; omega), rfl⟩
            · cases h
          · cases h
        · rename_i u hs hd
          split at h
          · rename_i m hsz
            obtain ⟨i, hi, hsi⟩ := szOf_info hsz
            split at h
            · rename_i hb
              cases h
              simp only [Bool.and_eq_true] at hb
              obtain ⟨z1, z2⟩ := q8 hb.1
              refine ⟨Lib.run_from_unsafe W ⟨l.b, l.p + off, none⟩ hs hd hi hsh ?_, rfl⟩
              rw [z1, z2, Nat.zero_add]
              exact hb.2
            · cases h
          · cases h
        · cases h
    · cases h
  · cases h

theorem aunStr_ok {pt it ty : Nat} {x n x' n' : Value} {r : ARes} (h : aunStr P G pt x n = some r) (hx : VR μ x x') (hn : VR μ n n') (hw : HR P w0 μ G W) :
    AOk P w0 μ G W ((do pure (.value (← Builtin.unsafeString_ #[pt, it] ty #[x', n'])) : Sem Next).run P W) r := by
  unfold aunStr at h
  split at h
  · have hn' := flat1_eq (by rfl) hn
    subst hn'
    split at h
    · cases h
      have hx' := flat1_eq (by rfl) hx
      subst hx'
      exact okv (runv (Lib.run_unsafeString_none W pt it ty none)) (.string _) hw
    · cases h
      obtain ⟨a', hx'⟩ := hx.ptr_inv
      subst hx'
      exact okv (runv (Lib.run_unsafeString_none W pt it ty (some a'))) (.string _) hw
    · cases h
  · rename_i m
    have hn' := flat1_eq (by rfl) hn
    subst hn'
    split at h
    · rename_i k off
      split at h
      · rename_i c e hg
        split at h
        · rename_i e' hp
          split at h
          · cases h
          · rename_i hb
            simp only [Bool.and_eq_true] at hb
            have h1 := Nat.eq_of_beq_eq_true hb.1.1
            have h2 := Nat.eq_of_beq_eq_true hb.1.2
            have h3 := Nat.le_of_ble_eq_true hb.2
            subst h1
            split at h
            · cases h
            · rename_i vs hvs
              split at h
              · rename_i bs hbs
                split at h
                · rename_i hall
                  cases h
                  cases hx with
                  | ptr hm =>
                    rename_i l
                    obtain ⟨l', C, fr, q1, q2, q3, q4, q5, ⟨q6, q7, q8⟩, q9⟩ := hw.row k c e hg
                    rw [hm] at q1; cases q1
                    have hsh : W.shape? l.b = some (e.1, C.size) := by simp [World.shape?, q3]
                    obtain ⟨ys, g1, g2⟩ := hw.cells (k := k) (c := c) (by simp [cellsAt, hg]) hm (subl_get hvs)
                    obtain ⟨z1, z2⟩ := bytes_back hbs hall
                    have hlen : bs.length = m + 1 := by rw [z1, (subl_spec hvs).1]
                    have hofl : off + (m + 1) ≤ c.length := by
                      unfold subl at hvs
                      split at hvs
                      · rename_i hb9; exact Nat.le_of_ble_eq_true hb9
                      · cases hvs
                    have hrun := run_unsafeString_at (P := P) (W := W) pt it ty e.1 hp h2 l.b (l.p + off) C.size hsh bs (by intro e9; rw [e9] at hlen; simp at hlen) (by omega) (by omega) (fun j x hj => by
                      rw [Addr.add_lit]
                      refine g2 j _ ?_
                      have h5 := z2 j x hj
                      obtain ⟨y, hy, hr⟩ := g1.get h5
                      rw [hy, flat1_eq (by rfl) hr])
                    rw [hlen] at hrun
                    refine ⟨_, runv hrun, rfl, hw.freeze hg hm _ _⟩
                · cases h
              · cases h
        · cases h
      · cases h
    · cases h
  · cases h

theorem obool_spec {x : Option Bool} {v : Value} (h : obool x = some v) : ∃ b, x = some b ∧ v = .bool b := by
  cases x with
  | none => cases h
  | some b => cases h; exact ⟨b, rfl, rfl⟩
theorem onot_spec {x : Option Bool} {v : Value} (h : onot x = some v) : ∃ b, x = some b ∧ v = .bool (!b) := by
  cases x with
  | none => cases h
  | some b => cases h; exact ⟨b, rfl, rfl⟩
theorem leN_spec {a c : Int} {b : Bool} (h : leN a c = some b) : decide (a ≤ c) = b := by
  unfold leN at h
  split at h
  · rename_i x y
    cases h
    have e1 : Int.ofNat x = (x : Int) := rfl
    have e2 : Int.ofNat y = (y : Int) := rfl
    rw [e1, e2, Bool.eq_iff_iff]
    simp only [decide_eq_true_eq, Nat.ble_eq]
    omega
  · cases h
theorem eqN_spec {a c : Int} {b : Bool} (h : eqN a c = some b) : (a == c) = b := by
  unfold eqN at h
  split at h
  · rename_i x y
    cases h
    have e1 : Int.ofNat x = (x : Int) := rfl
    have e2 : Int.ofNat y = (y : Int) := rfl
    rw [e1, e2, Bool.eq_iff_iff]
    simp only [beq_iff_eq, Nat.beq_eq]
    omega
  · cases h

theorem bits_small {k : IntKind} {x : Nat} (hu : unsigned k = true) (h : x ≤ maxN k) : x < 2 ^ k.bits := by
  cases k <;> simp only [unsigned] at hu <;> first | (cases hu; done) | (simp only [maxN] at h; simp only [IntKind.bits]; omega)

theorem wrap_small {k : IntKind} {x : Nat} (hu : unsigned k = true) (h : x < 2 ^ k.bits) : k.wrap (x : Int) = (x : Int) := by
  cases k <;> simp only [unsigned] at hu <;> first | (cases hu; done) | (simp only [IntKind.bits] at h; simp [IntKind.wrap, IntKind.bits, IntKind.signed]; omega)

theorem bv_small {n x : Nat} (h : x < 2 ^ n) : (BitVec.ofInt n (Int.ofNat x)).toNat = x := by
  rw [BitVec.toNat_ofInt]
  have : (Int.ofNat x % ((2 ^ n : Nat) : Int)) = ((x % 2 ^ n : Nat) : Int) := rfl
  rw [this, Int.toNat_natCast, Nat.mod_eq_of_lt h]

theorem bits_ok {k : IntKind} {f : Nat → Nat → Nat} {a c : Int} {v : Value} (h : bitsN k f a c = some v) (g : BitVec k.bits → BitVec k.bits → BitVec k.bits) (hg : ∀ p q : BitVec k.bits, (g p q).toNat = f p.toNat q.toNat) :
    v = .int k (k.wrap ((g (BitVec.ofInt k.bits a) (BitVec.ofInt k.bits c)).toNat : Int)) := by
  unfold bitsN at h
  split at h
  · rename_i x y
    split at h
    · rename_i hb
      simp only [Bool.and_eq_true] at hb
      cases h
      have h1 := bits_small hb.1.1 (Nat.le_of_ble_eq_true hb.1.2)
      have h2 := bits_small hb.1.1 (Nat.le_of_ble_eq_true hb.2)
      have h3 := hg (BitVec.ofInt k.bits (Int.ofNat x)) (BitVec.ofInt k.bits (Int.ofNat y))
      rw [bv_small h1, bv_small h2] at h3
      have h4 : f x y < 2 ^ k.bits := by rw [← h3]; exact BitVec.isLt _
      rw [h3, wrap_small hb.1.1 h4]
      rfl
    · cases h
  · cases h

theorem bits_flat {k : IntKind} {f : Nat → Nat → Nat} {a c : Int} {v : Value} (h : bitsN k f a c = some v) : flat1 v = true := by
  unfold bitsN at h
  split at h
  · split at h
    · cases h; rfl
    · cases h
  · cases h

theorem afast_ok {b : BinOp} {t : Nat} {X Y : Operand} {x y v : Value} (h : afast b x y = some v) : (do eqGuard b t X Y x y; binOp b t x y : Sem Value).run P W = .ok v W ∧ flat1 v = true ∧ flat1 x = true ∧ flat1 y = true := by
  unfold afast at h
  split at h
  · rename_i k a
    split at h
    · rename_i l c
      split at h
      · cases h
      · rename_i hk
        have hk := beqK_eq hk
        subst hk
        split at h
        · cases h; exact ⟨by simp [eqGuard, binOp, Op.intArith, wrapF_eq], rfl, rfl, rfl⟩
        · cases h; exact ⟨by simp [eqGuard, binOp, Op.intArith, wrapF_eq], rfl, rfl, rfl⟩
        · cases h; exact ⟨by simp [eqGuard, binOp, Op.intArith, wrapF_eq], rfl, rfl, rfl⟩
        · obtain ⟨q, h1, rfl⟩ := obool_spec h
          exact ⟨by simp [eqGuard, binOp, Op.intCmp, ← eqN_spec h1], rfl, rfl, rfl⟩
        · obtain ⟨q, h1, rfl⟩ := onot_spec h
          exact ⟨by simp [eqGuard, binOp, Op.intCmp, ← eqN_spec h1, bne], rfl, rfl, rfl⟩
        · obtain ⟨q, h1, rfl⟩ := onot_spec h
          have h2 : (!q) = decide (a < c) := by rw [← leN_spec h1, Bool.eq_iff_iff]; simp
          exact ⟨by simp only [eqGuard, binOp, Op.intCmp, h2]; simp, rfl, rfl, rfl⟩
        · obtain ⟨q, h1, rfl⟩ := obool_spec h
          exact ⟨by simp [eqGuard, binOp, Op.intCmp, ← leN_spec h1], rfl, rfl, rfl⟩
        · obtain ⟨q, h1, rfl⟩ := onot_spec h
          have h2 : (!q) = decide (a > c) := by rw [← leN_spec h1, Bool.eq_iff_iff]; simp
          exact ⟨by simp only [eqGuard, binOp, Op.intCmp, h2]; simp, rfl, rfl, rfl⟩
        · obtain ⟨q, h1, rfl⟩ := obool_spec h
          exact ⟨by simp [eqGuard, binOp, Op.intCmp, ← leN_spec h1, GE.ge], rfl, rfl, rfl⟩
        · have h1 := bits_ok h (fun p q => p &&& q) (fun p q => BitVec.toNat_and p q)
          exact ⟨by rw [h1]; simp [eqGuard, binOp, Op.intBits], bits_flat h, rfl, rfl⟩
        · have h1 := bits_ok h (fun p q => p ||| q) (fun p q => BitVec.toNat_or p q)
          exact ⟨by rw [h1]; simp [eqGuard, binOp, Op.intBits], bits_flat h, rfl, rfl⟩
        · have h1 := bits_ok h (fun p q => p ^^^ q) (fun p q => BitVec.toNat_xor p q)
          exact ⟨by rw [h1]; simp [eqGuard, binOp, Op.intBits], bits_flat h, rfl, rfl⟩
        · split at h
          · rename_i p q
            cases h
            have h1 : ¬ (Int.ofNat (q + 1) = 0) := by
              have e : Int.ofNat (q + 1) = ((q + 1 : Nat) : Int) := rfl
              rw [e]; omega
            have h2 : Int.tdiv (Int.ofNat p) (Int.ofNat (q + 1)) = Int.ofNat (p / (q + 1)) := rfl
            exact ⟨by simp only [eqGuard, binOp, Op.intDiv, if_neg h1, h2, wrapF_eq]; simp, rfl, rfl, rfl⟩
          · cases h
        · split at h
          · rename_i p q
            cases h
            have h1 : ¬ (Int.ofNat (q + 1) = 0) := by
              have e : Int.ofNat (q + 1) = ((q + 1 : Nat) : Int) := rfl
              rw [e]; omega
            have h2 : Int.tmod (Int.ofNat p) (Int.ofNat (q + 1)) = Int.ofNat (p % (q + 1)) := rfl
            exact ⟨by simp only [eqGuard, binOp, Op.intDiv, if_neg h1, h2]; simp, rfl, rfl, rfl⟩
          · cases h
        · cases h
    · cases h
  · cases h

theorem sfast_ok {b : BinOp} {t : Nat} {X Y : Operand} {x y v : Value} (h : sfast b x y = some v) : (do eqGuard b t X Y x y; binOp b t x y : Sem Value).run P W = .ok v W ∧ flat1 v = true ∧ flat1 x = true ∧ flat1 y = true := by
  unfold sfast at h
  split at h
  · rename_i a
    split at h
    · rename_i c
      have heq : (a.toList == c.toList) = byteEq a.data.toList c.data.toList := by
        cases hb : byteEq a.data.toList c.data.toList with
        | true => exact str_eq_t (ba_eq ((byteEq_iff _ _).mp hb))
        | false => exact str_eq_f (fun e => by rw [e, (byteEq_iff _ _).mpr rfl] at hb; cases hb)
      split at h
      · split at h
        · rename_i hb
          cases h
          have hb := Nat.le_of_ble_eq_true hb
          have l1 : a.data.toList.length = a.size := Array.length_toList
          have l2 : c.data.toList.length = c.size := Array.length_toList
          have h1 : ¬ (((a.size + c.size : Nat) : Int) > IntKind.i64.max) := by rw [IntKind.max_i64]; omega
          have h2 : (a ++ c : ByteArray) = ⟨⟨a.data.toList ++ c.data.toList⟩⟩ := by
            apply ba_eq
            rw [ByteArray.data_append, Array.toList_append]
          exact ⟨by simp only [eqGuard, binOp, Op.stringOp, if_neg h1, h2]; rfl, rfl, rfl, rfl⟩
        · cases h
      · cases h; exact ⟨by simp only [eqGuard, binOp, Op.stringOp, heq]; rfl, rfl, rfl, rfl⟩
      · cases h; exact ⟨by simp only [eqGuard, binOp, Op.stringOp, heq]; rfl, rfl, rfl, rfl⟩
      · cases h
    · cases h
  · cases h

theorem asliceS_ok {t : Nat} {x x' v : Value} {lo hi lo' hi' : Option Value} (h : asliceS P t x lo hi = some v) (hx : VR μ x x') (hlo : OR μ lo lo') (hhi : OR μ hi hi') : (Instr.sliceAt t x' lo' hi' none).run P W = .ok v W ∧ flat1 v = true := by
  unfold asliceS at h
  split at h
  · rename_i s
    split at h
    · rename_i hu
      split at h
      · cases h
      · rename_i hh hbh
        split at h
        · cases h
        · rename_i l hbl
          cases h
          have hx' := flat1_eq (by rfl) hx
          subst hx'
          have l1 : s.data.toList.length = s.size := Array.length_toList
          have hr := run_bounds (P := P) (W := W) (b := false) (hhi.bnd hbh) (hlo.bnd hbl) (Nat.le_refl _)
          rw [l1] at hr
          have h2 : s.extract l hh = ⟨⟨(s.data.toList.drop l).take (hh - l)⟩⟩ := by
            apply ba_eq
            rw [ByteArray.data_extract, Array.toList_extract]
          refine ⟨?_, rfl⟩
          simp only [Instr.sliceAt, Instr.slice, Sem.run_bind, run_underlying hu, Result.andThen_ok, Option.isSome_none, Bool.false_eq_true, if_false, hr, h2, Sem.run_pure]
    · cases h
  · cases h

theorem aindexS_ok {t : Nat} {x x' i i' v : Value} (h : aindexS P t x i = some v) (hx : VR μ x x') (hi : VR μ i i') : (Instr.index t x' i').run P W = .ok v W ∧ flat1 v = true := by
  unfold aindexS at h
  split at h
  · rename_i s
    split at h
    · rename_i hu
      split at h
      · rename_i k m
        split at h
        · rename_i b hb
          cases h
          have hx' := flat1_eq (by rfl) hx
          have hi' := flat1_eq (by rfl) hi
          subst hx'; subst hi'
          refine ⟨?_, rfl⟩
          have h0 : (0 : Int) ≤ Int.ofNat m := Int.natCast_nonneg m
          have hlt : m < s.size := by have := (List.getElem?_eq_some_iff.1 hb).1; rw [Array.length_toList] at this; exact this
          have hs : s[m]? = some b := by
            have h1 : s[m] = b := by
              have := (List.getElem?_eq_some_iff.1 hb).2
              rw [← this]
              rfl
            rw [getElem?_pos s m hlt, h1]
          simp only [Instr.index, asIntOf, Sem.run_bind, Sem.run_pure, Result.andThen_ok, run_underlying hu, if_pos h0]
          have e : (Int.ofNat m).toNat = m := rfl
          rw [e, hs]
          rfl
        · cases h
      · cases h
    · cases h
  · cases h

theorem aconvI_ok {s d : Nat} {x x' v : Value} (h : aconvI P s d x = some v) (hx : VR μ x x') : (convert s d x').run P W = .ok v W ∧ flat1 v = true := by
  unfold aconvI at h
  split at h
  · rename_i k n
    split at h
    · cases h
    · rename_i hs
      split at h
      · rename_i k' hd
        cases h
        cases hx
        exact ⟨by simp [convert, run_underlying hs, run_underlying hd, Conv.intToInt, wrapF_eq], rfl⟩
      · cases h
  · cases h

set_option maxHeartbeats 1000000 in
/-- The model's operation comes to what the plain one says. -/
theorem aop_ok {r : ARes} (h : aop P G o ρ = some r) (hρ : OpsR μ o ρ ρ') (hw : HR P w0 μ G W) : AOk P w0 μ G W ((execOp ρ' o).run P W) r := by
  unfold aop at h
  split at h
  · rename_i x ho
    cases h
    exact okv (by simp [execOp, ho]) (hρ x (by simp [ho, Op.operands])) hw
  · rename_i x ho
    cases h
    exact okv (by simp [execOp, ho]) (hρ x (by simp [ho, Op.operands])) hw
  · rename_i c a b ho
    have hc := hρ c (by simp [ho, Op.operands])
    split at h
    · rename_i e
      cases h
      rw [e] at hc
      have hc' : ρ' c = .bool true := flat1_eq rfl hc
      exact okv (v' := ρ' a) (by simp [execOp, ho, hc', asBool]) (hρ a (by simp [ho, Op.operands])) hw
    · rename_i e
      cases h
      rw [e] at hc
      have hc' : ρ' c = .bool false := flat1_eq rfl hc
      exact okv (v' := ρ' b) (by simp [execOp, ho, hc', asBool]) (hρ b (by simp [ho, Op.operands])) hw
    · cases h
  · rename_i x i ho
    have hx := hρ x (by simp [ho, Op.operands])
    split at h
    · rename_i vs e
      obtain ⟨v, hv, rfl⟩ := aval_spec h
      rw [e] at hx
      obtain ⟨vs', hx', hl⟩ := VL.of_tuple hx
      obtain ⟨y, hy, hr⟩ := hl.get (by rw [Array.getElem?_toList]; exact hv)
      rw [Array.getElem?_toList] at hy
      refine okv (v' := y) ?_ hr hw
      simp [execOp, ho, hx', Instr.extract, hy]
    · cases h
  · rename_i x ho
    have hx := hρ x (by simp [ho, Op.operands])
    split at h
    · rename_i a e
      cases h
      rw [e] at hx ⊢
      obtain ⟨a', hx'⟩ := hx.ptr_inv
      refine okv ?_ hx hw
      simp [execOp, ho, hx']
    · rename_i f a b e
      cases h
      rw [e] at hx ⊢
      obtain ⟨as', bs', hx'⟩ := hx.func_inv
      refine okv ?_ hx hw
      simp [execOp, ho, hx']
    · cases h
  · rename_i t x ho
    obtain ⟨v, hv, rfl⟩ := aval_spec h
    obtain ⟨v', h1, h2⟩ := aload1_ok hv (hρ x (by simp [ho, Op.operands])) hw
    exact okv (by simp only [execOp, ho]; exact runv h1) h2 hw
  · rename_i t x y ho
    have := astore_ok h (hρ x (by simp [ho, Op.operands])) (hρ y (by simp [ho, Op.operands])) hw
    simp only [execOp, ho]
    exact this
  · rename_i t ho
    split at h
    · rename_i zs n hz hs
      cases h
      obtain ⟨z, hz0, rfl, hzf⟩ := zeroC_spec hz
      intro k hk
      obtain ⟨W', h1, h2⟩ := ok_var (P := P) (v := z) (v' := z) hs (flat2_rel (by
        cases z <;> first | exact hzf | (simp [Value.cells] at hzf; exact hzf))) hw hk
      refine ⟨_, W', _, ?_, .ptr (l := ⟨W.heap.size, 0, n, z.cells.toList.length⟩) (upd_same _ _ _), h2⟩
      simp only [execOp, ho]
      refine runv ?_
      simp [Instr.alloc, run_zero hz0, h1]
    · cases h
  · rename_i t x ho
    split at h
    · rename_i n hs
      cases h
      intro k hk
      obtain ⟨W', h1, h2⟩ := ok_var (P := P) hs (hρ x (by simp [ho, Op.operands])) hw hk
      refine ⟨_, W', _, ?_, .ptr (l := ⟨W.heap.size, 0, n, (ρ' x).cells.toList.length⟩) (upd_same _ _ _), h2⟩
      simp only [execOp, ho]
      refine runv ?_
      simp [Instr.box, h1]
    · cases h
  · rename_i t ps ho
    obtain ⟨v, hv, rfl⟩ := aval_spec h
    have hp : PR μ (ps.map fun (p : Nat × Operand) => (p.1, ρ p.2)).toList (ps.map fun (p : Nat × Operand) => (p.1, ρ' p.2)).toList := by
      rw [Array.toList_map, Array.toList_map]
      exact PR.map fun p hp => hρ p.2 (by simp only [ho, Op.operands, List.mem_toArray, List.mem_map]; exact ⟨p, hp, rfl⟩)
    obtain ⟨v', h1, h2⟩ := ok_build (P := P) (W := W) (t := t) (ps := ps.map fun (p : Nat × Operand) => (p.1, ρ p.2)) (by rw [Array.toList_map]; exact hv) hp
    exact okv (by simp only [execOp, ho]; exact runv h1) h2 hw
  · rename_i t n ps ho
    have hp : PR μ (ps.map fun (p : Nat × Operand) => (p.1, ρ p.2)).toList (ps.map fun (p : Nat × Operand) => (p.1, ρ' p.2)).toList := by
      rw [Array.toList_map, Array.toList_map]
      exact PR.map fun p hp => hρ p.2 (by simp only [ho, Op.operands, List.mem_toArray, List.mem_map]; exact ⟨p, hp, rfl⟩)
    have := ok_buildS (P := P) (W := W) (t := t) (len := n) (ps := ps.map fun (p : Nat × Operand) => (p.1, ρ p.2)) (by rw [Array.toList_map]; exact h) hp hw
    simp only [execOp, ho]
    exact this
  · rename_i t l c ho
    have := ok_make h (hρ l (by simp [ho, Op.operands])) (hρ c (by simp [ho, Op.operands])) hw
    simp only [execOp, ho]
    exact this
  · rename_i s x f ho
    obtain ⟨v, hv, rfl⟩ := aval_spec h
    obtain ⟨v', h1, h2⟩ := ok_field (W := W) hv (hρ x (by simp [ho, Op.operands]))
    exact okv (by simp only [execOp, ho]; exact runv h1) h2 hw
  · rename_i t x i ho
    obtain ⟨v, hv, rfl⟩ := aval_spec h
    obtain ⟨v', h1, h2⟩ := ok_index (W := W) hv (hρ x (by simp [ho, Op.operands])) (hρ i (by simp [ho, Op.operands]))
    exact okv (by simp only [execOp, ho]; exact runv h1) h2 hw
  · rename_i t x f ho
    obtain ⟨v, hv, rfl⟩ := aval_spec h
    obtain ⟨v', h1, h2⟩ := ok_fieldv (W := W) hv (hρ x (by simp [ho, Op.operands]))
    exact okv (by simp only [execOp, ho]; exact runv h1) h2 hw
  · rename_i t x i ho
    split at h
    · obtain ⟨v, hv, rfl⟩ := aval_spec h
      obtain ⟨v', h1, h2⟩ := ok_indexv (W := W) hv (hρ x (by simp [ho, Op.operands])) (hρ i (by simp [ho, Op.operands]))
      exact okv (by simp only [execOp, ho]; exact runv h1) h2 hw
    · obtain ⟨v, hv, rfl⟩ := aval_spec h
      obtain ⟨h1, h2⟩ := aindexS_ok (P := P) (W := W) hv (hρ x (by simp [ho, Op.operands])) (hρ i (by simp [ho, Op.operands]))
      exact okv (by simp only [execOp, ho]; exact runv h1) (flat1_rel h2) hw
  · rename_i t x ho
    split at h
    · rename_i b e
      cases h
      have hx := hρ x (by simp [ho, Op.operands])
      rw [e] at hx
      have hx' : ρ' x = .bool b := flat1_eq rfl hx
      exact okv (by simp [execOp, ho, hx', Op.unary]) (.bool _) hw
    · cases h
  · rename_i t x lo hi mx ho
    split at h
    · split at h
      · rename_i hmx
        obtain ⟨v, hv, rfl⟩ := aval_spec h
        obtain ⟨h1, h2⟩ := asliceS_ok (W := W) hv (hρ x (by simp [ho, Op.operands])) (OR.map (ρ := ρ) (ρ' := ρ') fun y hy => hρ y (by subst hy; simp [ho, Op.operands]))
          (OR.map (ρ := ρ) (ρ' := ρ') fun y hy => hρ y (by subst hy; simp [ho, Op.operands]))
        exact okv (by simp only [execOp, ho]; exact runv h1) (flat1_rel h2) hw
      · cases h
    · obtain ⟨v, hv, rfl⟩ := aval_spec h
      obtain ⟨v', h1, h2⟩ := ok_slice hv (hρ x (by simp [ho, Op.operands])) (OR.map (ρ := ρ) (ρ' := ρ') fun y hy => hρ y (by subst hy; simp [ho, Op.operands]))
        (OR.map (ρ := ρ) (ρ' := ρ') fun y hy => hρ y (by subst hy; simp [ho, Op.operands])) (OR.map (ρ := ρ) (ρ' := ρ') fun y hy => hρ y (by subst hy; simp [ho, Op.operands])) hw
      exact okv (by simp only [execOp, ho]; exact runv h1) h2 hw
    · exact aquiet_ok h hρ hw
  · rename_i s d x ho
    split at h
    · obtain ⟨v, hv, rfl⟩ := aval_spec h
      obtain ⟨v', h1, h2⟩ := ok_text hv (hρ x (by simp [ho, Op.operands])) hw
      exact okv (by simp only [execOp, ho]; exact runv h1) h2 hw
    · split at h
      · rename_i r' hb
        cases h
        have := ok_bytes hb (hρ x (by simp [ho, Op.operands])) hw
        simp only [execOp, ho]
        exact this
      · exact aquiet_ok h hρ hw
    · obtain ⟨v, hv, rfl⟩ := aval_spec h
      obtain ⟨h1, h2⟩ := aconvI_ok (W := W) hv (hρ x (by simp [ho, Op.operands]))
      exact okv (by simp only [execOp, ho]; exact runv h1) (flat1_rel h2) hw
    · obtain ⟨v, hv, rfl⟩ := aval_spec h
      have hx := hρ x (by simp [ho, Op.operands])
      obtain ⟨h1, rfl⟩ := aunConv_ok hv hx hw
      exact okv (by simp only [execOp, ho]; exact runv h1) hx hw
    · exact aquiet_ok h hρ hw
  · rename_i f first captured ho
    cases h
    have v1 : VL μ (first.toList.map ρ) (first.toList.map ρ') := VL.map fun x hx => hρ x (by simp only [ho, Op.operands]; exact Array.mem_append.mpr (.inl (Array.mem_toList_iff.mp hx)))
    have v2 : VL μ (captured.toList.map ρ) (captured.toList.map ρ') := VL.map fun x hx => hρ x (by simp only [ho, Op.operands]; exact Array.mem_append.mpr (.inr (Array.mem_toList_iff.mp hx)))
    refine okv (v' := .func (.func f) (first.map ρ') (captured.map ρ')) ?_ ?_ hw
    · simp [execOp, ho, Instr.makeFunc]
    · refine .func (by simp) (fun i x y hx hy => v1.2 i x y (by simpa using hx) (by simpa using hy)) (by simp) (fun i x y hx hy => v2.2 i x y (by simpa using hx) (by simpa using hy))
  · rename_i b t x y t' ho
    split at h
    · rename_i v hv
      cases h
      have hx := hρ x (by simp [ho, Op.operands])
      have hy := hρ y (by simp [ho, Op.operands])
      have hq : (do eqGuard b t x y (ρ x) (ρ y); binOp b t (ρ x) (ρ y) : Sem Value).run P W = .ok v W ∧ flat1 v = true ∧ flat1 (ρ x) = true ∧ flat1 (ρ y) = true := by
        cases ha : afast b (ρ x) (ρ y) with
        | some u => rw [ha] at hv; cases hv; exact afast_ok ha
        | none => rw [ha] at hv; exact sfast_ok hv
      obtain ⟨h1, h2, h3, h4⟩ := hq
      rw [← flat1_eq h3 hx, ← flat1_eq h4 hy] at h1
      exact okv (by simp only [execOp, ho]; exact runv h1) (flat1_rel h2) hw
    split at h
    · rename_i v hv
      split at h
      · rename_i ht
        cases h
        have hx := hρ x (by simp [ho, Op.operands])
        have hy := hρ y (by simp [ho, Op.operands])
        refine okv (v' := v) ?_ (flat_rel ?_) hw
        · simp only [execOp, ho]
          exact runv (ok_eq hv ht hx hy)
        · unfold aeq at hv
          split at hv
          · split at hv
            · cases hv; rfl
            · cases hv
          · split at hv
            · cases hv; rfl
            · cases hv
          · cases hv
      · cases h
    · split at h
      · rename_i v hv
        cases h
        obtain ⟨q1, q2⟩ := asame_ok (P := P) (W := W) (X := x) (Y := y) hv (hρ x (by simp [ho, Op.operands])) (hρ y (by simp [ho, Op.operands]))
        exact okv (by simp only [execOp, ho]; exact runv q1) (flat1_rel q2) hw
      · exact aquiet_ok h hρ hw
  · rename_i t x k ok ho
    obtain ⟨v, hv, rfl⟩ := aval_spec h
    obtain ⟨v', h1, h2⟩ := alookup_ok hv (hρ x (by simp [ho, Op.operands])) (hρ k (by simp [ho, Op.operands])) hw
    exact okv (by simp only [execOp, ho]; exact runv h1) h2 hw
  · rename_i t m k x ho
    have := aupdate_ok h (hρ m (by simp [ho, Op.operands])) (hρ k (by simp [ho, Op.operands])) (hρ x (by simp [ho, Op.operands])) hw
    simp only [execOp, ho]
    exact this
  · rename_i t m k x ho
    have := aupdate_ok h (hρ m (by simp [ho, Op.operands])) (hρ k (by simp [ho, Op.operands])) (hρ x (by simp [ho, Op.operands])) hw
    simp only [execOp, ho]
    exact this
  · rename_i t r ho
    split at h
    · cases h
      intro k hk
      refine ⟨.map (some W.heap.size), W.alloc (.map #[] 0), ⟨W.heap.size, 0, 0, 0⟩, ?_, .map (upd_same _ _ _), hw.newMap hk _ rfl⟩
      simp only [execOp, ho, Option.map_none]
      exact runv rfl
    · cases h
  · rename_i c ho
    split at h
    · rename_i f hc
      have hops : ∀ x ∈ c.args.toList, VR μ (ρ x) (ρ' x) := fun x hx => hρ x (by simp only [ho, Op.operands, Call.operands, hc]; exact Array.mem_append.mpr (.inr (Array.mem_toList_iff.mp hx)))
      have hf : VR μ (ρ f) (ρ' f) := hρ f (by simp [ho, Op.operands, Call.operands, hc])
      have := acallf_ok (w0 := w0) (W := W) (G := G) h hf (VL.map hops)
      have e1 : (c.args.toList.map ρ').toArray = c.args.map ρ' := by apply Array.ext'; simp
      rw [e1] at this
      simp only [execOp, ho, resolve, hc]
      exact this
    · rename_i hc
      split at h
      · rename_i m k t u hargs htys
        have hops : ∀ z ∈ c.args.toList, VR μ (ρ z) (ρ' z) := fun z hz => hρ z (by simp only [ho, Op.operands, Call.operands, hc]; exact Array.mem_append.mpr (.inr (Array.mem_toList_iff.mp hz)))
        have := adelete_ok (kt2 := u) (ty := o.type) h (hops m (by rw [hargs]; simp)) (hops k (by rw [hargs]; simp)) hw
        have e1 : c.args = #[m, k] := by apply Array.ext'; rw [hargs]
        have e2 : c.argTypes = #[t, u] := by apply Array.ext'; rw [htys]
        simp only [execOp, ho, resolve, hc, e1, e2, invoke, builtin]
        simpa using this
      · cases h
    · rename_i hc
      split at h
      · rename_i x y t u hargs htys
        have hops : ∀ z ∈ c.args.toList, VR μ (ρ z) (ρ' z) := fun z hz => hρ z (by simp only [ho, Op.operands, Call.operands, hc]; exact Array.mem_append.mpr (.inr (Array.mem_toList_iff.mp hz)))
        have := ok_append (ty := o.type) h (hops x (by rw [hargs]; simp)) (hops y (by rw [hargs]; simp)) hw
        have e1 : c.args = #[x, y] := by apply Array.ext'; rw [hargs]
        have e2 : c.argTypes = #[t, u] := by apply Array.ext'; rw [htys]
        simp only [execOp, ho, resolve, hc, e1, e2, invoke, builtin]
        simpa using this
      · cases h
    · rename_i hc
      split at h
      · rename_i x t hargs htys
        split at h
        · rename_i a n cc e
          split at h
          · rename_i e' hu
            cases h
            have hx := hρ x (by have e1 : c.args = #[x] := by { apply Array.ext'; rw [hargs] }; simp [ho, Op.operands, Call.operands, hc, e1])
            have e1 : c.args = #[x] := by apply Array.ext'; rw [hargs]
            have e2 : c.argTypes = #[t] := by apply Array.ext'; rw [htys]
            have hx' : ∃ a' c', ρ' x = .slice (some a') n c' := by
              rw [e] at hx
              exact hx.slice_inv
            obtain ⟨a', c', hx'⟩ := hx'
            refine okv (v' := .int .i64 (.ofNat n)) ?_ (.int _ _) hw
            simp [execOp, ho, resolve, hc, e1, e2, invoke, builtin, Builtin.len_, hx', run_underlying hu, goInt]
          · cases h
        · rename_i s e
          split at h
          · rename_i hu
            cases h
            have e1 : c.args = #[x] := by apply Array.ext'; rw [hargs]
            have hx := hρ x (by simp [ho, Op.operands, Call.operands, hc, e1])
            have e2 : c.argTypes = #[t] := by apply Array.ext'; rw [htys]
            rw [e] at hx
            have hx' : ρ' x = .string s := flat1_eq rfl hx
            refine okv ?_ (.int _ _) hw
            simp [execOp, ho, resolve, hc, e1, e2, invoke, builtin, Builtin.len_, hx', run_underlying hu, goInt]
          · cases h
        · rename_i k e
          split at h
          · rename_i kt et hu
            split at h
            · rename_i es cl hg
              cases h
              have e1 : c.args = #[x] := by apply Array.ext'; rw [hargs]
              have hx := hρ x (by simp [ho, Op.operands, Call.operands, hc, e1])
              have e2 : c.argTypes = #[t] := by apply Array.ext'; rw [htys]
              rw [e] at hx
              obtain ⟨l, es', h1, h2, h3, h4⟩ := hw.map_at hg hx
              have hget := Go.MapKept.run_getObj_map (P := P) h3
              have hl : es.length = es'.size := h4.1
              refine okv (v' := .int .i64 (.ofNat es.length)) ?_ (.int _ _) hw
              simp [execOp, ho, resolve, hc, e1, e2, invoke, builtin, Builtin.len_, h2, run_underlying hu, hget, goInt, hl]
            · cases h
          · cases h
        · exact aquiet_ok h hρ hw
      · cases h
    · rename_i hc
      split at h
      · rename_i x hargs
        obtain ⟨v, hv, rfl⟩ := aval_spec h
        have e1 : c.args = #[x] := by apply Array.ext'; rw [hargs]
        have hx := hρ x (by simp [ho, Op.operands, Call.operands, hc, e1])
        unfold aunData at hv
        split at hv
        · rename_i e
          cases hv
          rw [e] at hx
          have hx' := flat1_eq (by rfl) hx
          refine okv (v' := .pointer none) ?_ .ptrNone hw
          simp [execOp, ho, resolve, hc, e1, invoke, builtin, hx', Lib.run_unsafeSliceData_nil]
        · rename_i k off n m e
          cases hv
          rw [e] at hx
          generalize hy : ρ' x = y at hx
          cases hx with
          | slice hm h1 h2 h3 =>
            rename_i l c'
            refine okv (v' := .pointer (some ⟨l.b, l.p + off, none⟩)) ?_ (.ptr hm) hw
            have hc' : c' ≠ 0 := by omega
            have hr := Lib.run_unsafeSliceData_row (P := P) W c.argTypes o.type ⟨l.b, l.p + off, none⟩ n c' hc'
            simp [execOp, ho, resolve, hc, e1, invoke, builtin, hy, hr]
        · cases hv
      · cases h
    · rename_i hc
      split at h
      · rename_i x n pt it hargs htys
        have e1 : c.args = #[x, n] := by apply Array.ext'; rw [hargs]
        have e2 : c.argTypes = #[pt, it] := by apply Array.ext'; rw [htys]
        have hx := hρ x (by simp [ho, Op.operands, Call.operands, hc, e1])
        have hn := hρ n (by simp [ho, Op.operands, Call.operands, hc, e1])
        have := aunStr_ok (it := it) (ty := o.type) h hx hn hw
        simp only [execOp, ho, resolve, hc, e1, e2, invoke, builtin]
        simpa using this
      · cases h
    · exact aquiet_ok h hρ hw
    · cases h
  · exact aquiet_ok h hρ hw
end

/-! ### More memory -/
def LeG (G G' : Nat → Option AObj) : Prop := ∀ k o, G k = some o → G' k = some o

theorem LeG.ov (H : Heap) (E : Nat → Option AObj) : LeG H.get (X.ov H E) := fun _ _ h => ov_get h

section
variable {P : Program} {G G' : Nat → Option AObj} {o : Oper} {ρ : Operand → Value}

theorem cellsAt_mono (hl : LeG G G') {k : Nat} {c : List Value} (h : cellsAt G k = some c) : cellsAt G' k = some c := by
  unfold cellsAt at *
  split at h
  · rename_i hk; rw [hl _ _ hk]; exact h
  · rename_i hk; rw [hl _ _ hk]; exact h
  · cases h

theorem elemAt_mono (hl : LeG G G') {k : Nat} {c : Nat} (h : elemAt G k = some c) : elemAt G' k = some c := by
  unfold elemAt at *
  split at h
  · rename_i hk; rw [hl _ _ hk]; exact h
  · rename_i hk; rw [hl _ _ hk]; exact h
  · cases h

theorem aload1_mono (hl : LeG G G') {t : Nat} {x v : Value} (h : aload1 P G t x = some v) : aload1 P G' t x = some v := by
  unfold aload1 at *
  split at h
  · split at h
    · rename_i hc; rw [cellsAt_mono hl hc]; exact h
    · cases h
  · cases h

theorem astore_mono (hl : LeG G G') {t : Nat} {x v : Value} {r : ARes} (h : astore P G t x v = some r) : astore P G' t x v = some r := by
  unfold astore at *
  split at h
  · split at h
    · rename_i hk; simp only [hl _ _ hk]; exact h
    · cases h
  · cases h

theorem aslice_mono (hl : LeG G G') {t : Nat} {x v : Value} {lo hi mx : Option Value} (h : aslice P G t x lo hi mx = some v) : aslice P G' t x lo hi mx = some v := by
  unfold aslice at *
  split at h
  · rename_i k off n c
    split at h
    · rename_i e hu
      cases he : elemAt G k with
      | none => rw [he] at h; simp at h
      | some e0 =>
        rw [he] at h
        rw [elemAt_mono hl he]
        exact h
    · cases h
  · cases h

theorem atext_mono (hl : LeG G G') {s d : Nat} {x v : Value} (h : atext P G s d x = some v) : atext P G' s d x = some v := by
  unfold atext at *
  split at h
  · rename_i k off n c
    split at h
    · split at h
      · cases hc : cellsAt G k with
        | none => rw [hc] at h; simp at h
        | some c0 => rw [hc] at h; rw [cellsAt_mono hl hc]; exact h
      · cases h
    · cases h
  · cases h

theorem asrc_mono (hl : LeG G G') {tx sz : Nat} {x : Value} {r : Nat × List Value} (h : asrc P G tx sz x = some r) : asrc P G' tx sz x = some r := by
  unfold asrc at *
  split at h
  · exact h
  · exact h
  · rename_i k off n c
    split at h
    · cases hc : cellsAt G k with
      | none => rw [hc] at h; simp at h
      | some c0 => rw [hc] at h; rw [cellsAt_mono hl hc]; exact h
    · cases h
  · exact h
  · cases h

theorem aappend_mono (hl : LeG G G') {t u : Nat} {s x : Value} {r : ARes} (h : aappend P G t u s x = some r) : aappend P G' t u s x = some r := by
  unfold aappend at *
  split at h
  · rename_i e hu
    split at h
    · rename_i ie zs hie hz
      split at h
      · cases h
      · cases hs : asrc P G u ie.size x with
        | none => rw [hs] at h; cases h
        | some q =>
          rw [hs] at h
          rw [asrc_mono hl hs]
          obtain ⟨m, vs⟩ := q
          cases m with
          | zero => exact h
          | succ m =>
            simp only at h ⊢
            split at h
            · exact h
            · rename_i k off n c
              split at h
              · cases h
              · rename_i hlim
                try simp only [hlim]
                split at h
                · rename_i hk; simp only [hl _ _ hk]; exact h
                · cases h
            · rename_i k off
              split at h
              · cases h
              · rename_i hlim
                try simp only [hlim]
                split at h
                · rename_i hk; simp only [hl _ _ hk]; exact h
                · cases h
            · cases h
    · cases h
  · cases h

theorem aunConv_mono (hl : LeG G G') {s d : Nat} {x v : Value} (h : aunConv P G s d x = some v) : aunConv P G' s d x = some v := by
  unfold aunConv at *
  split at h
  · split at h
    · rename_i hk; simp only [hl _ _ hk]; exact h
    · cases h
  · cases h

theorem aunStr_mono (hl : LeG G G') {pt : Nat} {x n : Value} {r : ARes} (h : aunStr P G pt x n = some r) : aunStr P G' pt x n = some r := by
  unfold aunStr at *
  split at h
  · exact h
  · split at h
    · split at h
      · rename_i hk; simp only [hl _ _ hk]; exact h
      · cases h
    · cases h
  · cases h

theorem aval_mono {x y : Option Value} {r : ARes} (hxy : ∀ v, x = some v → y = some v) (h : aval x = some r) : aval y = some r := by
  obtain ⟨v, hv, rfl⟩ := aval_spec h
  rw [hxy v hv]
  rfl

theorem aop_mono (hl : LeG G G') {r : ARes} (h : aop P G o ρ = some r) : aop P G' o ρ = some r := by
  unfold aop at *
  split at h
  · exact h
  · exact h
  · exact h
  · exact h
  · exact h
  · exact aval_mono (fun v hv => aload1_mono hl hv) h
  · exact astore_mono hl h
  · exact h
  · exact h
  · exact h
  · exact h
  · exact h
  · exact h
  · exact h
  · exact h
  · exact h
  · exact h
  · split at h
    · exact h
    · rename_i e
      rw [e]
      rw [← e]
      exact aval_mono (fun v hv => aslice_mono hl hv) h
    · exact h
  · split at h
    · rename_i e
      rw [e]
      rw [← e]
      exact aval_mono (fun v hv => atext_mono hl hv) h
    · exact h
    · exact h
    · rename_i e
      rw [e]
      rw [← e]
      exact aval_mono (fun v hv => aunConv_mono hl hv) h
    · exact h
  · exact h
  · exact h
  · exact aval_mono (fun v hv => alookup_mono hl hv) h
  · exact aupdate_mono hl h
  · exact aupdate_mono hl h
  · exact h
  · split at h
    · exact h
    · split at h
      · exact adelete_mono hl h
      · cases h
    · split at h
      · exact aappend_mono hl h
      · cases h
    · split at h
      · split at h
        · exact h
        · exact h
        · rename_i e
          try simp only [e]
          split at h
          · split at h
            · rename_i hk; simp only [hl _ _ hk]; exact h
            · cases h
          · cases h
        · exact h
      · cases h
    · exact h
    · split at h
      · exact aunStr_mono hl h
      · cases h
    · exact h
    · cases h
  · exact h
end
end Go.Proofs.Ytdcojinnjpihaaa.X
