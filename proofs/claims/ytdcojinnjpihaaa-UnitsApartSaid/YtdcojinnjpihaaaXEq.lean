/- Two structs of plain parts are compared. No condition. -/
import Derived.Test.YtdcojinnjpihaaaXMore
import Derived.Laws.StructEq
import Derived.ChangeKeysEq
namespace Go.Proofs.Ytdcojinnjpihaaa.X
open Go Go.RowKit

def flatEq (P : Program) (xs ys : Array Value) : List Field → Option Bool
  | [] => some true
  | f :: fs => match f.name != "_" with
    | false => none
    | true => match P.underlying f.type, xs[f.offset]?, ys[f.offset]? with
      | some .bool, some (.bool a), some (.bool b) => (flatEq P xs ys fs).map fun r => (a == b) && r
      | some (.int _), some (.int k a), some (.int k' b) => if k = k' then (flatEq P xs ys fs).map fun r => (a == b) && r else none
      | some .string, some (.string a), some (.string b) => (flatEq P xs ys fs).map fun r => (a.toList == b.toList) && r
      | _, _, _ => none

theorem run_flat {P : Program} (w : World) (d : Nat) (xs ys : Array Value) : ∀ (fs : List Field) (r : Bool), flatEq P xs ys fs = some r → (Op.eqFields (d + 1) xs ys fs).run P w = .ok r w
  | [], r, h => by
    simp only [flatEq, Option.some.injEq] at h
    subst h
    simp [Op.eqFields]
  | f :: fs, r, h => by
    unfold flatEq at h
    split at h
    · cases h
    rename_i hn
    have hn' : f.name ≠ "_" := by simpa using hn
    split at h
    · rename_i a b hu hx hy
      simp only [Option.map_eq_some_iff] at h
      obtain ⟨r', hr', rfl⟩ := h
      have hp : P.plainKey f.type = true := by unfold Program.plainKey; rw [hu]
      have ih := run_flat w d xs ys fs r' hr'
      simp only [Op.eqFields, hn', ne_eq, not_false_eq_true, if_true, Sem.run_bind, run_part_plain w hp hx, run_part_plain w hp hy, run_equalIn_bool w d f.type a b hu, Result.andThen_ok]
      cases e : (a == b)
      · simp
      · simpa using ih
    · rename_i q k a k' b hu hx hy
      split at h
      · rename_i hk
        subst hk
        simp only [Option.map_eq_some_iff] at h
        obtain ⟨r', hr', rfl⟩ := h
        have hp : P.plainKey f.type = true := by unfold Program.plainKey; rw [hu]
        have ih := run_flat w d xs ys fs r' hr'
        simp only [Op.eqFields, hn', ne_eq, not_false_eq_true, if_true, Sem.run_bind, run_part_plain w hp hx, run_part_plain w hp hy, run_equalIn_int w d f.type k q a b hu, Result.andThen_ok]
        cases e : (a == b)
        · simp
        · simpa using ih
      · cases h
    · rename_i a b hu hx hy
      simp only [Option.map_eq_some_iff] at h
      obtain ⟨r', hr', rfl⟩ := h
      have hp : P.plainKey f.type = true := by unfold Program.plainKey; rw [hu]
      have ih := run_flat w d xs ys fs r' hr'
      simp only [Op.eqFields, hn', ne_eq, not_false_eq_true, if_true, Sem.run_bind, run_part_plain w hp hx, run_part_plain w hp hy, run_equalIn_string w d f.type a b hu, Result.andThen_ok]
      cases e : (a.toList == b.toList)
      · simp
      · simpa using ih
    · cases h

section
variable {P : Program} {n : Nat} {l : List (Nat × Value)} {a : Act} {ops : Array Oper} {o : Oper} {rest : List Oper} {Q : Exit → Act → World → Prop} {W : World}
theorem run_equal_flat (w : World) (t : TypeId) (xs ys : Array Value) (r : Bool) (ht : P.underlying t = some (.struct (P.fieldsOf t))) (hp : P.stoodInHeld t = false) (hf : flatEq P xs ys (P.fieldsOf t).toList = some r) :
    (Op.equal t (.agg xs) (.agg ys)).run P w = .ok r w := by
  unfold Op.equal
  rw [show Op.maxDepth = 9998 + 1 + 1 from rfl, run_equalIn_struct w (9998 + 1) t xs ys ht hp]
  exact run_flat w 9998 xs ys _ r hf
theorem stepeq (ha : Has n l a) (d t t' : Nat) (x y : Operand) (xs ys : Array Value) (r : Bool) (ho : o.op = .binOp .eql t x y t') (hx : ev l x = .agg xs) (hy : ev l y = .agg ys)
    (ht : P.underlying t = some (.struct (P.fieldsOf t))) (hp : P.stoodInHeld t = false) (hg : P.eqGuardType P.depth t = false) (hf : flatEq P xs ys (P.fieldsOf t).toList = some r) (hok : okB n l ops o d = true)
    (h : ∀ a', Has n ((d, .bool r) :: l) a' → wpList P ops Q rest a' W) : wpList P ops Q (o :: rest) a W := by
  refine stepv (W' := W) ha d _ hok ?_ h
  unfold execOp
  simp [ho, hx, hy, Sem.run_bind, eqGuard, binOp, run_equal_flat W t xs ys r ht hp hf, hg, run_program]
theorem stepne (ha : Has n l a) (d t t' : Nat) (x y : Operand) (xs ys : Array Value) (r : Bool) (ho : o.op = .binOp .neq t x y t') (hx : ev l x = .agg xs) (hy : ev l y = .agg ys)
    (ht : P.underlying t = some (.struct (P.fieldsOf t))) (hp : P.stoodInHeld t = false) (hg : P.eqGuardType P.depth t = false) (hf : flatEq P xs ys (P.fieldsOf t).toList = some r) (hok : okB n l ops o d = true)
    (h : ∀ a', Has n ((d, .bool (!r)) :: l) a' → wpList P ops Q rest a' W) : wpList P ops Q (o :: rest) a W := by
  refine stepv (W' := W) ha d _ hok ?_ h
  unfold execOp
  simp [ho, hx, hy, Sem.run_bind, eqGuard, binOp, run_equal_flat W t xs ys r ht hp hf, hg, run_program]
end
end Go.Proofs.Ytdcojinnjpihaaa.X
